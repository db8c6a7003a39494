/- Words and walks of this claim: P0, PCanopylaw1Within, PCanopylaw1Word, PCanopylaw4Few, PCanopylaw4Within, PCmpOrInt, PCmpIsNaNInt, PCmpCompareInt, PSlicesCompareIntInt, PSlicesIndexIntInt, PSlicesContainsIntInt, PCanopylaw3Pick, PCanopylaw3Within. -/
import Derived.Test.YtjkhdldgmkkhjaaProg
import Derived.Below
import Derived.Deep.Draws
import Derived.Deep.AppendLies
import Derived.Maps.AppendAt
import Derived.OwnWalk
import Derived.Laws.BytesArg
import Derived.Laws.MakeOwn
import Derived.Laws.OwnMore
import Derived.Deep.OwnRows
import Derived.Tactics
import Derived.Lib.ConvBytes
import Derived.Laws.Slices
import Derived.WalkKit
import Derived.KernelRfl
import Derived.RowKit3
import Derived.Deep.LoopGhost
import Derived.Deep.QuietTactic
import Derived.BigQuiet
import Derived.WideLaws
import Derived.Deep.DeepCutAuto
import Derived.Deep.CutBlock
import Derived.Deep.RegionHeld3
import Derived.Laws.Rows
import Derived.Lib.AppendStr
import Derived.ArgAppend
import Derived.Laws.IdiomCopy
import Derived.OrdersHeld
import Derived.Laws.BitsLemmas
import Derived.RowKit
import Derived.Test.YtjkhdldgmkkhjaaIWWords
import Derived.Test.YtjkhdldgmkkhjaaIWLastEtc
set_option linter.unusedVariables false
set_option linter.unusedSimpArgs false
set_option linter.unnecessarySimpa false
section
namespace Go.Proofs.Ytjkhdldgmkkhjaa.P
open Go.RowKit Go.Proofs.YtjkhdldgmkkhjaaW.PrintWords Go.Proofs.YtjkhdldgmkkhjaaW.PrintLast Go.Proofs.YtjkhdldgmkkhjaaW.PrintMore
attribute [local go_sem] max2_int min2_int max_two min_two max_three min_three max_four min_four   -- for this text's walks alone
def errW:Option Int→Value
 | none=>.nilIface
 | some c=>.iface 0 (.int .i64 c)
theorem errW_none:errW none=.nilIface:=rfl
theorem errW_some (c:Int):errW (some c)=.iface 0 (.int .i64 c):=rfl
theorem info3:(Try.prog.info? 3).map (fun i=>(i.zero,i.size,i.bytes))=some (some (.int .i64 0),1,8):=by kernel_rfl
theorem info46:(Try.prog.info? 46).map (fun i=>(i.zero,i.size,i.bytes))=some (some (.agg #[(.string ⟨#[]⟩),(.int .i64 0)]),2,24):=by kernel_rfl
structure S46 where
 f0:ByteArray
 f1:Int
def z46:S46:=⟨(⟨#[]⟩:ByteArray),(0:Int)⟩
def k46:Kd S46:=Kd.iso (Kd.pair Kd.string (Kd.int .i64)) (fun x:S46=>(x.f0,x.f1))
theorem k46_open {w:World} {x:S46} {cs:List Value} (h:k46.K w x cs):cs = [.string x.f0,.int .i64 x.f1]:=by
 obtain⟨_,_,rfl,rfl,rfl⟩:=h
 exact rfl
theorem k46_mkM (w:World) (base:Nat) (ok:Nat→Prop) (x:S46)  : k46.M w base ok x [.string x.f0,.int .i64 x.f1]:=⟨[.string x.f0],[.int .i64 x.f1],rfl,rfl,rfl⟩
def rd_T46 (xs:List S46) (i:Int):S46:=xs.getD i.toNat z46
theorem at_T46 {w:World} {A:Option Addr} {n:Nat} {xs:List S46} (h:Kd.C k46 w A n xs) (i:Int) (h0:0≤i) (h1:i < n):∃ad,A=some ad∧w.cell? (ad.add (i.toNat*2))=some (.string (rd_T46 xs i).f0)∧w.cell? ⟨(ad.add (i.toNat*2)).block,(ad.add (i.toNat*2)).off+1,none⟩=some (.int .i64 (rd_T46 xs i).f1):=by
 obtain⟨ad,c,e,_,hK,hc0⟩:=Kd.C_get h z46 i h0 h1
 have hc:∀j u,c[j]? = some u→w.cell? (ad.add (i.toNat*2+j))=some u:=hc0
 obtain rfl:=k46_open hK
 exact⟨ad,e,hc 0 _ rfl,by rw [←add_field _ _ 1 (by omega)];exact hc 1 _ rfl⟩
structure S52 where
 f0:Int
 f1:Int
 f2:Int
 f3:Int
def z52:S52:=⟨(0:Int),(0:Int),(0:Int),(0:Int)⟩
def k52:Kd S52:=Kd.iso (Kd.pair (Kd.int .i64) (Kd.pair (Kd.int .i64) (Kd.pair (Kd.int .i64) (Kd.int .i64)))) (fun x:S52=>(x.f0,x.f1,x.f2,x.f3))
theorem k52_open {w:World} {x:S52} {cs:List Value} (h:k52.K w x cs):cs = [.int .i64 x.f0,.int .i64 x.f1,.int .i64 x.f2,.int .i64 x.f3]:=by
 obtain⟨_,_,rfl,rfl,⟨_,_,rfl,rfl,⟨_,_,rfl,rfl,rfl⟩⟩⟩:=h
 exact rfl
theorem k52_mk (w:World) (x:S52)  : k52.K w x [.int .i64 x.f0,.int .i64 x.f1,.int .i64 x.f2,.int .i64 x.f3]:=⟨[.int .i64 x.f0],[.int .i64 x.f1,.int .i64 x.f2,.int .i64 x.f3],rfl,rfl,⟨[.int .i64 x.f1],[.int .i64 x.f2,.int .i64 x.f3],rfl,rfl,⟨[.int .i64 x.f2],[.int .i64 x.f3],rfl,rfl,rfl⟩⟩⟩
theorem k52_mkM (w:World) (base:Nat) (ok:Nat→Prop) (x:S52)  : k52.M w base ok x [.int .i64 x.f0,.int .i64 x.f1,.int .i64 x.f2,.int .i64 x.f3]:=⟨[.int .i64 x.f0],[.int .i64 x.f1,.int .i64 x.f2,.int .i64 x.f3],rfl,rfl,⟨[.int .i64 x.f1],[.int .i64 x.f2,.int .i64 x.f3],rfl,rfl,⟨[.int .i64 x.f2],[.int .i64 x.f3],rfl,rfl,rfl⟩⟩⟩
def rd_T52 (xs:List S52) (i:Int):S52:=xs.getD i.toNat z52
theorem at_T52 {w:World} {A:Option Addr} {n:Nat} {xs:List S52} (h:Kd.C k52 w A n xs) (i:Int) (h0:0≤i) (h1:i < n):∃ad,A=some ad∧w.cell? (ad.add (i.toNat*4))=some (.int .i64 (rd_T52 xs i).f0)∧w.cell? ⟨(ad.add (i.toNat*4)).block,(ad.add (i.toNat*4)).off+1,none⟩=some (.int .i64 (rd_T52 xs i).f1)∧w.cell? ⟨(ad.add (i.toNat*4)).block,(ad.add (i.toNat*4)).off+2,none⟩=some (.int .i64 (rd_T52 xs i).f2)∧w.cell? ⟨(ad.add (i.toNat*4)).block,(ad.add (i.toNat*4)).off+3,none⟩=some (.int .i64 (rd_T52 xs i).f3):=by
 obtain⟨ad,c,e,_,hK,hc0⟩:=Kd.C_get h z52 i h0 h1
 have hc:∀j u,c[j]? = some u→w.cell? (ad.add (i.toNat*4+j))=some u:=hc0
 obtain rfl:=k52_open hK
 exact⟨ad,e,hc 0 _ rfl,by rw [←add_field _ _ 1 (by omega)];exact hc 1 _ rfl,by rw [←add_field _ _ 2 (by omega)];exact hc 2 _ rfl,by rw [←add_field _ _ 3 (by omega)];exact hc 3 _ rfl⟩
structure S54 where
 f0:Int
 f1:Int
 f2:Int
 f3:Int
def z54:S54:=⟨(0:Int),(0:Int),(0:Int),(0:Int)⟩
def k54:Kd S54:=Kd.iso (Kd.pair (Kd.int .i64) (Kd.pair (Kd.int .i64) (Kd.pair (Kd.int .i64) (Kd.int .i64)))) (fun x:S54=>(x.f0,x.f1,x.f2,x.f3))
theorem k54_open {w:World} {x:S54} {cs:List Value} (h:k54.K w x cs):cs = [.int .i64 x.f0,.int .i64 x.f1,.int .i64 x.f2,.int .i64 x.f3]:=by
 obtain⟨_,_,rfl,rfl,⟨_,_,rfl,rfl,⟨_,_,rfl,rfl,rfl⟩⟩⟩:=h
 exact rfl
theorem k54_mk (w:World) (x:S54)  : k54.K w x [.int .i64 x.f0,.int .i64 x.f1,.int .i64 x.f2,.int .i64 x.f3]:=⟨[.int .i64 x.f0],[.int .i64 x.f1,.int .i64 x.f2,.int .i64 x.f3],rfl,rfl,⟨[.int .i64 x.f1],[.int .i64 x.f2,.int .i64 x.f3],rfl,rfl,⟨[.int .i64 x.f2],[.int .i64 x.f3],rfl,rfl,rfl⟩⟩⟩
theorem k54_mkM (w:World) (base:Nat) (ok:Nat→Prop) (x:S54)  : k54.M w base ok x [.int .i64 x.f0,.int .i64 x.f1,.int .i64 x.f2,.int .i64 x.f3]:=⟨[.int .i64 x.f0],[.int .i64 x.f1,.int .i64 x.f2,.int .i64 x.f3],rfl,rfl,⟨[.int .i64 x.f1],[.int .i64 x.f2,.int .i64 x.f3],rfl,rfl,⟨[.int .i64 x.f2],[.int .i64 x.f3],rfl,rfl,rfl⟩⟩⟩
def rd_T54 (xs:List S54) (i:Int):S54:=xs.getD i.toNat z54
theorem at_T54 {w:World} {A:Option Addr} {n:Nat} {xs:List S54} (h:Kd.C k54 w A n xs) (i:Int) (h0:0≤i) (h1:i < n):∃ad,A=some ad∧w.cell? (ad.add (i.toNat*4))=some (.int .i64 (rd_T54 xs i).f0)∧w.cell? ⟨(ad.add (i.toNat*4)).block,(ad.add (i.toNat*4)).off+1,none⟩=some (.int .i64 (rd_T54 xs i).f1)∧w.cell? ⟨(ad.add (i.toNat*4)).block,(ad.add (i.toNat*4)).off+2,none⟩=some (.int .i64 (rd_T54 xs i).f2)∧w.cell? ⟨(ad.add (i.toNat*4)).block,(ad.add (i.toNat*4)).off+3,none⟩=some (.int .i64 (rd_T54 xs i).f3):=by
 obtain⟨ad,c,e,_,hK,hc0⟩:=Kd.C_get h z54 i h0 h1
 have hc:∀j u,c[j]? = some u→w.cell? (ad.add (i.toNat*4+j))=some u:=hc0
 obtain rfl:=k54_open hK
 exact⟨ad,e,hc 0 _ rfl,by rw [←add_field _ _ 1 (by omega)];exact hc 1 _ rfl,by rw [←add_field _ _ 2 (by omega)];exact hc 2 _ rfl,by rw [←add_field _ _ 3 (by omega)];exact hc 3 _ rfl⟩
structure S56 where
 f0:Int
 f1:Int
 f2:Int
def z56:S56:=⟨(0:Int),(0:Int),(0:Int)⟩
def k56:Kd S56:=Kd.iso (Kd.pair (Kd.int .i64) (Kd.pair (Kd.int .i64) (Kd.int .i64))) (fun x:S56=>(x.f0,x.f1,x.f2))
theorem k56_open {w:World} {x:S56} {cs:List Value} (h:k56.K w x cs):cs = [.int .i64 x.f0,.int .i64 x.f1,.int .i64 x.f2]:=by
 obtain⟨_,_,rfl,rfl,⟨_,_,rfl,rfl,rfl⟩⟩:=h
 exact rfl
theorem k56_mkM (w:World) (base:Nat) (ok:Nat→Prop) (x:S56)  : k56.M w base ok x [.int .i64 x.f0,.int .i64 x.f1,.int .i64 x.f2]:=⟨[.int .i64 x.f0],[.int .i64 x.f1,.int .i64 x.f2],rfl,rfl,⟨[.int .i64 x.f1],[.int .i64 x.f2],rfl,rfl,rfl⟩⟩
def rd_T56 (xs:List S56) (i:Int):S56:=xs.getD i.toNat z56
theorem at_T56 {w:World} {A:Option Addr} {n:Nat} {xs:List S56} (h:Kd.C k56 w A n xs) (i:Int) (h0:0≤i) (h1:i < n):∃ad,A=some ad∧w.cell? (ad.add (i.toNat*3))=some (.int .i64 (rd_T56 xs i).f0)∧w.cell? ⟨(ad.add (i.toNat*3)).block,(ad.add (i.toNat*3)).off+1,none⟩=some (.int .i64 (rd_T56 xs i).f1)∧w.cell? ⟨(ad.add (i.toNat*3)).block,(ad.add (i.toNat*3)).off+2,none⟩=some (.int .i64 (rd_T56 xs i).f2):=by
 obtain⟨ad,c,e,_,hK,hc0⟩:=Kd.C_get h z56 i h0 h1
 have hc:∀j u,c[j]? = some u→w.cell? (ad.add (i.toNat*3+j))=some u:=hc0
 obtain rfl:=k56_open hK
 exact⟨ad,e,hc 0 _ rfl,by rw [←add_field _ _ 1 (by omega)];exact hc 1 _ rfl,by rw [←add_field _ _ 2 (by omega)];exact hc 2 _ rfl⟩
structure S30 where
 f0:Int
 f1:Int
 f2:(List Int)
 f3:(List Int)
 f4:(List S52)
 f5:(List S54)
 f6:(List S56)
def k30:Kd S30:=Kd.iso (Kd.pair (Kd.int .i64) (Kd.pair (Kd.int .i64) (Kd.pair (Kd.slice 3 (Kd.int .i64)) (Kd.pair (Kd.slice 3 (Kd.int .i64)) (Kd.pair (Kd.slice 52 k52) (Kd.pair (Kd.slice 54 k54) (Kd.slice 56 k56))))))) (fun x:S30=>(x.f0,x.f1,x.f2,x.f3,x.f4,x.f5,x.f6))
structure S48 where
 f0:Int
 f1:(List Int)
def z48:S48:=⟨(0:Int),([]:List Int)⟩
def k48:Kd S48:=Kd.iso (Kd.pair (Kd.int .i64) (Kd.slice 3 (Kd.int .i64))) (fun x:S48=>(x.f0,x.f1))
theorem k48_open {w:World} {x:S48} {cs:List Value} (h:k48.K w x cs):∃A1 c1,cs = [.int .i64 x.f0,.slice A1 x.f1.length c1]∧x.f1.length≤c1∧(Kd.int .i64).C w A1 x.f1.length x.f1:=by
 obtain⟨_,_,rfl,rfl,⟨A1,c1,rfl,l1,g1⟩⟩:=h
 exact⟨A1,c1,rfl,l1,g1⟩
theorem k48_mkM (w:World) (base:Nat) (ok:Nat→Prop) (x:S48) {v1:Value} (g1:(Kd.int .i64).R 3 w base ok v1 x.f1):k48.M w base ok x [.int .i64 x.f0,v1]:=⟨[.int .i64 x.f0],[v1],rfl,rfl,⟨v1,rfl,g1⟩⟩
def rd_T48 (xs:List S48) (i:Int):S48:=xs.getD i.toNat z48
theorem at_T48 {w:World} {A:Option Addr} {n:Nat} {xs:List S48} (h:Kd.C k48 w A n xs) (i:Int) (h0:0≤i) (h1:i < n):∃ad A1 c1,A=some ad∧w.cell? (ad.add (i.toNat*2))=some (.int .i64 (rd_T48 xs i).f0)∧w.cell? ⟨(ad.add (i.toNat*2)).block,(ad.add (i.toNat*2)).off+1,none⟩=some (.slice A1 (rd_T48 xs i).f1.length c1)∧(rd_T48 xs i).f1.length≤c1∧(Kd.int .i64).C w A1 (rd_T48 xs i).f1.length (rd_T48 xs i).f1:=by
 obtain⟨ad,c,e,_,hK,hc0⟩:=Kd.C_get h z48 i h0 h1
 have hc:∀j u,c[j]? = some u→w.cell? (ad.add (i.toNat*2+j))=some u:=hc0
 obtain⟨A1,c1,rfl,l1,g1⟩:=k48_open hK
 exact⟨ad,A1,c1,e,hc 0 _ rfl,by rw [←add_field _ _ 1 (by omega)];exact hc 1 _ rfl,l1,g1⟩
structure S67 where
 f0:Int
 f1:(List Int)
end Go.Proofs.Ytjkhdldgmkkhjaa.P
end
section
namespace Go.Proofs.Ytjkhdldgmkkhjaa.P
open Go.RowKit Go.Proofs.YtjkhdldgmkkhjaaW.PrintWords Go.Proofs.YtjkhdldgmkkhjaaW.PrintLast Go.Proofs.YtjkhdldgmkkhjaaW.PrintMore
attribute [local go_sem] max2_int min2_int max_two min_two max_three min_three max_four min_four   -- for this text's walks alone
def canopylaw1_within.f (a0:Int) (a1:Int):Option (Int):=if a1=0 then (none) else (if (Int.tmod a0 a1) < 0 then (some (wrap64 ((Int.tmod a0 a1)+a1))) else (some (Int.tmod a0 a1)))
set_option maxHeartbeats 8000000 in
set_option maxRecDepth 100000 in
theorem canopylaw1_within.calls (a0:Int) (a1:Int) (r:Int) (w:World) (h:canopylaw1_within.f a0 a1=some r) :
 Calls Try.prog 30 #[.int .i64 a0,.int .i64 a1] w fun e w'=>e=.returned (.int .i64 r)∧Drawn0 w w':=by
 have H:(if a1=0 then (none) else (if (Int.tmod a0 a1) < 0 then (some (wrap64 ((Int.tmod a0 a1)+a1))) else (some (Int.tmod a0 a1))))=some r:=h
 clear h
 by_cases c3:a1=0
 ·rw [if_pos c3] at H
  exact absurd H (by simp)
 rw [if_neg c3] at H
 have c3b0:(a1 == 0)=false:=beq_eq_false_iff_ne.mpr c3
 have c3b1:(a1 != 0)=true:=bne_iff_ne.mpr c3
 by_cases c4:(Int.tmod a0 a1) < 0
 ·rw [if_pos c4] at H
  have c4b0:decide ((Int.tmod a0 a1) < 0)=true:=decide_eq_true c4
  clear c4
  obtain rfl:=Option.some.inj H
  go_enter Try.func30,Try.ntmps30
  go_wp2
  go_ret
  exact⟨by first|rfl|(simp;done)|(simp [*];done),by repeat (first|exact Drawn0.refl _|apply Drawn0.step)⟩
 rw [if_neg c4] at H
 have c4b0:decide ((Int.tmod a0 a1) < 0)=false:=decide_eq_false c4
 clear c4
 obtain rfl:=Option.some.inj H
 go_enter Try.func30,Try.ntmps30
 go_wp2
 go_ret
 exact⟨by first|rfl|(simp;done)|(simp [*];done),by repeat (first|exact Drawn0.refl _|apply Drawn0.step)⟩
end Go.Proofs.Ytjkhdldgmkkhjaa.P
end
section
namespace Go.Proofs.Ytjkhdldgmkkhjaa.P
open Go.RowKit Go.Proofs.YtjkhdldgmkkhjaaW.PrintWords Go.Proofs.YtjkhdldgmkkhjaaW.PrintLast Go.Proofs.YtjkhdldgmkkhjaaW.PrintMore
attribute [local go_sem] max2_int min2_int max_two min_two max_three min_three max_four min_four   -- for this text's walks alone
def canopylaw1_Word.l0:Nat→List (S46)→List Int→Int→List Int→Int→Option (List Int)
 | 0,_,_,_,_,_=>none
 | k+1,x0,x1,x2,x7,x8=>if x8 < (x1.length:Int) then (if x8 < x2 then (if 0≤x8 then ((canopylaw1_within.f (rd x1 x8) (x0.length:Int)).bind fun t183=>(if x7.length < 17592186044416 then (canopylaw1_Word.l0 k x0 x1 x2 (x7 ++ [t183]) (wrap64 (x8+1))) else (none))) else (none)) else (some x7)) else (some x7)
def canopylaw1_Word.f (k:Nat) (l0:List (S46)) (l1:List Int) (a2:Int):Option (List Int):=canopylaw1_Word.l0 k l0 l1 a2 ([]:List Int) 0
theorem canopylaw1_Word.mono_l:∀k,(∀y0 y1 y2 y3 y4,LeO (canopylaw1_Word.l0 k y0 y1 y2 y3 y4) (canopylaw1_Word.l0 (k+1) y0 y1 y2 y3 y4))
 | 0=>fun _ _ _ _ _ r h=>by simp [canopylaw1_Word.l0] at h
 | k+1=>by
  have ih0:=canopylaw1_Word.mono_l k
  intro y0 y1 y2 y3 y4
  unfold canopylaw1_Word.l0
  repeat' first
  | (with_reducible exact ih0 _ _ _ _ _)
  | (with_reducible exact LeO.refl _)
  | (with_reducible exact LeO.none _)
  | (with_reducible refine LeO.ite ?_ ?_)
  | (with_reducible refine LeO.bind ?_ (fun _=>?_))
  | exact ih0 _ _ _ _ _
  | exact LeO.none _
  | refine LeO.ite ?_ ?_
  | refine LeO.bind ?_ (fun _=>?_)
theorem canopylaw1_Word.mono:∀a0 a1 a2 k,LeO (canopylaw1_Word.f k a0 a1 a2) (canopylaw1_Word.f (k+1) a0 a1 a2):=by
 intro a0 a1 a2 k
 have ih0:=canopylaw1_Word.mono_l k
 unfold canopylaw1_Word.f
 repeat' first
  | (with_reducible exact ih0 _ _ _ _ _)
  | (with_reducible exact LeO.refl _)
  | (with_reducible exact LeO.none _)
  | (with_reducible refine LeO.ite ?_ ?_)
  | (with_reducible refine LeO.bind ?_ (fun _=>?_))
  | exact ih0 _ _ _ _ _
  | exact LeO.none _
  | refine LeO.ite ?_ ?_
  | refine LeO.bind ?_ (fun _=>?_)
set_option maxHeartbeats 8000000 in
set_option maxRecDepth 100000 in
theorem canopylaw1_Word.calls (k:Nat) (A0:Option Addr) (c0:Nat) (l0:List (S46)) (A1:Option Addr) (c1:Nat) (l1:List Int) (a2:Int) (r:List Int) (w:World) (hr0:Kd.C k46 w A0 l0.length l0) (hc0:l0.length≤c0) (hr1:Kd.C (Kd.int .i64) w A1 l1.length l1) (hc1:l1.length≤c1) (h:canopylaw1_Word.f k l0 l1 a2=some r) :
 Calls Try.prog 16 #[.slice A0 l0.length c0,.slice A1 l1.length c1,.int .i64 a2] w fun e w'=>∃v0_:Value,e=.returned (v0_)∧Kd.R (Kd.int .i64) 3 w' w.heap.size (fun _=>True) v0_ r∧Below w.heap.size w w':=by
 have HR0:=Aside0.mk hr0
 have HC0:=Aside0.mk hc0
 clear hr0 hc0
 have HR1:=Aside0.mk hr1
 have HC1:=Aside0.mk hc1
 clear hr1 hc1
 have HB:=Aside0.mk (Below.refl w.heap.size w)
 have H:(canopylaw1_Word.l0 k l0 l1 a2 ([]:List Int) 0)=some r:=h
 clear h
 have H':=Aside0.mk H
 clear H
 go_enter Try.func16,Try.ntmps16
 go_wp2
 go_loopg [7,8] k (fun kq v7 v8 w'=>∃(x7_1:List Int) (x8_1:Int),v8=.int .i64 x8_1∧Aside0 (canopylaw1_Word.l0 kq l0 l1 a2 x7_1 x8_1=some r)∧Aside0 (kq≤k)∧Aside0 (Kd.R (Kd.int .i64) 3 w' w.heap.size (fun _=>True) v7 x7_1)∧Aside0 (Below w.heap.size w w'))
 case atStart=>exact⟨(([]:List Int)),(0),(by first|rfl|(simp;done)|(simp [*];done)),H',⟨Nat.le_refl _⟩,⟨by first|exact Kd.R_nil _ _ _ _ _|exact Kd.N_nil _ _ _ _ _|exact Kd.V_nil _ _ _ _ _|exact Kd.Q_nil _ _ _ _ _|exact Kd.S_nil _ _ _ _ _⟩,⟨by repeat (first|(with_reducible first|exact HB.out|apply below_alloc|apply pw_below_drewN|apply below_drew1)|exact HB.out)⟩⟩
 case' round=>skip
 clear H'
 try clear c1
 try clear p2
 obtain⟨x7_1,x8_1,rfl,HA,HK1,HO_7,HB⟩:=hrel
 cases gk with
 | zero=>exact absurd HA.out (by simp [canopylaw1_Word.l0])
 | succ k1=>
  have H:=HA.out
  clear HA
  simp only [canopylaw1_Word.l0] at H
  by_cases c4:x8_1 < (l1.length:Int)
  ·rw [if_pos c4] at H
   have c4b0:decide (x8_1 < (l1.length:Int))=true:=decide_eq_true c4
   clear c4
   by_cases c5:x8_1 < a2
   ·rw [if_pos c5] at H
    have c5b0:decide (x8_1 < a2)=true:=decide_eq_true c5
    clear c5
    by_cases c6:0≤x8_1
    ·rw [if_pos c6] at H
     have c6b0:decide (0≤x8_1)=true:=decide_eq_true c6
     clear c6
     replace H:=Option.bind_eq_some_iff.mp H
     obtain⟨t183,A70,H⟩:=H
     replace H:(if x7_1.length < 17592186044416 then (canopylaw1_Word.l0 k1 l0 l1 a2 (x7_1 ++ [t183]) (wrap64 (x8_1+1))) else (none))=some r:=H
     have A7:=Aside0.mk A70
     clear A70
     by_cases c8:x7_1.length < 17592186044416
     ·rw [if_pos c8] at H
      have LMc8:=Aside0.mk c8
      clear c8
      obtain⟨y184,hy184⟩:∃y_:List Int,y_=(x7_1 ++ [t183]):=⟨_,rfl⟩
      replace H:(canopylaw1_Word.l0 k1 l0 l1 a2 y184 (wrap64 (x8_1+1)))=some r:=by first|(rw [hy184];with_reducible exact H)|(have H2_:=(Option.bind_some _ _).symm.trans H;rw [hy184];with_reducible exact H2_)|(have H2_:=(Option.bind_some _ _).symm.trans H;with_reducible exact H2_)|with_reducible exact H|(rw [hy184];exact H)|exact H
      have Ny184:=Aside0.mk hy184
      clear hy184
      have H':=Aside0.mk H
      clear H
      have p182:0≤(x8_1:Int):=of_decide_eq_true (by first|(with_reducible assumption)|assumption)
      have q182:x8_1 < (l1.length:Int):=of_decide_eq_true (by first|(with_reducible assumption)|assumption)
      obtain⟨ad182,e182,hx182_0⟩:=Kd.at_int HR1.out x8_1 p182 q182
      cases e182
      replace hx182_0:=(HB.out.cell (World.block_lt_of_cell? w _ hx182_0)).trans hx182_0
      replace p182:=eq_true p182
      replace q182:=eq_true q182
      go_wp2_with (first|((with_reducible refine gate_callee (f:=30) rfl ?_);refine goesL_ (some 27) rfl rfl Try.func30 (by kernel_rfl) rfl #[.int .i64 (rd l1 x8_1),.int .i64 (l0.length:Int)] rfl (by(try simp only [List.map_toArray,List.map_cons,List.map_nil]);first|done|rfl|(simp only [List.length_drop,List.length_take];rfl)) ?_;(with_reducible refine(canopylaw1_within.calls (rd l1 x8_1) (l0.length:Int) t183 _ A7.out).mono ?_);rintro e w' ⟨rfl,⟨nd,rfl⟩⟩;refine⟨_,rfl,?_⟩)|((with_reducible refine gate_builtin (b:=.append) (xs:=#[.tmp 20,.tmp 28]) rfl ?_);at_builtin;refine Kd.R_append (Kd.int .i64) (w0:=w) w.heap.size rfl (.tmp 20) (.tmp 28) 22 3 (.int .i64 0) 8 rfl Try.underlying22 info3 rfl (by decide) (by omega) u7 x7_1 t183 [.int .i64 t183] (fun _=>True) (fun _=>False) rfl rfl ?aP (fun _ hk=>hk.elim) ?aF ?aO ?aB ?aS ?aL ?_;(case aP=>exact rfl);(case aB=>exact(by repeat (first|(with_reducible first|exact HB.out|apply below_alloc|apply pw_below_drewN|apply below_drew1)|exact HB.out)));(case aF=>exact(fun _ _=>trivial));(case aO=>exact(by(with_reducible repeat (first|apply Kd.R_alloc|apply Kd.R_drewN|apply Kd.R_drew));exact HO_7.out));(case aS=>exact(below_size (by repeat (first|(with_reducible first|exact HB.out|apply below_alloc|apply pw_below_drewN|apply below_drew1)|exact HB.out))));(case aL=>have:=LMc8.out;omega);intro v185 w9 ho hb hg hat;rw [←Ny184.out] at ho;have n0_:=Aside0.mk (hb);have n1_:=Aside0.mk (ho);clear HB;clear HO_7;have HB:=n0_;have HO186:=n1_;clear n0_ n1_;clear ho hb hg hat))
      go_roundg k1
      case measure=>have:=HK1.out;omega
      case rel=>exact⟨(y184),(wrap64 (x8_1+1)),(by first|rfl|(simp;done)|(simp [*];done)),H',⟨by have:=HK1.out;omega⟩,⟨by(with_reducible repeat (first|apply Kd.R_alloc|apply Kd.R_drewN|apply Kd.R_drew));exact HO186.out⟩,⟨by repeat (first|(with_reducible first|exact HB.out|apply below_alloc|apply pw_below_drewN|apply below_drew1)|exact HB.out)⟩⟩
     rw [if_neg c8] at H
     exact absurd H (by simp)
    rw [if_neg c6] at H
    exact absurd H (by simp)
   rw [if_neg c5] at H
   have c5b0:decide (x8_1 < a2)=false:=decide_eq_false c5
   clear c5
   obtain rfl:=Option.some.inj H
   go_wp2
   go_ret
   exact⟨_,by first|rfl|(simp [errW_none,errW_some]<;>rfl)|(simp [*,errW_none,errW_some]<;>rfl),by(with_reducible repeat (first|apply Kd.R_alloc|apply Kd.R_drewN|apply Kd.R_drew));exact HO_7.out,by repeat (first|(with_reducible first|exact HB.out|apply below_alloc|apply pw_below_drewN|apply below_drew1)|exact HB.out)⟩
  rw [if_neg c4] at H
  have c4b0:decide (x8_1 < (l1.length:Int))=false:=decide_eq_false c4
  clear c4
  obtain rfl:=Option.some.inj H
  go_wp2
  go_ret
  exact⟨_,by first|rfl|(simp [errW_none,errW_some]<;>rfl)|(simp [*,errW_none,errW_some]<;>rfl),by(with_reducible repeat (first|apply Kd.R_alloc|apply Kd.R_drewN|apply Kd.R_drew));exact HO_7.out,by repeat (first|(with_reducible first|exact HB.out|apply below_alloc|apply pw_below_drewN|apply below_drew1)|exact HB.out)⟩
end Go.Proofs.Ytjkhdldgmkkhjaa.P
end
section
namespace Go.Proofs.Ytjkhdldgmkkhjaa.P
open Go.RowKit Go.Proofs.YtjkhdldgmkkhjaaW.PrintWords Go.Proofs.YtjkhdldgmkkhjaaW.PrintLast Go.Proofs.YtjkhdldgmkkhjaaW.PrintMore
attribute [local go_sem] max2_int min2_int max_two min_two max_three min_three max_four min_four   -- for this text's walks alone
def canopylaw4_few.l0:Nat→List (S46)→List Int→Int→Int→Int→Option (List Int)
 | 0,_,_,_,_,_=>none
 | k+1,x0,x1,x2,x7,x8=>if x8 < (x1.length:Int) then (if 0≤x8 then (if 0≤(rd x1 x8) then (if (rd x1 x8) < (x0.length:Int) then (if ((rd_T46 x0 (rd x1 x8)).f1)=1 then (if (wrap64 (x7+1)) > x2 then (if x8≤(x1.length:Int) then (some (x1.take (x8:Int).toNat)) else (none)) else (canopylaw4_few.l0 k x0 x1 x2 (wrap64 (x7+1)) (wrap64 (x8+1)))) else (if x7 > x2 then (if x8≤(x1.length:Int) then (some (x1.take (x8:Int).toNat)) else (none)) else (canopylaw4_few.l0 k x0 x1 x2 x7 (wrap64 (x8+1))))) else (none)) else (none)) else (none)) else (some x1)
def canopylaw4_few.f (k:Nat) (l0:List (S46)) (l1:List Int) (a2:Int):Option (List Int):=canopylaw4_few.l0 k l0 l1 a2 0 0
theorem canopylaw4_few.mono_l:∀k,(∀y0 y1 y2 y3 y4,LeO (canopylaw4_few.l0 k y0 y1 y2 y3 y4) (canopylaw4_few.l0 (k+1) y0 y1 y2 y3 y4))
 | 0=>fun _ _ _ _ _ r h=>by simp [canopylaw4_few.l0] at h
 | k+1=>by
  have ih0:=canopylaw4_few.mono_l k
  intro y0 y1 y2 y3 y4
  unfold canopylaw4_few.l0
  repeat' first
  | (with_reducible exact ih0 _ _ _ _ _)
  | (with_reducible exact LeO.refl _)
  | (with_reducible exact LeO.none _)
  | (with_reducible refine LeO.ite ?_ ?_)
  | (with_reducible refine LeO.bind ?_ (fun _=>?_))
  | exact ih0 _ _ _ _ _
  | exact LeO.none _
  | refine LeO.ite ?_ ?_
  | refine LeO.bind ?_ (fun _=>?_)
theorem canopylaw4_few.mono:∀a0 a1 a2 k,LeO (canopylaw4_few.f k a0 a1 a2) (canopylaw4_few.f (k+1) a0 a1 a2):=by
 intro a0 a1 a2 k
 have ih0:=canopylaw4_few.mono_l k
 unfold canopylaw4_few.f
 repeat' first
  | (with_reducible exact ih0 _ _ _ _ _)
  | (with_reducible exact LeO.refl _)
  | (with_reducible exact LeO.none _)
  | (with_reducible refine LeO.ite ?_ ?_)
  | (with_reducible refine LeO.bind ?_ (fun _=>?_))
  | exact ih0 _ _ _ _ _
  | exact LeO.none _
  | refine LeO.ite ?_ ?_
  | refine LeO.bind ?_ (fun _=>?_)
set_option maxHeartbeats 8000000 in
set_option maxRecDepth 100000 in
theorem canopylaw4_few.calls (k:Nat) (A0:Option Addr) (c0:Nat) (l0:List (S46)) (P1_:Nat→Prop) (u9000_:Value) (l1:List Int) (a2:Int) (r:List Int) (w0 w:World) (hB:Below w0.heap.size w0 w) (hr0:∀W_,Kept w W_ (fun k_=>P1_ k_)→Kd.C k46 W_ A0 l0.length l0) (hc0:l0.length≤c0) (ho1:Kd.R (Kd.int .i64) 3 w w0.heap.size P1_ u9000_ l1) (h:canopylaw4_few.f k l0 l1 a2=some r) :
 Calls Try.prog 15 #[.slice A0 l0.length c0,u9000_,.int .i64 a2] w fun e w'=>∃v0_:Value,e=.returned (v0_)∧Kd.R (Kd.int .i64) 3 w' w0.heap.size (fun k_=>(P1_ k_∨w.heap.size≤k_)) v0_ r∧Below w0.heap.size w0 w'∧Kept w w' (fun k_=>P1_ k_):=by
 have HR0:=Aside0.mk hr0
 have HC0:=Aside0.mk hc0
 clear hr0 hc0
 have HO1:=Aside0.mk (show Kd.R (Kd.int .i64) 3 w w0.heap.size (fun k_=>(P1_ k_∨w.heap.size≤k_)) u9000_ l1 from Kd.R_mono ho1 (fun k_ hk=>(.inl hk)))
 have HK:=Aside0.mk (Kept.refl w (fun k_=>P1_ k_))
 have HW0:=Aside0.mk hB.size
 have HB:=Aside0.mk hB
 clear hB
 have H:(canopylaw4_few.l0 k l0 l1 a2 0 0)=some r:=h
 clear h
 have H':=Aside0.mk H
 clear H
 go_enter Try.func15,Try.ntmps15
 go_wp2
 go_loopg [7,8] k (fun kq v7 v8 w'=>∃(x7_1:Int) (x8_1:Int),v7=.int .i64 x7_1∧v8=.int .i64 x8_1∧Aside0 (canopylaw4_few.l0 kq l0 l1 a2 x7_1 x8_1=some r)∧Aside0 (kq≤k)∧Aside0 (Kd.R (Kd.int .i64) 3 w' w0.heap.size (fun k_=>(P1_ k_∨w.heap.size≤k_)) u9000_ l1)∧Aside0 (Kept w w' (fun k_=>P1_ k_))∧Aside0 (Below w0.heap.size w0 w'))
 case atStart=>exact⟨(0),(0),(by first|rfl|(simp;done)|(simp [*];done)),(by first|rfl|(simp;done)|(simp [*];done)),H',⟨Nat.le_refl _⟩,⟨by(with_reducible repeat (first|apply Kd.R_alloc|apply Kd.R_drewN|apply Kd.R_drew));exact HO1.out⟩,⟨by repeat (first|(with_reducible first|exact HK.out|apply Kept.alloc|apply Kept.drewN|apply Kept.drew)|exact HK.out)⟩,⟨by repeat (first|(with_reducible first|exact HB.out|apply below_alloc|apply pw_below_drewN|apply below_drew1)|exact HB.out)⟩⟩
 case' round=>skip
 clear H'
 try clear c1
 try clear p2
 obtain⟨x7_1,x8_1,rfl,rfl,HA,HK1,HO_1,HK,HB⟩:=hrel
 cases gk with
 | zero=>exact absurd HA.out (by simp [canopylaw4_few.l0])
 | succ k1=>
  have H:=HA.out
  clear HA
  simp only [canopylaw4_few.l0] at H
  by_cases c4:x8_1 < (l1.length:Int)
  ·rw [if_pos c4] at H
   have c4b0:decide (x8_1 < (l1.length:Int))=true:=decide_eq_true c4
   clear c4
   by_cases c5:0≤x8_1
   ·rw [if_pos c5] at H
    have c5b0:decide (0≤x8_1)=true:=decide_eq_true c5
    clear c5
    by_cases c6:0≤(rd l1 x8_1)
    ·rw [if_pos c6] at H
     have c6b0:decide (0≤(rd l1 x8_1))=true:=decide_eq_true c6
     clear c6
     by_cases c7:(rd l1 x8_1) < (l0.length:Int)
     ·rw [if_pos c7] at H
      have c7b0:decide ((rd l1 x8_1) < (l0.length:Int))=true:=decide_eq_true c7
      clear c7
      by_cases c8:((rd_T46 l0 (rd l1 x8_1)).f1)=1
      ·rw [if_pos c8] at H
       have c8b0:(((rd_T46 l0 (rd l1 x8_1)).f1) == 1)=true:=beq_iff_eq.mpr c8
       have c8b1:(((rd_T46 l0 (rd l1 x8_1)).f1) != 1)=false:=bne_eq_false_iff_eq.mpr c8
       clear c8
       by_cases c9:(wrap64 (x7_1+1)) > a2
       ·rw [if_pos c9] at H
        have c9b0:decide (a2 < (wrap64 (x7_1+1)))=true:=decide_eq_true c9
        clear c9
        by_cases c10:x8_1≤(l1.length:Int)
        ·rw [if_pos c10] at H
         have c10b0:=eq_true c10
         have c10b1:decide (x8_1≤(l1.length:Int))=true:=decide_eq_true c10
         clear c10
         obtain⟨y176,hy176⟩:∃y_:List Int,y_=(l1.take (x8_1:Int).toNat):=⟨_,rfl⟩
         replace H:(some y176)=some r:=by first|(rw [hy176];with_reducible exact H)|(have H2_:=(Option.bind_some _ _).symm.trans H;rw [hy176];with_reducible exact H2_)|(have H2_:=(Option.bind_some _ _).symm.trans H;with_reducible exact H2_)|with_reducible exact H|(rw [hy176];exact H)|exact H
         have Ny176:=Aside0.mk hy176
         clear hy176
         obtain rfl:=Option.some.inj H
         obtain⟨Ao11,co11,eo11⟩:=Kd.R_slice HO_1.out
         subst eo11
         have p174:0≤(x8_1:Int):=of_decide_eq_true (by first|(with_reducible assumption)|assumption)
         have q174:x8_1 < (l1.length:Int):=of_decide_eq_true (by first|(with_reducible assumption)|assumption)
         obtain⟨ad174,e174,hx174_0⟩:=Kd.at_int (Kd.R_reads' HO_1.out).2.2 x8_1 p174 q174
         cases e174
         replace p174:=eq_true p174
         replace q174:=eq_true q174
         have p175:0≤((rd l1 x8_1):Int):=of_decide_eq_true (by first|(with_reducible assumption)|assumption)
         have q175:(rd l1 x8_1) < (l0.length:Int):=of_decide_eq_true (by first|(with_reducible assumption)|assumption)
         obtain⟨ad175,e175,hx175_0,hx175_1⟩:=at_T46 (Kd.C_kept_now HR0.out HK.out) (rd l1 x8_1) p175 q175
         cases e175
         replace p175:=eq_true p175
         replace q175:=eq_true q175
         have q12:(x8_1:Int)≤((l1.length:Int):Int):=of_decide_eq_true (by first|(with_reducible assumption)|assumption)
         obtain⟨i012,hi012,_,hsz12,_⟩:=info_parts info3
         have hcut12:=cut_to (P:=Try.prog) 22 3 .i64 Try.underlying22 hi012 (some ad174) l1.length co11 x8_1 (of_decide_eq_true (by first|(with_reducible assumption)|assumption)) q12 (Kd.R_reads' HO_1.out).2.1
         have hr12:=Kd.R_take (m:=(x8_1:Int).toNat) HO_1.out (by omega)
         have hy12:y176.length=(x8_1:Int).toNat:=(by rw [Ny176.out,List.length_take];omega)
         rw [←Ny176.out] at hr12
         rw [←hy12] at hr12 hcut12
         clear hy12 hi012 hsz12 HO_1
         have HO178:=Aside0.mk hr12
         clear hr12
         replace q12:=eq_true q12
         go_wp2
         go_ret
         exact⟨_,by first|rfl|(simp [errW_none,errW_some]<;>rfl)|(simp [*,errW_none,errW_some]<;>rfl),by(with_reducible repeat (first|apply Kd.R_alloc|apply Kd.R_drewN|apply Kd.R_drew));exact HO178.out,by repeat (first|(with_reducible first|exact HB.out|apply below_alloc|apply pw_below_drewN|apply below_drew1)|exact HB.out),by repeat (first|(with_reducible first|exact HK.out|apply Kept.alloc|apply Kept.drewN|apply Kept.drew)|exact HK.out)⟩
        rw [if_neg c10] at H
        exact absurd H (by simp)
       rw [if_neg c9] at H
       have c9b0:decide (a2 < (wrap64 (x7_1+1)))=false:=decide_eq_false c9
       clear c9
       have H':=Aside0.mk H
       clear H
       obtain⟨Ao13,co13,eo13⟩:=Kd.R_slice HO_1.out
       subst eo13
       have p174:0≤(x8_1:Int):=of_decide_eq_true (by first|(with_reducible assumption)|assumption)
       have q174:x8_1 < (l1.length:Int):=of_decide_eq_true (by first|(with_reducible assumption)|assumption)
       obtain⟨ad174,e174,hx174_0⟩:=Kd.at_int (Kd.R_reads' HO_1.out).2.2 x8_1 p174 q174
       cases e174
       replace p174:=eq_true p174
       replace q174:=eq_true q174
       have p175:0≤((rd l1 x8_1):Int):=of_decide_eq_true (by first|(with_reducible assumption)|assumption)
       have q175:(rd l1 x8_1) < (l0.length:Int):=of_decide_eq_true (by first|(with_reducible assumption)|assumption)
       obtain⟨ad175,e175,hx175_0,hx175_1⟩:=at_T46 (Kd.C_kept_now HR0.out HK.out) (rd l1 x8_1) p175 q175
       cases e175
       replace p175:=eq_true p175
       replace q175:=eq_true q175
       go_wp2
       go_roundg k1
       case measure=>have:=HK1.out;omega
       case rel=>exact⟨(wrap64 (x7_1+1)),(wrap64 (x8_1+1)),(by first|rfl|(simp;done)|(simp [*];done)),(by first|rfl|(simp;done)|(simp [*];done)),H',⟨by have:=HK1.out;omega⟩,⟨by(with_reducible repeat (first|apply Kd.R_alloc|apply Kd.R_drewN|apply Kd.R_drew));exact HO_1.out⟩,⟨by repeat (first|(with_reducible first|exact HK.out|apply Kept.alloc|apply Kept.drewN|apply Kept.drew)|exact HK.out)⟩,⟨by repeat (first|(with_reducible first|exact HB.out|apply below_alloc|apply pw_below_drewN|apply below_drew1)|exact HB.out)⟩⟩
      rw [if_neg c8] at H
      have c8b0:(((rd_T46 l0 (rd l1 x8_1)).f1) == 1)=false:=beq_eq_false_iff_ne.mpr c8
      have c8b1:(((rd_T46 l0 (rd l1 x8_1)).f1) != 1)=true:=bne_iff_ne.mpr c8
      by_cases c14:x7_1 > a2
      ·rw [if_pos c14] at H
       have c14b0:decide (a2 < x7_1)=true:=decide_eq_true c14
       clear c14
       by_cases c15:x8_1≤(l1.length:Int)
       ·rw [if_pos c15] at H
        have c15b0:=eq_true c15
        have c15b1:decide (x8_1≤(l1.length:Int))=true:=decide_eq_true c15
        clear c15
        obtain⟨y179,hy179⟩:∃y_:List Int,y_=(l1.take (x8_1:Int).toNat):=⟨_,rfl⟩
        replace H:(some y179)=some r:=by first|(rw [hy179];with_reducible exact H)|(have H2_:=(Option.bind_some _ _).symm.trans H;rw [hy179];with_reducible exact H2_)|(have H2_:=(Option.bind_some _ _).symm.trans H;with_reducible exact H2_)|with_reducible exact H|(rw [hy179];exact H)|exact H
        have Ny179:=Aside0.mk hy179
        clear hy179
        obtain rfl:=Option.some.inj H
        obtain⟨Ao16,co16,eo16⟩:=Kd.R_slice HO_1.out
        subst eo16
        have p174:0≤(x8_1:Int):=of_decide_eq_true (by first|(with_reducible assumption)|assumption)
        have q174:x8_1 < (l1.length:Int):=of_decide_eq_true (by first|(with_reducible assumption)|assumption)
        obtain⟨ad174,e174,hx174_0⟩:=Kd.at_int (Kd.R_reads' HO_1.out).2.2 x8_1 p174 q174
        cases e174
        replace p174:=eq_true p174
        replace q174:=eq_true q174
        have p175:0≤((rd l1 x8_1):Int):=of_decide_eq_true (by first|(with_reducible assumption)|assumption)
        have q175:(rd l1 x8_1) < (l0.length:Int):=of_decide_eq_true (by first|(with_reducible assumption)|assumption)
        obtain⟨ad175,e175,hx175_0,hx175_1⟩:=at_T46 (Kd.C_kept_now HR0.out HK.out) (rd l1 x8_1) p175 q175
        cases e175
        replace p175:=eq_true p175
        replace q175:=eq_true q175
        have q17:(x8_1:Int)≤((l1.length:Int):Int):=of_decide_eq_true (by first|(with_reducible assumption)|assumption)
        obtain⟨i017,hi017,_,hsz17,_⟩:=info_parts info3
        have hcut17:=cut_to (P:=Try.prog) 22 3 .i64 Try.underlying22 hi017 (some ad174) l1.length co16 x8_1 (of_decide_eq_true (by first|(with_reducible assumption)|assumption)) q17 (Kd.R_reads' HO_1.out).2.1
        have hr17:=Kd.R_take (m:=(x8_1:Int).toNat) HO_1.out (by omega)
        have hy17:y179.length=(x8_1:Int).toNat:=(by rw [Ny179.out,List.length_take];omega)
        rw [←Ny179.out] at hr17
        rw [←hy17] at hr17 hcut17
        clear hy17 hi017 hsz17 HO_1
        have HO181:=Aside0.mk hr17
        clear hr17
        replace q17:=eq_true q17
        go_wp2
        go_ret
        exact⟨_,by first|rfl|(simp [errW_none,errW_some]<;>rfl)|(simp [*,errW_none,errW_some]<;>rfl),by(with_reducible repeat (first|apply Kd.R_alloc|apply Kd.R_drewN|apply Kd.R_drew));exact HO181.out,by repeat (first|(with_reducible first|exact HB.out|apply below_alloc|apply pw_below_drewN|apply below_drew1)|exact HB.out),by repeat (first|(with_reducible first|exact HK.out|apply Kept.alloc|apply Kept.drewN|apply Kept.drew)|exact HK.out)⟩
       rw [if_neg c15] at H
       exact absurd H (by simp)
      rw [if_neg c14] at H
      have c14b0:decide (a2 < x7_1)=false:=decide_eq_false c14
      clear c14
      have H':=Aside0.mk H
      clear H
      obtain⟨Ao18,co18,eo18⟩:=Kd.R_slice HO_1.out
      subst eo18
      have p174:0≤(x8_1:Int):=of_decide_eq_true (by first|(with_reducible assumption)|assumption)
      have q174:x8_1 < (l1.length:Int):=of_decide_eq_true (by first|(with_reducible assumption)|assumption)
      obtain⟨ad174,e174,hx174_0⟩:=Kd.at_int (Kd.R_reads' HO_1.out).2.2 x8_1 p174 q174
      cases e174
      replace p174:=eq_true p174
      replace q174:=eq_true q174
      have p175:0≤((rd l1 x8_1):Int):=of_decide_eq_true (by first|(with_reducible assumption)|assumption)
      have q175:(rd l1 x8_1) < (l0.length:Int):=of_decide_eq_true (by first|(with_reducible assumption)|assumption)
      obtain⟨ad175,e175,hx175_0,hx175_1⟩:=at_T46 (Kd.C_kept_now HR0.out HK.out) (rd l1 x8_1) p175 q175
      cases e175
      replace p175:=eq_true p175
      replace q175:=eq_true q175
      go_wp2
      go_roundg k1
      case measure=>have:=HK1.out;omega
      case rel=>exact⟨(x7_1),(wrap64 (x8_1+1)),(by first|rfl|(simp;done)|(simp [*];done)),(by first|rfl|(simp;done)|(simp [*];done)),H',⟨by have:=HK1.out;omega⟩,⟨by(with_reducible repeat (first|apply Kd.R_alloc|apply Kd.R_drewN|apply Kd.R_drew));exact HO_1.out⟩,⟨by repeat (first|(with_reducible first|exact HK.out|apply Kept.alloc|apply Kept.drewN|apply Kept.drew)|exact HK.out)⟩,⟨by repeat (first|(with_reducible first|exact HB.out|apply below_alloc|apply pw_below_drewN|apply below_drew1)|exact HB.out)⟩⟩
     rw [if_neg c7] at H
     exact absurd H (by simp)
    rw [if_neg c6] at H
    exact absurd H (by simp)
   rw [if_neg c5] at H
   exact absurd H (by simp)
  rw [if_neg c4] at H
  have c4b0:decide (x8_1 < (l1.length:Int))=false:=decide_eq_false c4
  clear c4
  obtain rfl:=Option.some.inj H
  obtain⟨Ao19,co19,eo19⟩:=Kd.R_slice HO_1.out
  subst eo19
  go_wp2
  go_ret
  exact⟨_,by first|rfl|(simp [errW_none,errW_some]<;>rfl)|(simp [*,errW_none,errW_some]<;>rfl),by(with_reducible repeat (first|apply Kd.R_alloc|apply Kd.R_drewN|apply Kd.R_drew));exact HO_1.out,by repeat (first|(with_reducible first|exact HB.out|apply below_alloc|apply pw_below_drewN|apply below_drew1)|exact HB.out),by repeat (first|(with_reducible first|exact HK.out|apply Kept.alloc|apply Kept.drewN|apply Kept.drew)|exact HK.out)⟩
end Go.Proofs.Ytjkhdldgmkkhjaa.P
end
section
namespace Go.Proofs.Ytjkhdldgmkkhjaa.P
open Go.RowKit Go.Proofs.YtjkhdldgmkkhjaaW.PrintWords Go.Proofs.YtjkhdldgmkkhjaaW.PrintLast Go.Proofs.YtjkhdldgmkkhjaaW.PrintMore
attribute [local go_sem] max2_int min2_int max_two min_two max_three min_three max_four min_four   -- for this text's walks alone
def canopylaw4_within.f (a0:Int) (a1:Int):Option (Int):=if a1=0 then (none) else (if (Int.tmod a0 a1) < 0 then (some (wrap64 ((Int.tmod a0 a1)+a1))) else (some (Int.tmod a0 a1)))
set_option maxHeartbeats 8000000 in
set_option maxRecDepth 100000 in
theorem canopylaw4_within.calls (a0:Int) (a1:Int) (r:Int) (w:World) (h:canopylaw4_within.f a0 a1=some r) :
 Calls Try.prog 26 #[.int .i64 a0,.int .i64 a1] w fun e w'=>e=.returned (.int .i64 r)∧Drawn0 w w':=by
 have H:(if a1=0 then (none) else (if (Int.tmod a0 a1) < 0 then (some (wrap64 ((Int.tmod a0 a1)+a1))) else (some (Int.tmod a0 a1))))=some r:=h
 clear h
 by_cases c3:a1=0
 ·rw [if_pos c3] at H
  exact absurd H (by simp)
 rw [if_neg c3] at H
 have c3b0:(a1 == 0)=false:=beq_eq_false_iff_ne.mpr c3
 have c3b1:(a1 != 0)=true:=bne_iff_ne.mpr c3
 by_cases c4:(Int.tmod a0 a1) < 0
 ·rw [if_pos c4] at H
  have c4b0:decide ((Int.tmod a0 a1) < 0)=true:=decide_eq_true c4
  clear c4
  obtain rfl:=Option.some.inj H
  go_enter Try.func26,Try.ntmps26
  go_wp2
  go_ret
  exact⟨by first|rfl|(simp;done)|(simp [*];done),by repeat (first|exact Drawn0.refl _|apply Drawn0.step)⟩
 rw [if_neg c4] at H
 have c4b0:decide ((Int.tmod a0 a1) < 0)=false:=decide_eq_false c4
 clear c4
 obtain rfl:=Option.some.inj H
 go_enter Try.func26,Try.ntmps26
 go_wp2
 go_ret
 exact⟨by first|rfl|(simp;done)|(simp [*];done),by repeat (first|exact Drawn0.refl _|apply Drawn0.step)⟩
end Go.Proofs.Ytjkhdldgmkkhjaa.P
end
section
namespace Go.Proofs.Ytjkhdldgmkkhjaa.P
open Go.RowKit Go.Proofs.YtjkhdldgmkkhjaaW.PrintWords Go.Proofs.YtjkhdldgmkkhjaaW.PrintLast Go.Proofs.YtjkhdldgmkkhjaaW.PrintMore
attribute [local go_sem] max2_int min2_int max_two min_two max_three min_three max_four min_four   -- for this text's walks alone
def cmp_Or_int.l0:Nat→Int→List Int→Int→Int→Option (Int)
 | 0,_,_,_,_=>none
 | k+1,x3,x6,x7,x8=>if x8 < x7 then (if 0≤x8 then (if x8 < (x6.length:Int) then (if (rd x6 x8)=x3 then (cmp_Or_int.l0 k x3 x6 x7 (wrap64 (x8+1))) else (some (rd x6 x8))) else (none)) else (none)) else (some x3)
def cmp_Or_int.f (k:Nat) (l0:List Int):Option (Int):=cmp_Or_int.l0 k 0 l0 (l0.length:Int) 0
theorem cmp_Or_int.mono_l:∀k,(∀y0 y1 y2 y3,LeO (cmp_Or_int.l0 k y0 y1 y2 y3) (cmp_Or_int.l0 (k+1) y0 y1 y2 y3))
 | 0=>fun _ _ _ _ r h=>by simp [cmp_Or_int.l0] at h
 | k+1=>by
  have ih0:=cmp_Or_int.mono_l k
  intro y0 y1 y2 y3
  unfold cmp_Or_int.l0
  repeat' first
  | (with_reducible exact ih0 _ _ _ _)
  | (with_reducible exact LeO.refl _)
  | (with_reducible exact LeO.none _)
  | (with_reducible refine LeO.ite ?_ ?_)
  | (with_reducible refine LeO.bind ?_ (fun _=>?_))
  | exact ih0 _ _ _ _
  | exact LeO.none _
  | refine LeO.ite ?_ ?_
  | refine LeO.bind ?_ (fun _=>?_)
theorem cmp_Or_int.mono:∀a0 k,LeO (cmp_Or_int.f k a0) (cmp_Or_int.f (k+1) a0):=by
 intro a0 k
 have ih0:=cmp_Or_int.mono_l k
 unfold cmp_Or_int.f
 repeat' first
  | (with_reducible exact ih0 _ _ _ _)
  | (with_reducible exact LeO.refl _)
  | (with_reducible exact LeO.none _)
  | (with_reducible refine LeO.ite ?_ ?_)
  | (with_reducible refine LeO.bind ?_ (fun _=>?_))
  | exact ih0 _ _ _ _
  | exact LeO.none _
  | refine LeO.ite ?_ ?_
  | refine LeO.bind ?_ (fun _=>?_)
set_option maxHeartbeats 8000000 in
set_option maxRecDepth 100000 in
theorem cmp_Or_int.calls (k:Nat) (A0:Option Addr) (c0:Nat) (l0:List Int) (r:Int) (w:World) (hr0:Kd.C (Kd.int .i64) w A0 l0.length l0) (hc0:l0.length≤c0) (h:cmp_Or_int.f k l0=some r) :
 Calls Try.prog 58 #[.slice A0 l0.length c0] w fun e w'=>e=.returned (.int .i64 r)∧Drawn0 w w':=by
 have HR0:=Aside0.mk hr0
 have HC0:=Aside0.mk hc0
 clear hr0 hc0
 have H:(cmp_Or_int.l0 k 0 l0 (l0.length:Int) 0)=some r:=h
 clear h
 have H':=Aside0.mk H
 clear H
 go_enter Try.func58,Try.ntmps58
 go_wp2
 go_loopg [8] k (fun kq v8 w'=>∃(x8_1:Int),v8=.int .i64 x8_1∧Aside0 (cmp_Or_int.l0 kq 0 l0 (l0.length:Int) x8_1=some r)∧Aside0 (kq≤k)∧Drawn0 w w')
 case atStart=>exact⟨(0),(by first|rfl|(simp;done)|(simp [*];done)),H',⟨Nat.le_refl _⟩,by repeat (first|exact Drawn0.refl _|apply Drawn0.step)⟩
 case' round=>skip
 clear H'
 obtain⟨x8_1,rfl,HA,HK1,⟨m1,rfl⟩⟩:=hrel
 cases gk with
 | zero=>exact absurd HA.out (by simp [cmp_Or_int.l0])
 | succ k1=>
  have H:=HA.out
  clear HA
  simp only [cmp_Or_int.l0] at H
  by_cases c2:x8_1 < (l0.length:Int)
  ·rw [if_pos c2] at H
   have c2b0:decide (x8_1 < (l0.length:Int))=true:=decide_eq_true c2
   clear c2
   by_cases c3:0≤x8_1
   ·rw [if_pos c3] at H
    have c3b0:decide (0≤x8_1)=true:=decide_eq_true c3
    clear c3
    by_cases c4:x8_1 < (l0.length:Int)
    ·rw [if_pos c4] at H
     have c4b0:decide (x8_1 < (l0.length:Int))=true:=decide_eq_true c4
     clear c4
     by_cases c5:(rd l0 x8_1)=0
     ·rw [if_pos c5] at H
      have c5b0:((rd l0 x8_1) == 0)=true:=beq_iff_eq.mpr c5
      have c5b1:((rd l0 x8_1) != 0)=false:=bne_eq_false_iff_eq.mpr c5
      clear c5
      have H':=Aside0.mk H
      clear H
      have p104:0≤(x8_1:Int):=of_decide_eq_true (by first|(with_reducible assumption)|assumption)
      have q104:x8_1 < (l0.length:Int):=of_decide_eq_true (by first|(with_reducible assumption)|assumption)
      obtain⟨ad104,e104,hx104_0⟩:=Kd.at_int HR0.out x8_1 p104 q104
      cases e104
      replace p104:=eq_true p104
      replace q104:=eq_true q104
      go_wp2
      go_roundg k1
      case measure=>have:=HK1.out;omega
      case rel=>exact⟨(wrap64 (x8_1+1)),(by first|rfl|(simp;done)|(simp [*];done)),H',⟨by have:=HK1.out;omega⟩,by repeat (first|exact Drawn0.refl _|apply Drawn0.step)⟩
     rw [if_neg c5] at H
     have c5b0:((rd l0 x8_1) == 0)=false:=beq_eq_false_iff_ne.mpr c5
     have c5b1:((rd l0 x8_1) != 0)=true:=bne_iff_ne.mpr c5
     obtain rfl:=Option.some.inj H
     have p104:0≤(x8_1:Int):=of_decide_eq_true (by first|(with_reducible assumption)|assumption)
     have q104:x8_1 < (l0.length:Int):=of_decide_eq_true (by first|(with_reducible assumption)|assumption)
     obtain⟨ad104,e104,hx104_0⟩:=Kd.at_int HR0.out x8_1 p104 q104
     cases e104
     replace p104:=eq_true p104
     replace q104:=eq_true q104
     go_wp2
     go_ret
     exact⟨by first|rfl|(simp;done)|(simp [*];done),by repeat (first|exact Drawn0.refl _|apply Drawn0.step)⟩
    rw [if_neg c4] at H
    exact absurd H (by simp)
   rw [if_neg c3] at H
   exact absurd H (by simp)
  rw [if_neg c2] at H
  have c2b0:decide (x8_1 < (l0.length:Int))=false:=decide_eq_false c2
  clear c2
  obtain rfl:=Option.some.inj H
  go_wp2
  go_ret
  exact⟨by first|rfl|(simp;done)|(simp [*];done),by repeat (first|exact Drawn0.refl _|apply Drawn0.step)⟩
end Go.Proofs.Ytjkhdldgmkkhjaa.P
end
section
namespace Go.Proofs.Ytjkhdldgmkkhjaa.P
open Go.RowKit Go.Proofs.YtjkhdldgmkkhjaaW.PrintWords Go.Proofs.YtjkhdldgmkkhjaaW.PrintLast Go.Proofs.YtjkhdldgmkkhjaaW.PrintMore
attribute [local go_sem] max2_int min2_int max_two min_two max_three min_three max_four min_four   -- for this text's walks alone
def cmp_isNaN_int.f (a0:Int):Option (Bool):=some (a0 != a0)
set_option maxHeartbeats 8000000 in
set_option maxRecDepth 100000 in
theorem cmp_isNaN_int.calls (a0:Int) (r:Bool) (w:World) (h:cmp_isNaN_int.f a0=some r) :
 Calls Try.prog 73 #[.int .i64 a0] w fun e w'=>e=.returned (.bool r)∧Drawn0 w w':=by
 have H:(some (a0 != a0))=some r:=h
 clear h
 obtain rfl:=Option.some.inj H
 go_enter Try.func73,Try.ntmps73
 go_wp2
 go_ret
 exact⟨by first|rfl|(simp;done)|(simp [*];done),by repeat (first|exact Drawn0.refl _|apply Drawn0.step)⟩
end Go.Proofs.Ytjkhdldgmkkhjaa.P
end
section
namespace Go.Proofs.Ytjkhdldgmkkhjaa.P
open Go.RowKit Go.Proofs.YtjkhdldgmkkhjaaW.PrintWords Go.Proofs.YtjkhdldgmkkhjaaW.PrintLast Go.Proofs.YtjkhdldgmkkhjaaW.PrintMore
attribute [local go_sem] max2_int min2_int max_two min_two max_three min_three max_four min_four   -- for this text's walks alone
def cmp_Compare_int.f (a0:Int) (a1:Int):Option (Int):=(cmp_isNaN_int.f a0).bind fun t105=>((cmp_isNaN_int.f a1).bind fun t106=>(if t105=true then (if t106=true then (some 0) else (some (-1))) else (if t106=true then (some 1) else (if a0 < a1 then (some (-1)) else (if a0 > a1 then (some 1) else (some 0))))))
set_option maxHeartbeats 8000000 in
set_option maxRecDepth 100000 in
theorem cmp_Compare_int.calls (a0:Int) (a1:Int) (r:Int) (w:World) (h:cmp_Compare_int.f a0 a1=some r) :
 Calls Try.prog 59 #[.int .i64 a0,.int .i64 a1] w fun e w'=>e=.returned (.int .i64 r)∧Drawn0 w w':=by
 have H:((cmp_isNaN_int.f a0).bind fun t105=>((cmp_isNaN_int.f a1).bind fun t106=>(if t105=true then (if t106=true then (some 0) else (some (-1))) else (if t106=true then (some 1) else (if a0 < a1 then (some (-1)) else (if a0 > a1 then (some 1) else (some 0)))))))=some r:=h
 clear h
 replace H:=Option.bind_eq_some_iff.mp H
 obtain⟨t105,A30,H⟩:=H
 replace H:((cmp_isNaN_int.f a1).bind fun t106=>(if t105=true then (if t106=true then (some 0) else (some (-1))) else (if t106=true then (some 1) else (if a0 < a1 then (some (-1)) else (if a0 > a1 then (some 1) else (some 0))))))=some r:=H
 have A3:=Aside0.mk A30
 clear A30
 replace H:=Option.bind_eq_some_iff.mp H
 obtain⟨t106,A40,H⟩:=H
 replace H:(if t105=true then (if t106=true then (some 0) else (some (-1))) else (if t106=true then (some 1) else (if a0 < a1 then (some (-1)) else (if a0 > a1 then (some 1) else (some 0)))))=some r:=H
 have A4:=Aside0.mk A40
 clear A40
 by_cases c5:t105=true
 ·subst c5
  have H1:(if t106=true then (some 0) else (some (-1)))=some r:=by rw [if_pos rfl] at H;exact H
  clear H
  have H:=H1
  clear H1
  by_cases c6:t106=true
  ·subst c6
   have H1:(some 0)=some r:=by rw [if_pos rfl] at H;exact H
   clear H
   have H:=H1
   clear H1
   obtain rfl:=Option.some.inj H
   go_enter Try.func59,Try.ntmps59
   go_wp2_with (first|((with_reducible refine gate_callee (f:=73) rfl ?_);refine goesL_ (some 8) rfl rfl Try.func73 (by kernel_rfl) rfl #[.int .i64 a0] rfl (by(try simp only [List.map_toArray,List.map_cons,List.map_nil]);first|done|rfl|(simp only [List.length_drop,List.length_take];rfl)) ?_;(with_reducible refine(cmp_isNaN_int.calls a0 true _ A3.out).mono ?_);rintro e w' ⟨rfl,⟨nd,rfl⟩⟩;refine⟨_,rfl,?_⟩)|((with_reducible refine gate_callee (f:=73) rfl ?_);refine goesL_ (some 10) rfl rfl Try.func73 (by kernel_rfl) rfl #[.int .i64 a1] rfl (by(try simp only [List.map_toArray,List.map_cons,List.map_nil]);first|done|rfl|(simp only [List.length_drop,List.length_take];rfl)) ?_;(with_reducible refine(cmp_isNaN_int.calls a1 true _ A4.out).mono ?_);rintro e w' ⟨rfl,⟨nd,rfl⟩⟩;refine⟨_,rfl,?_⟩))
   go_ret
   exact⟨by first|rfl|(simp;done)|(simp [*];done),by repeat (first|exact Drawn0.refl _|apply Drawn0.step)⟩
  replace c6 := Bool.eq_false_iff.mpr c6
  subst c6
  have H1:(some (-1))=some r:=by rw [if_neg (show ¬(false=true) by decide)] at H;exact H
  clear H
  have H:=H1
  clear H1
  obtain rfl:=Option.some.inj H
  go_enter Try.func59,Try.ntmps59
  go_wp2_with (first|((with_reducible refine gate_callee (f:=73) rfl ?_);refine goesL_ (some 8) rfl rfl Try.func73 (by kernel_rfl) rfl #[.int .i64 a0] rfl (by(try simp only [List.map_toArray,List.map_cons,List.map_nil]);first|done|rfl|(simp only [List.length_drop,List.length_take];rfl)) ?_;(with_reducible refine(cmp_isNaN_int.calls a0 true _ A3.out).mono ?_);rintro e w' ⟨rfl,⟨nd,rfl⟩⟩;refine⟨_,rfl,?_⟩)|((with_reducible refine gate_callee (f:=73) rfl ?_);refine goesL_ (some 10) rfl rfl Try.func73 (by kernel_rfl) rfl #[.int .i64 a1] rfl (by(try simp only [List.map_toArray,List.map_cons,List.map_nil]);first|done|rfl|(simp only [List.length_drop,List.length_take];rfl)) ?_;(with_reducible refine(cmp_isNaN_int.calls a1 false _ A4.out).mono ?_);rintro e w' ⟨rfl,⟨nd,rfl⟩⟩;refine⟨_,rfl,?_⟩))
  go_ret
  exact⟨by first|rfl|(simp;done)|(simp [*];done),by repeat (first|exact Drawn0.refl _|apply Drawn0.step)⟩
 replace c5 := Bool.eq_false_iff.mpr c5
 subst c5
 have H1:(if t106=true then (some 1) else (if a0 < a1 then (some (-1)) else (if a0 > a1 then (some 1) else (some 0))))=some r:=by rw [if_neg (show ¬(false=true) by decide)] at H;exact H
 clear H
 have H:=H1
 clear H1
 by_cases c7:t106=true
 ·subst c7
  have H1:(some 1)=some r:=by rw [if_pos rfl] at H;exact H
  clear H
  have H:=H1
  clear H1
  obtain rfl:=Option.some.inj H
  go_enter Try.func59,Try.ntmps59
  go_wp2_with (first|((with_reducible refine gate_callee (f:=73) rfl ?_);refine goesL_ (some 8) rfl rfl Try.func73 (by kernel_rfl) rfl #[.int .i64 a0] rfl (by(try simp only [List.map_toArray,List.map_cons,List.map_nil]);first|done|rfl|(simp only [List.length_drop,List.length_take];rfl)) ?_;(with_reducible refine(cmp_isNaN_int.calls a0 false _ A3.out).mono ?_);rintro e w' ⟨rfl,⟨nd,rfl⟩⟩;refine⟨_,rfl,?_⟩)|((with_reducible refine gate_callee (f:=73) rfl ?_);refine goesL_ (some 10) rfl rfl Try.func73 (by kernel_rfl) rfl #[.int .i64 a1] rfl (by(try simp only [List.map_toArray,List.map_cons,List.map_nil]);first|done|rfl|(simp only [List.length_drop,List.length_take];rfl)) ?_;(with_reducible refine(cmp_isNaN_int.calls a1 true _ A4.out).mono ?_);rintro e w' ⟨rfl,⟨nd,rfl⟩⟩;refine⟨_,rfl,?_⟩))
  go_ret
  exact⟨by first|rfl|(simp;done)|(simp [*];done),by repeat (first|exact Drawn0.refl _|apply Drawn0.step)⟩
 replace c7 := Bool.eq_false_iff.mpr c7
 subst c7
 have H1:(if a0 < a1 then (some (-1)) else (if a0 > a1 then (some 1) else (some 0)))=some r:=by rw [if_neg (show ¬(false=true) by decide)] at H;exact H
 clear H
 have H:=H1
 clear H1
 by_cases c8:a0 < a1
 ·rw [if_pos c8] at H
  have c8b0:decide (a0 < a1)=true:=decide_eq_true c8
  clear c8
  obtain rfl:=Option.some.inj H
  go_enter Try.func59,Try.ntmps59
  go_wp2_with (first|((with_reducible refine gate_callee (f:=73) rfl ?_);refine goesL_ (some 8) rfl rfl Try.func73 (by kernel_rfl) rfl #[.int .i64 a0] rfl (by(try simp only [List.map_toArray,List.map_cons,List.map_nil]);first|done|rfl|(simp only [List.length_drop,List.length_take];rfl)) ?_;(with_reducible refine(cmp_isNaN_int.calls a0 false _ A3.out).mono ?_);rintro e w' ⟨rfl,⟨nd,rfl⟩⟩;refine⟨_,rfl,?_⟩)|((with_reducible refine gate_callee (f:=73) rfl ?_);refine goesL_ (some 10) rfl rfl Try.func73 (by kernel_rfl) rfl #[.int .i64 a1] rfl (by(try simp only [List.map_toArray,List.map_cons,List.map_nil]);first|done|rfl|(simp only [List.length_drop,List.length_take];rfl)) ?_;(with_reducible refine(cmp_isNaN_int.calls a1 false _ A4.out).mono ?_);rintro e w' ⟨rfl,⟨nd,rfl⟩⟩;refine⟨_,rfl,?_⟩))
  go_ret
  exact⟨by first|rfl|(simp;done)|(simp [*];done),by repeat (first|exact Drawn0.refl _|apply Drawn0.step)⟩
 rw [if_neg c8] at H
 have c8b0:decide (a0 < a1)=false:=decide_eq_false c8
 clear c8
 by_cases c9:a0 > a1
 ·rw [if_pos c9] at H
  have c9b0:decide (a1 < a0)=true:=decide_eq_true c9
  clear c9
  obtain rfl:=Option.some.inj H
  go_enter Try.func59,Try.ntmps59
  go_wp2_with (first|((with_reducible refine gate_callee (f:=73) rfl ?_);refine goesL_ (some 8) rfl rfl Try.func73 (by kernel_rfl) rfl #[.int .i64 a0] rfl (by(try simp only [List.map_toArray,List.map_cons,List.map_nil]);first|done|rfl|(simp only [List.length_drop,List.length_take];rfl)) ?_;(with_reducible refine(cmp_isNaN_int.calls a0 false _ A3.out).mono ?_);rintro e w' ⟨rfl,⟨nd,rfl⟩⟩;refine⟨_,rfl,?_⟩)|((with_reducible refine gate_callee (f:=73) rfl ?_);refine goesL_ (some 10) rfl rfl Try.func73 (by kernel_rfl) rfl #[.int .i64 a1] rfl (by(try simp only [List.map_toArray,List.map_cons,List.map_nil]);first|done|rfl|(simp only [List.length_drop,List.length_take];rfl)) ?_;(with_reducible refine(cmp_isNaN_int.calls a1 false _ A4.out).mono ?_);rintro e w' ⟨rfl,⟨nd,rfl⟩⟩;refine⟨_,rfl,?_⟩))
  go_ret
  exact⟨by first|rfl|(simp;done)|(simp [*];done),by repeat (first|exact Drawn0.refl _|apply Drawn0.step)⟩
 rw [if_neg c9] at H
 have c9b0:decide (a1 < a0)=false:=decide_eq_false c9
 clear c9
 obtain rfl:=Option.some.inj H
 go_enter Try.func59,Try.ntmps59
 go_wp2_with (first|((with_reducible refine gate_callee (f:=73) rfl ?_);refine goesL_ (some 8) rfl rfl Try.func73 (by kernel_rfl) rfl #[.int .i64 a0] rfl (by(try simp only [List.map_toArray,List.map_cons,List.map_nil]);first|done|rfl|(simp only [List.length_drop,List.length_take];rfl)) ?_;(with_reducible refine(cmp_isNaN_int.calls a0 false _ A3.out).mono ?_);rintro e w' ⟨rfl,⟨nd,rfl⟩⟩;refine⟨_,rfl,?_⟩)|((with_reducible refine gate_callee (f:=73) rfl ?_);refine goesL_ (some 10) rfl rfl Try.func73 (by kernel_rfl) rfl #[.int .i64 a1] rfl (by(try simp only [List.map_toArray,List.map_cons,List.map_nil]);first|done|rfl|(simp only [List.length_drop,List.length_take];rfl)) ?_;(with_reducible refine(cmp_isNaN_int.calls a1 false _ A4.out).mono ?_);rintro e w' ⟨rfl,⟨nd,rfl⟩⟩;refine⟨_,rfl,?_⟩))
 go_ret
 exact⟨by first|rfl|(simp;done)|(simp [*];done),by repeat (first|exact Drawn0.refl _|apply Drawn0.step)⟩
end Go.Proofs.Ytjkhdldgmkkhjaa.P
end
section
namespace Go.Proofs.Ytjkhdldgmkkhjaa.P
open Go.RowKit Go.Proofs.YtjkhdldgmkkhjaaW.PrintWords Go.Proofs.YtjkhdldgmkkhjaaW.PrintLast Go.Proofs.YtjkhdldgmkkhjaaW.PrintMore
attribute [local go_sem] max2_int min2_int max_two min_two max_three min_three max_four min_four   -- for this text's walks alone
def slices_Compare_int_int.l0:Nat→List Int→List Int→List Int→Int→Int→Option (Int)
 | 0,_,_,_,_,_=>none
 | k+1,x0,x1,x9,x10,x11=>if x11 < x10 then (if 0≤x11 then (if x11 < (x9.length:Int) then (if x11≥(x1.length:Int) then (some 1) else (if x11 < (x1.length:Int) then ((cmp_Compare_int.f (rd x9 x11) (rd x1 x11)).bind fun t109=>(if t109=0 then (slices_Compare_int_int.l0 k x0 x1 x9 x10 (wrap64 (x11+1))) else (some t109))) else (none))) else (none)) else (none)) else (if (x0.length:Int) < (x1.length:Int) then (some (-1)) else (some 0))
def slices_Compare_int_int.f (k:Nat) (l0:List Int) (l1:List Int):Option (Int):=slices_Compare_int_int.l0 k l0 l1 l0 (l0.length:Int) 0
theorem slices_Compare_int_int.mono_l:∀k,(∀y0 y1 y2 y3 y4,LeO (slices_Compare_int_int.l0 k y0 y1 y2 y3 y4) (slices_Compare_int_int.l0 (k+1) y0 y1 y2 y3 y4))
 | 0=>fun _ _ _ _ _ r h=>by simp [slices_Compare_int_int.l0] at h
 | k+1=>by
  have ih0:=slices_Compare_int_int.mono_l k
  intro y0 y1 y2 y3 y4
  unfold slices_Compare_int_int.l0
  repeat' first
  | (with_reducible exact ih0 _ _ _ _ _)
  | (with_reducible exact LeO.refl _)
  | (with_reducible exact LeO.none _)
  | (with_reducible refine LeO.ite ?_ ?_)
  | (with_reducible refine LeO.bind ?_ (fun _=>?_))
  | exact ih0 _ _ _ _ _
  | exact LeO.none _
  | refine LeO.ite ?_ ?_
  | refine LeO.bind ?_ (fun _=>?_)
theorem slices_Compare_int_int.mono:∀a0 a1 k,LeO (slices_Compare_int_int.f k a0 a1) (slices_Compare_int_int.f (k+1) a0 a1):=by
 intro a0 a1 k
 have ih0:=slices_Compare_int_int.mono_l k
 unfold slices_Compare_int_int.f
 repeat' first
  | (with_reducible exact ih0 _ _ _ _ _)
  | (with_reducible exact LeO.refl _)
  | (with_reducible exact LeO.none _)
  | (with_reducible refine LeO.ite ?_ ?_)
  | (with_reducible refine LeO.bind ?_ (fun _=>?_))
  | exact ih0 _ _ _ _ _
  | exact LeO.none _
  | refine LeO.ite ?_ ?_
  | refine LeO.bind ?_ (fun _=>?_)
set_option maxHeartbeats 8000000 in
set_option maxRecDepth 100000 in
theorem slices_Compare_int_int.calls (k:Nat) (A0:Option Addr) (c0:Nat) (l0:List Int) (A1:Option Addr) (c1:Nat) (l1:List Int) (r:Int) (w:World) (hr0:Kd.C (Kd.int .i64) w A0 l0.length l0) (hc0:l0.length≤c0) (hr1:Kd.C (Kd.int .i64) w A1 l1.length l1) (hc1:l1.length≤c1) (h:slices_Compare_int_int.f k l0 l1=some r) :
 Calls Try.prog 60 #[.slice A0 l0.length c0,.slice A1 l1.length c1] w fun e w'=>e=.returned (.int .i64 r)∧Drawn0 w w':=by
 have HR0:=Aside0.mk hr0
 have HC0:=Aside0.mk hc0
 clear hr0 hc0
 have HR1:=Aside0.mk hr1
 have HC1:=Aside0.mk hc1
 clear hr1 hc1
 have H:(slices_Compare_int_int.l0 k l0 l1 l0 (l0.length:Int) 0)=some r:=h
 clear h
 have H':=Aside0.mk H
 clear H
 go_enter Try.func60,Try.ntmps60
 go_wp2
 go_loopg [11] k (fun kq v11 w'=>∃(x11_1:Int),v11=.int .i64 x11_1∧Aside0 (slices_Compare_int_int.l0 kq l0 l1 l0 (l0.length:Int) x11_1=some r)∧Aside0 (kq≤k)∧Drawn0 w w')
 case atStart=>exact⟨(0),(by first|rfl|(simp;done)|(simp [*];done)),H',⟨Nat.le_refl _⟩,by repeat (first|exact Drawn0.refl _|apply Drawn0.step)⟩
 case' round=>skip
 clear H'
 try clear c1
 try clear p2
 obtain⟨x11_1,rfl,HA,HK1,⟨m1,rfl⟩⟩:=hrel
 cases gk with
 | zero=>exact absurd HA.out (by simp [slices_Compare_int_int.l0])
 | succ k1=>
  have H:=HA.out
  clear HA
  simp only [slices_Compare_int_int.l0] at H
  by_cases c3:x11_1 < (l0.length:Int)
  ·rw [if_pos c3] at H
   have c3b0:decide (x11_1 < (l0.length:Int))=true:=decide_eq_true c3
   clear c3
   by_cases c4:0≤x11_1
   ·rw [if_pos c4] at H
    have c4b0:decide (0≤x11_1)=true:=decide_eq_true c4
    clear c4
    by_cases c5:x11_1 < (l0.length:Int)
    ·rw [if_pos c5] at H
     have c5b0:decide (x11_1 < (l0.length:Int))=true:=decide_eq_true c5
     clear c5
     by_cases c6:x11_1≥(l1.length:Int)
     ·rw [if_pos c6] at H
      have c6b0:decide ((l1.length:Int)≤x11_1)=true:=decide_eq_true c6
      clear c6
      obtain rfl:=Option.some.inj H
      have p107:0≤(x11_1:Int):=of_decide_eq_true (by first|(with_reducible assumption)|assumption)
      have q107:x11_1 < (l0.length:Int):=of_decide_eq_true (by first|(with_reducible assumption)|assumption)
      obtain⟨ad107,e107,hx107_0⟩:=Kd.at_int HR0.out x11_1 p107 q107
      cases e107
      replace p107:=eq_true p107
      replace q107:=eq_true q107
      go_wp2
      go_ret
      exact⟨by first|rfl|(simp;done)|(simp [*];done),by repeat (first|exact Drawn0.refl _|apply Drawn0.step)⟩
     rw [if_neg c6] at H
     have c6b0:decide ((l1.length:Int)≤x11_1)=false:=decide_eq_false c6
     clear c6
     by_cases c7:x11_1 < (l1.length:Int)
     ·rw [if_pos c7] at H
      have c7b0:decide (x11_1 < (l1.length:Int))=true:=decide_eq_true c7
      clear c7
      replace H:=Option.bind_eq_some_iff.mp H
      obtain⟨t109,A80,H⟩:=H
      replace H:(if t109=0 then (slices_Compare_int_int.l0 k1 l0 l1 l0 (l0.length:Int) (wrap64 (x11_1+1))) else (some t109))=some r:=H
      have A8:=Aside0.mk A80
      clear A80
      by_cases c9:t109=0
      ·rw [if_pos c9] at H
       have c9b0:(t109 == 0)=true:=beq_iff_eq.mpr c9
       have c9b1:(t109 != 0)=false:=bne_eq_false_iff_eq.mpr c9
       clear c9
       have H':=Aside0.mk H
       clear H
       have p107:0≤(x11_1:Int):=of_decide_eq_true (by first|(with_reducible assumption)|assumption)
       have q107:x11_1 < (l0.length:Int):=of_decide_eq_true (by first|(with_reducible assumption)|assumption)
       obtain⟨ad107,e107,hx107_0⟩:=Kd.at_int HR0.out x11_1 p107 q107
       cases e107
       replace p107:=eq_true p107
       replace q107:=eq_true q107
       have p108:0≤(x11_1:Int):=of_decide_eq_true (by first|(with_reducible assumption)|assumption)
       have q108:x11_1 < (l1.length:Int):=of_decide_eq_true (by first|(with_reducible assumption)|assumption)
       obtain⟨ad108,e108,hx108_0⟩:=Kd.at_int HR1.out x11_1 p108 q108
       cases e108
       replace p108:=eq_true p108
       replace q108:=eq_true q108
       go_wp2_with (first|((with_reducible refine gate_callee (f:=59) rfl ?_);refine goesL_ (some 26) rfl rfl Try.func59 (by kernel_rfl) rfl #[.int .i64 (rd l0 x11_1),.int .i64 (rd l1 x11_1)] rfl (by(try simp only [List.map_toArray,List.map_cons,List.map_nil]);first|done|rfl|(simp only [List.length_drop,List.length_take];rfl)) ?_;(with_reducible refine(cmp_Compare_int.calls (rd l0 x11_1) (rd l1 x11_1) t109 _ A8.out).mono ?_);rintro e w' ⟨rfl,⟨nd,rfl⟩⟩;refine⟨_,rfl,?_⟩))
       go_roundg k1
       case measure=>have:=HK1.out;omega
       case rel=>exact⟨(wrap64 (x11_1+1)),(by first|rfl|(simp;done)|(simp [*];done)),H',⟨by have:=HK1.out;omega⟩,by repeat (first|exact Drawn0.refl _|apply Drawn0.step)⟩
      rw [if_neg c9] at H
      have c9b0:(t109 == 0)=false:=beq_eq_false_iff_ne.mpr c9
      have c9b1:(t109 != 0)=true:=bne_iff_ne.mpr c9
      obtain rfl:=Option.some.inj H
      have p107:0≤(x11_1:Int):=of_decide_eq_true (by first|(with_reducible assumption)|assumption)
      have q107:x11_1 < (l0.length:Int):=of_decide_eq_true (by first|(with_reducible assumption)|assumption)
      obtain⟨ad107,e107,hx107_0⟩:=Kd.at_int HR0.out x11_1 p107 q107
      cases e107
      replace p107:=eq_true p107
      replace q107:=eq_true q107
      have p108:0≤(x11_1:Int):=of_decide_eq_true (by first|(with_reducible assumption)|assumption)
      have q108:x11_1 < (l1.length:Int):=of_decide_eq_true (by first|(with_reducible assumption)|assumption)
      obtain⟨ad108,e108,hx108_0⟩:=Kd.at_int HR1.out x11_1 p108 q108
      cases e108
      replace p108:=eq_true p108
      replace q108:=eq_true q108
      go_wp2_with (first|((with_reducible refine gate_callee (f:=59) rfl ?_);refine goesL_ (some 26) rfl rfl Try.func59 (by kernel_rfl) rfl #[.int .i64 (rd l0 x11_1),.int .i64 (rd l1 x11_1)] rfl (by(try simp only [List.map_toArray,List.map_cons,List.map_nil]);first|done|rfl|(simp only [List.length_drop,List.length_take];rfl)) ?_;(with_reducible refine(cmp_Compare_int.calls (rd l0 x11_1) (rd l1 x11_1) t109 _ A8.out).mono ?_);rintro e w' ⟨rfl,⟨nd,rfl⟩⟩;refine⟨_,rfl,?_⟩))
      go_ret
      exact⟨by first|rfl|(simp;done)|(simp [*];done),by repeat (first|exact Drawn0.refl _|apply Drawn0.step)⟩
     rw [if_neg c7] at H
     exact absurd H (by simp)
    rw [if_neg c5] at H
    exact absurd H (by simp)
   rw [if_neg c4] at H
   exact absurd H (by simp)
  rw [if_neg c3] at H
  have c3b0:decide (x11_1 < (l0.length:Int))=false:=decide_eq_false c3
  clear c3
  by_cases c10:(l0.length:Int) < (l1.length:Int)
  ·rw [if_pos c10] at H
   have c10b0:decide ((l0.length:Int) < (l1.length:Int))=true:=decide_eq_true c10
   have c10b1:decide (l0.length < l1.length)=true:=decide_eq_true (Int.ofNat_lt.mp c10)
   clear c10
   obtain rfl:=Option.some.inj H
   go_wp2
   go_ret
   exact⟨by first|rfl|(simp;done)|(simp [*];done),by repeat (first|exact Drawn0.refl _|apply Drawn0.step)⟩
  rw [if_neg c10] at H
  have c10b0:decide ((l0.length:Int) < (l1.length:Int))=false:=decide_eq_false c10
  have c10b1:decide (l0.length < l1.length)=false:=decide_eq_false (fun h=>c10 (Int.ofNat_lt.mpr h))
  clear c10
  obtain rfl:=Option.some.inj H
  go_wp2
  go_ret
  exact⟨by first|rfl|(simp;done)|(simp [*];done),by repeat (first|exact Drawn0.refl _|apply Drawn0.step)⟩
end Go.Proofs.Ytjkhdldgmkkhjaa.P
end
section
namespace Go.Proofs.Ytjkhdldgmkkhjaa.P
open Go.RowKit Go.Proofs.YtjkhdldgmkkhjaaW.PrintWords Go.Proofs.YtjkhdldgmkkhjaaW.PrintLast Go.Proofs.YtjkhdldgmkkhjaaW.PrintMore
attribute [local go_sem] max2_int min2_int max_two min_two max_three min_three max_four min_four   -- for this text's walks alone
def slices_Index_int_int.l0:Nat→List Int→Int→Int→Int→Option (Int)
 | 0,_,_,_,_=>none
 | k+1,x0,x1,x7,x8=>if x8 < x7 then (if 0≤x8 then (if x8 < (x0.length:Int) then (if x1=(rd x0 x8) then (some x8) else (slices_Index_int_int.l0 k x0 x1 x7 (wrap64 (x8+1)))) else (none)) else (none)) else (some (-1))
def slices_Index_int_int.f (k:Nat) (l0:List Int) (a1:Int):Option (Int):=slices_Index_int_int.l0 k l0 a1 (l0.length:Int) 0
theorem slices_Index_int_int.mono_l:∀k,(∀y0 y1 y2 y3,LeO (slices_Index_int_int.l0 k y0 y1 y2 y3) (slices_Index_int_int.l0 (k+1) y0 y1 y2 y3))
 | 0=>fun _ _ _ _ r h=>by simp [slices_Index_int_int.l0] at h
 | k+1=>by
  have ih0:=slices_Index_int_int.mono_l k
  intro y0 y1 y2 y3
  unfold slices_Index_int_int.l0
  repeat' first
  | (with_reducible exact ih0 _ _ _ _)
  | (with_reducible exact LeO.refl _)
  | (with_reducible exact LeO.none _)
  | (with_reducible refine LeO.ite ?_ ?_)
  | (with_reducible refine LeO.bind ?_ (fun _=>?_))
  | exact ih0 _ _ _ _
  | exact LeO.none _
  | refine LeO.ite ?_ ?_
  | refine LeO.bind ?_ (fun _=>?_)
theorem slices_Index_int_int.mono:∀a0 a1 k,LeO (slices_Index_int_int.f k a0 a1) (slices_Index_int_int.f (k+1) a0 a1):=by
 intro a0 a1 k
 have ih0:=slices_Index_int_int.mono_l k
 unfold slices_Index_int_int.f
 repeat' first
  | (with_reducible exact ih0 _ _ _ _)
  | (with_reducible exact LeO.refl _)
  | (with_reducible exact LeO.none _)
  | (with_reducible refine LeO.ite ?_ ?_)
  | (with_reducible refine LeO.bind ?_ (fun _=>?_))
  | exact ih0 _ _ _ _
  | exact LeO.none _
  | refine LeO.ite ?_ ?_
  | refine LeO.bind ?_ (fun _=>?_)
set_option maxHeartbeats 8000000 in
set_option maxRecDepth 100000 in
theorem slices_Index_int_int.calls (k:Nat) (A0:Option Addr) (c0:Nat) (l0:List Int) (a1:Int) (r:Int) (w:World) (hr0:Kd.C (Kd.int .i64) w A0 l0.length l0) (hc0:l0.length≤c0) (h:slices_Index_int_int.f k l0 a1=some r) :
 Calls Try.prog 54 #[.slice A0 l0.length c0,.int .i64 a1] w fun e w'=>e=.returned (.int .i64 r)∧Drawn0 w w':=by
 have HR0:=Aside0.mk hr0
 have HC0:=Aside0.mk hc0
 clear hr0 hc0
 have H:(slices_Index_int_int.l0 k l0 a1 (l0.length:Int) 0)=some r:=h
 clear h
 have H':=Aside0.mk H
 clear H
 go_enter Try.func54,Try.ntmps54
 go_wp2
 go_loopg [8] k (fun kq v8 w'=>∃(x8_1:Int),v8=.int .i64 x8_1∧Aside0 (slices_Index_int_int.l0 kq l0 a1 (l0.length:Int) x8_1=some r)∧Aside0 (kq≤k)∧Drawn0 w w')
 case atStart=>exact⟨(0),(by first|rfl|(simp;done)|(simp [*];done)),H',⟨Nat.le_refl _⟩,by repeat (first|exact Drawn0.refl _|apply Drawn0.step)⟩
 case' round=>skip
 clear H'
 try clear p2
 obtain⟨x8_1,rfl,HA,HK1,⟨m1,rfl⟩⟩:=hrel
 cases gk with
 | zero=>exact absurd HA.out (by simp [slices_Index_int_int.l0])
 | succ k1=>
  have H:=HA.out
  clear HA
  simp only [slices_Index_int_int.l0] at H
  by_cases c3:x8_1 < (l0.length:Int)
  ·rw [if_pos c3] at H
   have c3b0:decide (x8_1 < (l0.length:Int))=true:=decide_eq_true c3
   clear c3
   by_cases c4:0≤x8_1
   ·rw [if_pos c4] at H
    have c4b0:decide (0≤x8_1)=true:=decide_eq_true c4
    clear c4
    by_cases c5:x8_1 < (l0.length:Int)
    ·rw [if_pos c5] at H
     have c5b0:decide (x8_1 < (l0.length:Int))=true:=decide_eq_true c5
     clear c5
     by_cases c6:a1=(rd l0 x8_1)
     ·rw [if_pos c6] at H
      have c6b0:(a1 == (rd l0 x8_1))=true:=beq_iff_eq.mpr c6
      have c6b1:(a1 != (rd l0 x8_1))=false:=bne_eq_false_iff_eq.mpr c6
      clear c6
      obtain rfl:=Option.some.inj H
      have p101:0≤(x8_1:Int):=of_decide_eq_true (by first|(with_reducible assumption)|assumption)
      have q101:x8_1 < (l0.length:Int):=of_decide_eq_true (by first|(with_reducible assumption)|assumption)
      obtain⟨ad101,e101,hx101_0⟩:=Kd.at_int HR0.out x8_1 p101 q101
      cases e101
      replace p101:=eq_true p101
      replace q101:=eq_true q101
      go_wp2
      go_ret
      exact⟨by first|rfl|(simp;done)|(simp [*];done),by repeat (first|exact Drawn0.refl _|apply Drawn0.step)⟩
     rw [if_neg c6] at H
     have c6b0:(a1 == (rd l0 x8_1))=false:=beq_eq_false_iff_ne.mpr c6
     have c6b1:(a1 != (rd l0 x8_1))=true:=bne_iff_ne.mpr c6
     have H':=Aside0.mk H
     clear H
     have p101:0≤(x8_1:Int):=of_decide_eq_true (by first|(with_reducible assumption)|assumption)
     have q101:x8_1 < (l0.length:Int):=of_decide_eq_true (by first|(with_reducible assumption)|assumption)
     obtain⟨ad101,e101,hx101_0⟩:=Kd.at_int HR0.out x8_1 p101 q101
     cases e101
     replace p101:=eq_true p101
     replace q101:=eq_true q101
     go_wp2
     go_roundg k1
     case measure=>have:=HK1.out;omega
     case rel=>exact⟨(wrap64 (x8_1+1)),(by first|rfl|(simp;done)|(simp [*];done)),H',⟨by have:=HK1.out;omega⟩,by repeat (first|exact Drawn0.refl _|apply Drawn0.step)⟩
    rw [if_neg c5] at H
    exact absurd H (by simp)
   rw [if_neg c4] at H
   exact absurd H (by simp)
  rw [if_neg c3] at H
  have c3b0:decide (x8_1 < (l0.length:Int))=false:=decide_eq_false c3
  clear c3
  obtain rfl:=Option.some.inj H
  go_wp2
  go_ret
  exact⟨by first|rfl|(simp;done)|(simp [*];done),by repeat (first|exact Drawn0.refl _|apply Drawn0.step)⟩
end Go.Proofs.Ytjkhdldgmkkhjaa.P
end
section
namespace Go.Proofs.Ytjkhdldgmkkhjaa.P
open Go.RowKit Go.Proofs.YtjkhdldgmkkhjaaW.PrintWords Go.Proofs.YtjkhdldgmkkhjaaW.PrintLast Go.Proofs.YtjkhdldgmkkhjaaW.PrintMore
attribute [local go_sem] max2_int min2_int max_two min_two max_three min_three max_four min_four   -- for this text's walks alone
def slices_Contains_int_int.f (k:Nat) (l0:List Int) (a1:Int):Option (Bool):=(slices_Index_int_int.f k l0 a1).bind fun t102=>(some (decide (t102≥0)))
theorem slices_Contains_int_int.mono:∀a0 a1 k,LeO (slices_Contains_int_int.f k a0 a1) (slices_Contains_int_int.f (k+1) a0 a1):=by
 intro a0 a1 k
 unfold slices_Contains_int_int.f
 repeat' first
  | (with_reducible exact slices_Index_int_int.mono _ _ _)
  | (with_reducible exact LeO.refl _)
  | (with_reducible exact LeO.none _)
  | (with_reducible refine LeO.ite ?_ ?_)
  | (with_reducible refine LeO.bind ?_ (fun _=>?_))
  | exact slices_Index_int_int.mono _ _ _
  | exact LeO.none _
  | refine LeO.ite ?_ ?_
  | refine LeO.bind ?_ (fun _=>?_)
set_option maxHeartbeats 8000000 in
set_option maxRecDepth 100000 in
theorem slices_Contains_int_int.calls (k:Nat) (A0:Option Addr) (c0:Nat) (l0:List Int) (a1:Int) (r:Bool) (w:World) (hr0:Kd.C (Kd.int .i64) w A0 l0.length l0) (hc0:l0.length≤c0) (h:slices_Contains_int_int.f k l0 a1=some r) :
 Calls Try.prog 41 #[.slice A0 l0.length c0,.int .i64 a1] w fun e w'=>e=.returned (.bool r)∧Drawn0 w w':=by
 have HR0:=Aside0.mk hr0
 have HC0:=Aside0.mk hc0
 clear hr0 hc0
 have H:((slices_Index_int_int.f k l0 a1).bind fun t102=>(some (decide (t102≥0))))=some r:=h
 clear h
 replace H:=Option.bind_eq_some_iff.mp H
 obtain⟨t102,A30,H⟩:=H
 replace H:(some (decide (t102≥0)))=some r:=H
 have A3:=Aside0.mk A30
 clear A30
 obtain rfl:=Option.some.inj H
 go_enter Try.func41,Try.ntmps41
 go_wp2_with (first|((with_reducible refine gate_callee (f:=54) rfl ?_);refine goesL_ (some 7) rfl rfl Try.func54 (by kernel_rfl) rfl #[.slice A0 l0.length c0,.int .i64 a1] rfl (by(try simp only [List.map_toArray,List.map_cons,List.map_nil]);first|done|rfl|(simp only [List.length_drop,List.length_take];rfl)) ?_;(with_reducible refine(slices_Index_int_int.calls k _ _ l0 a1 t102 _ ?side1 ?side2 A3.out).mono ?_);(case side1=>repeat (first|exact HR0.out|(with_reducible refine Kd.C_alloc ?_ _)|(with_reducible refine Kd.C_drewN ?_ _)|(with_reducible refine Kd.C_drew ?_)));(case side2=>exact HC0.out);rintro e w' ⟨rfl,⟨nd,rfl⟩⟩;refine⟨_,rfl,?_⟩))
 go_ret
 exact⟨by first|rfl|(simp;done)|(simp [*];done),by repeat (first|exact Drawn0.refl _|apply Drawn0.step)⟩
end Go.Proofs.Ytjkhdldgmkkhjaa.P
end
section
namespace Go.Proofs.Ytjkhdldgmkkhjaa.P
open Go.RowKit Go.Proofs.YtjkhdldgmkkhjaaW.PrintWords Go.Proofs.YtjkhdldgmkkhjaaW.PrintLast Go.Proofs.YtjkhdldgmkkhjaaW.PrintMore
attribute [local go_sem] max2_int min2_int max_two min_two max_three min_three max_four min_four   -- for this text's walks alone
def canopylaw3_pick.l0:Nat→List (S46)→Int→Int→List Int→Int→Option (Int)
 | 0,_,_,_,_,_=>none
 | k+1,x0,x1,x2,x7,x8=>if x8 < (x0.length:Int) then (if 0≤x8 then (if ((rd_T46 x0 x8).f1)=x1 then (if x7.length < 17592186044416 then (canopylaw3_pick.l0 k x0 x1 x2 (x7 ++ [x8]) (wrap64 (x8+1))) else (none)) else (canopylaw3_pick.l0 k x0 x1 x2 x7 (wrap64 (x8+1)))) else (none)) else (if (x7.length:Int)=0 then (some (-1)) else (if 0≤(Int.tmod x2 (x7.length:Int)) then (if (Int.tmod x2 (x7.length:Int)) < (x7.length:Int) then (some (rd x7 (Int.tmod x2 (x7.length:Int)))) else (none)) else (none)))
def canopylaw3_pick.f (k:Nat) (l0:List (S46)) (a1:Int) (a2:Int):Option (Int):=canopylaw3_pick.l0 k l0 a1 a2 ([]:List Int) 0
theorem canopylaw3_pick.mono_l:∀k,(∀y0 y1 y2 y3 y4,LeO (canopylaw3_pick.l0 k y0 y1 y2 y3 y4) (canopylaw3_pick.l0 (k+1) y0 y1 y2 y3 y4))
 | 0=>fun _ _ _ _ _ r h=>by simp [canopylaw3_pick.l0] at h
 | k+1=>by
  have ih0:=canopylaw3_pick.mono_l k
  intro y0 y1 y2 y3 y4
  unfold canopylaw3_pick.l0
  repeat' first
  | (with_reducible exact ih0 _ _ _ _ _)
  | (with_reducible exact LeO.refl _)
  | (with_reducible exact LeO.none _)
  | (with_reducible refine LeO.ite ?_ ?_)
  | (with_reducible refine LeO.bind ?_ (fun _=>?_))
  | exact ih0 _ _ _ _ _
  | exact LeO.none _
  | refine LeO.ite ?_ ?_
  | refine LeO.bind ?_ (fun _=>?_)
theorem canopylaw3_pick.mono:∀a0 a1 a2 k,LeO (canopylaw3_pick.f k a0 a1 a2) (canopylaw3_pick.f (k+1) a0 a1 a2):=by
 intro a0 a1 a2 k
 have ih0:=canopylaw3_pick.mono_l k
 unfold canopylaw3_pick.f
 repeat' first
  | (with_reducible exact ih0 _ _ _ _ _)
  | (with_reducible exact LeO.refl _)
  | (with_reducible exact LeO.none _)
  | (with_reducible refine LeO.ite ?_ ?_)
  | (with_reducible refine LeO.bind ?_ (fun _=>?_))
  | exact ih0 _ _ _ _ _
  | exact LeO.none _
  | refine LeO.ite ?_ ?_
  | refine LeO.bind ?_ (fun _=>?_)
set_option maxHeartbeats 8000000 in
set_option maxRecDepth 100000 in
theorem canopylaw3_pick.calls (k:Nat) (A0:Option Addr) (c0:Nat) (l0:List (S46)) (a1:Int) (a2:Int) (r:Int) (w:World) (hr0:Kd.C k46 w A0 l0.length l0) (hc0:l0.length≤c0) (h:canopylaw3_pick.f k l0 a1 a2=some r) :
 Calls Try.prog 32 #[.slice A0 l0.length c0,.int .i64 a1,.int .i64 a2] w fun e w'=>e=.returned (.int .i64 r)∧Below w.heap.size w w':=by
 have HR0:=Aside0.mk hr0
 have HC0:=Aside0.mk hc0
 clear hr0 hc0
 have HB:=Aside0.mk (Below.refl w.heap.size w)
 have H:(canopylaw3_pick.l0 k l0 a1 a2 ([]:List Int) 0)=some r:=h
 clear h
 have H':=Aside0.mk H
 clear H
 go_enter Try.func32,Try.ntmps32
 go_wp2
 go_loopg [7,8] k (fun kq v7 v8 w'=>∃(x7_1:List Int) (x8_1:Int),v8=.int .i64 x8_1∧Aside0 (canopylaw3_pick.l0 kq l0 a1 a2 x7_1 x8_1=some r)∧Aside0 (kq≤k)∧Aside0 (Kd.R (Kd.int .i64) 3 w' w.heap.size (fun _=>True) v7 x7_1)∧Aside0 (Below w.heap.size w w'))
 case atStart=>exact⟨(([]:List Int)),(0),(by first|rfl|(simp;done)|(simp [*];done)),H',⟨Nat.le_refl _⟩,⟨by first|exact Kd.R_nil _ _ _ _ _|exact Kd.N_nil _ _ _ _ _|exact Kd.V_nil _ _ _ _ _|exact Kd.Q_nil _ _ _ _ _|exact Kd.S_nil _ _ _ _ _⟩,⟨by repeat (first|(with_reducible first|exact HB.out|apply below_alloc|apply pw_below_drewN|apply below_drew1)|exact HB.out)⟩⟩
 case' round=>skip
 clear H'
 try clear p2
 try clear c3
 obtain⟨x7_1,x8_1,rfl,HA,HK1,HO_7,HB⟩:=hrel
 cases gk with
 | zero=>exact absurd HA.out (by simp [canopylaw3_pick.l0])
 | succ k1=>
  have H:=HA.out
  clear HA
  simp only [canopylaw3_pick.l0] at H
  by_cases c4:x8_1 < (l0.length:Int)
  ·rw [if_pos c4] at H
   have c4b0:decide (x8_1 < (l0.length:Int))=true:=decide_eq_true c4
   clear c4
   by_cases c5:0≤x8_1
   ·rw [if_pos c5] at H
    have c5b0:decide (0≤x8_1)=true:=decide_eq_true c5
    clear c5
    by_cases c6:((rd_T46 l0 x8_1).f1)=a1
    ·rw [if_pos c6] at H
     have c6b0:(((rd_T46 l0 x8_1).f1) == a1)=true:=beq_iff_eq.mpr c6
     have c6b1:(((rd_T46 l0 x8_1).f1) != a1)=false:=bne_eq_false_iff_eq.mpr c6
     clear c6
     by_cases c7:x7_1.length < 17592186044416
     ·rw [if_pos c7] at H
      have LMc7:=Aside0.mk c7
      clear c7
      obtain⟨y143,hy143⟩:∃y_:List Int,y_=(x7_1 ++ [x8_1]):=⟨_,rfl⟩
      replace H:(canopylaw3_pick.l0 k1 l0 a1 a2 y143 (wrap64 (x8_1+1)))=some r:=by first|(rw [hy143];with_reducible exact H)|(have H2_:=(Option.bind_some _ _).symm.trans H;rw [hy143];with_reducible exact H2_)|(have H2_:=(Option.bind_some _ _).symm.trans H;with_reducible exact H2_)|with_reducible exact H|(rw [hy143];exact H)|exact H
      have Ny143:=Aside0.mk hy143
      clear hy143
      have H':=Aside0.mk H
      clear H
      have p142:0≤(x8_1:Int):=of_decide_eq_true (by first|(with_reducible assumption)|assumption)
      have q142:x8_1 < (l0.length:Int):=of_decide_eq_true (by first|(with_reducible assumption)|assumption)
      obtain⟨ad142,e142,hx142_0,hx142_1⟩:=at_T46 HR0.out x8_1 p142 q142
      cases e142
      replace hx142_0:=(HB.out.cell (World.block_lt_of_cell? w _ hx142_0)).trans hx142_0
      replace hx142_1:=(HB.out.cell (World.block_lt_of_cell? w _ hx142_1)).trans hx142_1
      replace p142:=eq_true p142
      replace q142:=eq_true q142
      go_wp2_with (first|((with_reducible refine gate_builtin (b:=.append) (xs:=#[.tmp 22,.tmp 24]) rfl ?_);at_builtin;refine Kd.R_append (Kd.int .i64) (w0:=w) w.heap.size rfl (.tmp 22) (.tmp 24) 22 3 (.int .i64 0) 8 rfl Try.underlying22 info3 rfl (by decide) (by omega) u7 x7_1 x8_1 [.int .i64 x8_1] (fun _=>True) (fun _=>False) rfl rfl ?aP (fun _ hk=>hk.elim) ?aF ?aO ?aB ?aS ?aL ?_;(case aP=>exact rfl);(case aB=>exact(by repeat (first|(with_reducible first|exact HB.out|apply below_alloc|apply pw_below_drewN|apply below_drew1)|exact HB.out)));(case aF=>exact(fun _ _=>trivial));(case aO=>exact(by(with_reducible repeat (first|apply Kd.R_alloc|apply Kd.R_drewN|apply Kd.R_drew));exact HO_7.out));(case aS=>exact(below_size (by repeat (first|(with_reducible first|exact HB.out|apply below_alloc|apply pw_below_drewN|apply below_drew1)|exact HB.out))));(case aL=>have:=LMc7.out;omega);intro v144 w8 ho hb hg hat;rw [←Ny143.out] at ho;have n0_:=Aside0.mk (hb);have n1_:=Aside0.mk (ho);clear HB;clear HO_7;have HB:=n0_;have HO145:=n1_;clear n0_ n1_;clear ho hb hg hat))
      go_roundg k1
      case measure=>have:=HK1.out;omega
      case rel=>exact⟨(y143),(wrap64 (x8_1+1)),(by first|rfl|(simp;done)|(simp [*];done)),H',⟨by have:=HK1.out;omega⟩,⟨by(with_reducible repeat (first|apply Kd.R_alloc|apply Kd.R_drewN|apply Kd.R_drew));exact HO145.out⟩,⟨by repeat (first|(with_reducible first|exact HB.out|apply below_alloc|apply pw_below_drewN|apply below_drew1)|exact HB.out)⟩⟩
     rw [if_neg c7] at H
     exact absurd H (by simp)
    rw [if_neg c6] at H
    have c6b0:(((rd_T46 l0 x8_1).f1) == a1)=false:=beq_eq_false_iff_ne.mpr c6
    have c6b1:(((rd_T46 l0 x8_1).f1) != a1)=true:=bne_iff_ne.mpr c6
    have H':=Aside0.mk H
    clear H
    have p142:0≤(x8_1:Int):=of_decide_eq_true (by first|(with_reducible assumption)|assumption)
    have q142:x8_1 < (l0.length:Int):=of_decide_eq_true (by first|(with_reducible assumption)|assumption)
    obtain⟨ad142,e142,hx142_0,hx142_1⟩:=at_T46 HR0.out x8_1 p142 q142
    cases e142
    replace hx142_0:=(HB.out.cell (World.block_lt_of_cell? w _ hx142_0)).trans hx142_0
    replace hx142_1:=(HB.out.cell (World.block_lt_of_cell? w _ hx142_1)).trans hx142_1
    replace p142:=eq_true p142
    replace q142:=eq_true q142
    go_wp2
    go_roundg k1
    case measure=>have:=HK1.out;omega
    case rel=>exact⟨(x7_1),(wrap64 (x8_1+1)),(by first|rfl|(simp;done)|(simp [*];done)),H',⟨by have:=HK1.out;omega⟩,⟨by(with_reducible repeat (first|apply Kd.R_alloc|apply Kd.R_drewN|apply Kd.R_drew));exact HO_7.out⟩,⟨by repeat (first|(with_reducible first|exact HB.out|apply below_alloc|apply pw_below_drewN|apply below_drew1)|exact HB.out)⟩⟩
   rw [if_neg c5] at H
   exact absurd H (by simp)
  rw [if_neg c4] at H
  have c4b0:decide (x8_1 < (l0.length:Int))=false:=decide_eq_false c4
  clear c4
  by_cases c9:(x7_1.length:Int)=0
  ·rw [if_pos c9] at H
   have c9b0:((x7_1.length:Int) == 0)=true:=beq_iff_eq.mpr c9
   have c9b1:((x7_1.length:Int) != 0)=false:=bne_eq_false_iff_eq.mpr c9
   clear c9
   obtain rfl:=Option.some.inj H
   obtain⟨Ao10,co10,eo10⟩:=Kd.R_slice HO_7.out
   subst eo10
   go_wp2
   go_ret
   exact⟨by first|rfl|(simp [errW_none,errW_some]<;>rfl)|(simp [*,errW_none,errW_some]<;>rfl),by repeat (first|(with_reducible first|exact HB.out|apply below_alloc|apply pw_below_drewN|apply below_drew1)|exact HB.out)⟩
  rw [if_neg c9] at H
  have c9b0:((x7_1.length:Int) == 0)=false:=beq_eq_false_iff_ne.mpr c9
  have c9b1:((x7_1.length:Int) != 0)=true:=bne_iff_ne.mpr c9
  have c9b2:¬(x7_1 = []):=fun h_=>c9 (by rw [h_];rfl)
  obtain⟨ji11,hji11⟩:∃j_:Int,(Int.tmod a2 (x7_1.length:Int))=j_:=⟨_,rfl⟩
  replace H:(if 0≤(ji11) then (if (ji11) < (x7_1.length:Int) then (some (rd x7_1 (ji11))) else (none)) else (none))=some r:=by first|(rw [hji11] at H;exact H)|(simp only [hji11] at H ⊢;exact H)
  by_cases c12:0≤(ji11)
  ·rw [if_pos c12] at H
   have c12b0:decide (0≤(ji11))=true:=decide_eq_true c12
   clear c12
   by_cases c13:(ji11) < (x7_1.length:Int)
   ·rw [if_pos c13] at H
    have c13b0:decide ((ji11) < (x7_1.length:Int))=true:=decide_eq_true c13
    clear c13
    obtain rfl:=Option.some.inj H
    obtain⟨Ao14,co14,eo14⟩:=Kd.R_slice HO_7.out
    subst eo14
    have p146:0≤((ji11):Int):=of_decide_eq_true (by first|(with_reducible assumption)|assumption)
    have q146:(ji11) < (x7_1.length:Int):=of_decide_eq_true (by first|(with_reducible assumption)|assumption)
    obtain⟨ad146,e146,hx146_0⟩:=Kd.at_int (Kd.R_reads' HO_7.out).2.2 (ji11) p146 q146
    cases e146
    replace p146:=eq_true p146
    replace q146:=eq_true q146
    go_wp2
    go_ret
    exact⟨by first|rfl|(simp [errW_none,errW_some]<;>rfl)|(simp only [←hji11];first|rfl|(simp [errW_none,errW_some]<;>rfl))|(simp [*,errW_none,errW_some]<;>rfl),by repeat (first|(with_reducible first|exact HB.out|apply below_alloc|apply pw_below_drewN|apply below_drew1)|exact HB.out)⟩
   rw [if_neg c13] at H
   exact absurd H (by simp)
  rw [if_neg c12] at H
  exact absurd H (by simp)
end Go.Proofs.Ytjkhdldgmkkhjaa.P
end
section
namespace Go.Proofs.Ytjkhdldgmkkhjaa.P
open Go.RowKit Go.Proofs.YtjkhdldgmkkhjaaW.PrintWords Go.Proofs.YtjkhdldgmkkhjaaW.PrintLast Go.Proofs.YtjkhdldgmkkhjaaW.PrintMore
attribute [local go_sem] max2_int min2_int max_two min_two max_three min_three max_four min_four   -- for this text's walks alone
def canopylaw3_within.f (a0:Int) (a1:Int):Option (Int):=if a1=0 then (none) else (if (Int.tmod a0 a1) < 0 then (some (wrap64 ((Int.tmod a0 a1)+a1))) else (some (Int.tmod a0 a1)))
set_option maxHeartbeats 8000000 in
set_option maxRecDepth 100000 in
theorem canopylaw3_within.calls (a0:Int) (a1:Int) (r:Int) (w:World) (h:canopylaw3_within.f a0 a1=some r) :
 Calls Try.prog 31 #[.int .i64 a0,.int .i64 a1] w fun e w'=>e=.returned (.int .i64 r)∧Drawn0 w w':=by
 have H:(if a1=0 then (none) else (if (Int.tmod a0 a1) < 0 then (some (wrap64 ((Int.tmod a0 a1)+a1))) else (some (Int.tmod a0 a1))))=some r:=h
 clear h
 by_cases c3:a1=0
 ·rw [if_pos c3] at H
  exact absurd H (by simp)
 rw [if_neg c3] at H
 have c3b0:(a1 == 0)=false:=beq_eq_false_iff_ne.mpr c3
 have c3b1:(a1 != 0)=true:=bne_iff_ne.mpr c3
 by_cases c4:(Int.tmod a0 a1) < 0
 ·rw [if_pos c4] at H
  have c4b0:decide ((Int.tmod a0 a1) < 0)=true:=decide_eq_true c4
  clear c4
  obtain rfl:=Option.some.inj H
  go_enter Try.func31,Try.ntmps31
  go_wp2
  go_ret
  exact⟨by first|rfl|(simp;done)|(simp [*];done),by repeat (first|exact Drawn0.refl _|apply Drawn0.step)⟩
 rw [if_neg c4] at H
 have c4b0:decide ((Int.tmod a0 a1) < 0)=false:=decide_eq_false c4
 clear c4
 obtain rfl:=Option.some.inj H
 go_enter Try.func31,Try.ntmps31
 go_wp2
 go_ret
 exact⟨by first|rfl|(simp;done)|(simp [*];done),by repeat (first|exact Drawn0.refl _|apply Drawn0.step)⟩
end Go.Proofs.Ytjkhdldgmkkhjaa.P
end
