/- Words and walks of this claim: P0, PCmpOrInt, PCmpIsNaNInt, PCmpCompareInt, PEq0, PEq1, PEq2, PAutoLay, PAutoHas, PAutoIs, PAutoNumbers, PCanopylaw1Within, PCanopylaw1Word, PCanopylaw3Pick, PCanopylaw3Within, PCanopyref1Ints, PCanopyref3State, PCanopyref3Kind. -/
import Derived.Test.YtejpijgfpbcibaaGreatProg
import Derived.Below
import Derived.Deep.Draws
import Derived.Deep.AppendLies
import Derived.Maps.AppendAt
import Derived.OwnWalk
import Derived.Laws.BytesArg
import Derived.Laws.MakeOwn
import Derived.Laws.OwnMore
import Derived.Deep.OwnRows
import Derived.Tactics
import Derived.Lib.ConvBytes
import Derived.Laws.Slices
import Derived.WalkKit
import Derived.KernelRfl
import Derived.RowKit3
import Derived.Deep.LoopGhost
import Derived.Deep.QuietTactic
import Derived.BigQuiet
import Derived.WideLaws
import Derived.Deep.DeepCutAuto
import Derived.Deep.CutBlock
import Derived.Deep.RegionHeld3
import Derived.Laws.Rows
import Derived.Lib.AppendStr
import Derived.ArgAppend
import Derived.Laws.IdiomCopy
import Derived.OrdersHeld
import Derived.Laws.BitsLemmas
import Derived.RowKit
import Derived.Test.YtejpijgfpbcibaaGreatRWWords
import Derived.Test.YtejpijgfpbcibaaGreatRWEqStructEtc
set_option linter.unusedVariables false
set_option linter.unusedSimpArgs false
set_option linter.unnecessarySimpa false
section
namespace Go.Proofs.YtejpijgfpbcibaaGreat.P
open Go.RowKit Go.Proofs.YtejpijgfpbcibaaGreatW.PrintWords Go.Proofs.YtejpijgfpbcibaaGreatW.PrintLast Go.Proofs.YtejpijgfpbcibaaGreatW.PrintMore
attribute [local go_sem] max2_int min2_int max_two min_two max_three min_three max_four min_four   -- for this text's walks alone
def errW:Option Int→Value
 | none=>.nilIface
 | some c=>.iface 0 (.int .i64 c)
theorem errW_none:errW none=.nilIface:=rfl
theorem errW_some (c:Int):errW (some c)=.iface 0 (.int .i64 c):=rfl
theorem info3:(Tryz.prog.info? 3).map (fun i=>(i.zero,i.size,i.bytes))=some (some (.int .i64 0),1,8):=by kernel_rfl
theorem info51:(Tryz.prog.info? 51).map (fun i=>(i.zero,i.size,i.bytes))=some (some (.agg #[(.string ⟨#[]⟩),(.int .i64 0)]),2,24):=by kernel_rfl
theorem info72:(Tryz.prog.info? 72).map (fun i=>(i.zero,i.size,i.bytes))=some (some (.agg #[(.int .i64 0),(.int .i64 0),(.int .i64 0)]),3,24):=by kernel_rfl
structure S51 where
 f0:ByteArray
 f1:Int
def z51:S51:=⟨(⟨#[]⟩:ByteArray),(0:Int)⟩
def k51:Kd S51:=Kd.iso (Kd.pair Kd.string (Kd.int .i64)) (fun x:S51=>(x.f0,x.f1))
theorem k51_open {w:World} {x:S51} {cs:List Value} (h:k51.K w x cs):cs = [.string x.f0,.int .i64 x.f1]:=by
 obtain⟨_,_,rfl,rfl,rfl⟩:=h
 exact rfl
theorem k51_mkM (w:World) (base:Nat) (ok:Nat→Prop) (x:S51)  : k51.M w base ok x [.string x.f0,.int .i64 x.f1]:=⟨[.string x.f0],[.int .i64 x.f1],rfl,rfl,rfl⟩
def rd_T51 (xs:List S51) (i:Int):S51:=xs.getD i.toNat z51
theorem at_T51 {w:World} {A:Option Addr} {n:Nat} {xs:List S51} (h:Kd.C k51 w A n xs) (i:Int) (h0:0≤i) (h1:i < n):∃ad,A=some ad∧w.cell? (ad.add (i.toNat*2))=some (.string (rd_T51 xs i).f0)∧w.cell? ⟨(ad.add (i.toNat*2)).block,(ad.add (i.toNat*2)).off+1,none⟩=some (.int .i64 (rd_T51 xs i).f1):=by
 obtain⟨ad,c,e,_,hK,hc0⟩:=Kd.C_get h z51 i h0 h1
 have hc:∀j u,c[j]? = some u→w.cell? (ad.add (i.toNat*2+j))=some u:=hc0
 obtain rfl:=k51_open hK
 exact⟨ad,e,hc 0 _ rfl,by rw [←add_field _ _ 1 (by omega)];exact hc 1 _ rfl⟩
structure S36 where
 f0:Int
 f1:Int
 f2:Int
 f3:Int
def z36:S36:=⟨(0:Int),(0:Int),(0:Int),(0:Int)⟩
def k36:Kd S36:=Kd.iso (Kd.pair (Kd.int .i64) (Kd.pair (Kd.int .i64) (Kd.pair (Kd.int .i64) (Kd.int .i64)))) (fun x:S36=>(x.f0,x.f1,x.f2,x.f3))
theorem k36_open {w:World} {x:S36} {cs:List Value} (h:k36.K w x cs):cs = [.int .i64 x.f0,.int .i64 x.f1,.int .i64 x.f2,.int .i64 x.f3]:=by
 obtain⟨_,_,rfl,rfl,⟨_,_,rfl,rfl,⟨_,_,rfl,rfl,rfl⟩⟩⟩:=h
 exact rfl
theorem k36_openM {w:World} {base:Nat} {ok:Nat→Prop} {x:S36} {cs:List Value} (h:k36.M w base ok x cs):cs = [.int .i64 x.f0,.int .i64 x.f1,.int .i64 x.f2,.int .i64 x.f3]:=by
 obtain⟨_,_,rfl,rfl,⟨_,_,rfl,rfl,⟨_,_,rfl,rfl,rfl⟩⟩⟩:=h
 exact rfl
theorem k36_mk (w:World) (x:S36)  : k36.K w x [.int .i64 x.f0,.int .i64 x.f1,.int .i64 x.f2,.int .i64 x.f3]:=⟨[.int .i64 x.f0],[.int .i64 x.f1,.int .i64 x.f2,.int .i64 x.f3],rfl,rfl,⟨[.int .i64 x.f1],[.int .i64 x.f2,.int .i64 x.f3],rfl,rfl,⟨[.int .i64 x.f2],[.int .i64 x.f3],rfl,rfl,rfl⟩⟩⟩
theorem k36_mkM (w:World) (base:Nat) (ok:Nat→Prop) (x:S36)  : k36.M w base ok x [.int .i64 x.f0,.int .i64 x.f1,.int .i64 x.f2,.int .i64 x.f3]:=⟨[.int .i64 x.f0],[.int .i64 x.f1,.int .i64 x.f2,.int .i64 x.f3],rfl,rfl,⟨[.int .i64 x.f1],[.int .i64 x.f2,.int .i64 x.f3],rfl,rfl,⟨[.int .i64 x.f2],[.int .i64 x.f3],rfl,rfl,rfl⟩⟩⟩
def rd_T36 (xs:List S36) (i:Int):S36:=xs.getD i.toNat z36
theorem at_T36 {w:World} {A:Option Addr} {n:Nat} {xs:List S36} (h:Kd.C k36 w A n xs) (i:Int) (h0:0≤i) (h1:i < n):∃ad,A=some ad∧w.cell? (ad.add (i.toNat*4))=some (.int .i64 (rd_T36 xs i).f0)∧w.cell? ⟨(ad.add (i.toNat*4)).block,(ad.add (i.toNat*4)).off+1,none⟩=some (.int .i64 (rd_T36 xs i).f1)∧w.cell? ⟨(ad.add (i.toNat*4)).block,(ad.add (i.toNat*4)).off+2,none⟩=some (.int .i64 (rd_T36 xs i).f2)∧w.cell? ⟨(ad.add (i.toNat*4)).block,(ad.add (i.toNat*4)).off+3,none⟩=some (.int .i64 (rd_T36 xs i).f3):=by
 obtain⟨ad,c,e,_,hK,hc0⟩:=Kd.C_get h z36 i h0 h1
 have hc:∀j u,c[j]? = some u→w.cell? (ad.add (i.toNat*4+j))=some u:=hc0
 obtain rfl:=k36_open hK
 exact⟨ad,e,hc 0 _ rfl,by rw [←add_field _ _ 1 (by omega)];exact hc 1 _ rfl,by rw [←add_field _ _ 2 (by omega)];exact hc 2 _ rfl,by rw [←add_field _ _ 3 (by omega)];exact hc 3 _ rfl⟩
structure S38 where
 f0:Int
 f1:Int
 f2:Int
 f3:Int
def z38:S38:=⟨(0:Int),(0:Int),(0:Int),(0:Int)⟩
def k38:Kd S38:=Kd.iso (Kd.pair (Kd.int .i64) (Kd.pair (Kd.int .i64) (Kd.pair (Kd.int .i64) (Kd.int .i64)))) (fun x:S38=>(x.f0,x.f1,x.f2,x.f3))
theorem k38_open {w:World} {x:S38} {cs:List Value} (h:k38.K w x cs):cs = [.int .i64 x.f0,.int .i64 x.f1,.int .i64 x.f2,.int .i64 x.f3]:=by
 obtain⟨_,_,rfl,rfl,⟨_,_,rfl,rfl,⟨_,_,rfl,rfl,rfl⟩⟩⟩:=h
 exact rfl
theorem k38_openM {w:World} {base:Nat} {ok:Nat→Prop} {x:S38} {cs:List Value} (h:k38.M w base ok x cs):cs = [.int .i64 x.f0,.int .i64 x.f1,.int .i64 x.f2,.int .i64 x.f3]:=by
 obtain⟨_,_,rfl,rfl,⟨_,_,rfl,rfl,⟨_,_,rfl,rfl,rfl⟩⟩⟩:=h
 exact rfl
theorem k38_mk (w:World) (x:S38)  : k38.K w x [.int .i64 x.f0,.int .i64 x.f1,.int .i64 x.f2,.int .i64 x.f3]:=⟨[.int .i64 x.f0],[.int .i64 x.f1,.int .i64 x.f2,.int .i64 x.f3],rfl,rfl,⟨[.int .i64 x.f1],[.int .i64 x.f2,.int .i64 x.f3],rfl,rfl,⟨[.int .i64 x.f2],[.int .i64 x.f3],rfl,rfl,rfl⟩⟩⟩
theorem k38_mkM (w:World) (base:Nat) (ok:Nat→Prop) (x:S38)  : k38.M w base ok x [.int .i64 x.f0,.int .i64 x.f1,.int .i64 x.f2,.int .i64 x.f3]:=⟨[.int .i64 x.f0],[.int .i64 x.f1,.int .i64 x.f2,.int .i64 x.f3],rfl,rfl,⟨[.int .i64 x.f1],[.int .i64 x.f2,.int .i64 x.f3],rfl,rfl,⟨[.int .i64 x.f2],[.int .i64 x.f3],rfl,rfl,rfl⟩⟩⟩
def rd_T38 (xs:List S38) (i:Int):S38:=xs.getD i.toNat z38
theorem at_T38 {w:World} {A:Option Addr} {n:Nat} {xs:List S38} (h:Kd.C k38 w A n xs) (i:Int) (h0:0≤i) (h1:i < n):∃ad,A=some ad∧w.cell? (ad.add (i.toNat*4))=some (.int .i64 (rd_T38 xs i).f0)∧w.cell? ⟨(ad.add (i.toNat*4)).block,(ad.add (i.toNat*4)).off+1,none⟩=some (.int .i64 (rd_T38 xs i).f1)∧w.cell? ⟨(ad.add (i.toNat*4)).block,(ad.add (i.toNat*4)).off+2,none⟩=some (.int .i64 (rd_T38 xs i).f2)∧w.cell? ⟨(ad.add (i.toNat*4)).block,(ad.add (i.toNat*4)).off+3,none⟩=some (.int .i64 (rd_T38 xs i).f3):=by
 obtain⟨ad,c,e,_,hK,hc0⟩:=Kd.C_get h z38 i h0 h1
 have hc:∀j u,c[j]? = some u→w.cell? (ad.add (i.toNat*4+j))=some u:=hc0
 obtain rfl:=k38_open hK
 exact⟨ad,e,hc 0 _ rfl,by rw [←add_field _ _ 1 (by omega)];exact hc 1 _ rfl,by rw [←add_field _ _ 2 (by omega)];exact hc 2 _ rfl,by rw [←add_field _ _ 3 (by omega)];exact hc 3 _ rfl⟩
structure S40 where
 f0:Int
 f1:Int
 f2:Int
def z40:S40:=⟨(0:Int),(0:Int),(0:Int)⟩
def k40:Kd S40:=Kd.iso (Kd.pair (Kd.int .i64) (Kd.pair (Kd.int .i64) (Kd.int .i64))) (fun x:S40=>(x.f0,x.f1,x.f2))
theorem k40_open {w:World} {x:S40} {cs:List Value} (h:k40.K w x cs):cs = [.int .i64 x.f0,.int .i64 x.f1,.int .i64 x.f2]:=by
 obtain⟨_,_,rfl,rfl,⟨_,_,rfl,rfl,rfl⟩⟩:=h
 exact rfl
theorem k40_openM {w:World} {base:Nat} {ok:Nat→Prop} {x:S40} {cs:List Value} (h:k40.M w base ok x cs):cs = [.int .i64 x.f0,.int .i64 x.f1,.int .i64 x.f2]:=by
 obtain⟨_,_,rfl,rfl,⟨_,_,rfl,rfl,rfl⟩⟩:=h
 exact rfl
theorem k40_mkM (w:World) (base:Nat) (ok:Nat→Prop) (x:S40)  : k40.M w base ok x [.int .i64 x.f0,.int .i64 x.f1,.int .i64 x.f2]:=⟨[.int .i64 x.f0],[.int .i64 x.f1,.int .i64 x.f2],rfl,rfl,⟨[.int .i64 x.f1],[.int .i64 x.f2],rfl,rfl,rfl⟩⟩
def rd_T40 (xs:List S40) (i:Int):S40:=xs.getD i.toNat z40
theorem at_T40 {w:World} {A:Option Addr} {n:Nat} {xs:List S40} (h:Kd.C k40 w A n xs) (i:Int) (h0:0≤i) (h1:i < n):∃ad,A=some ad∧w.cell? (ad.add (i.toNat*3))=some (.int .i64 (rd_T40 xs i).f0)∧w.cell? ⟨(ad.add (i.toNat*3)).block,(ad.add (i.toNat*3)).off+1,none⟩=some (.int .i64 (rd_T40 xs i).f1)∧w.cell? ⟨(ad.add (i.toNat*3)).block,(ad.add (i.toNat*3)).off+2,none⟩=some (.int .i64 (rd_T40 xs i).f2):=by
 obtain⟨ad,c,e,_,hK,hc0⟩:=Kd.C_get h z40 i h0 h1
 have hc:∀j u,c[j]? = some u→w.cell? (ad.add (i.toNat*3+j))=some u:=hc0
 obtain rfl:=k40_open hK
 exact⟨ad,e,hc 0 _ rfl,by rw [←add_field _ _ 1 (by omega)];exact hc 1 _ rfl,by rw [←add_field _ _ 2 (by omega)];exact hc 2 _ rfl⟩
structure S72 where
 f0:Int
 f1:Int
 f2:Int
def z72:S72:=⟨(0:Int),(0:Int),(0:Int)⟩
def k72:Kd S72:=Kd.iso (Kd.pair (Kd.int .i64) (Kd.pair (Kd.int .i64) (Kd.int .i64))) (fun x:S72=>(x.f0,x.f1,x.f2))
theorem k72_open {w:World} {x:S72} {cs:List Value} (h:k72.K w x cs):cs = [.int .i64 x.f0,.int .i64 x.f1,.int .i64 x.f2]:=by
 obtain⟨_,_,rfl,rfl,⟨_,_,rfl,rfl,rfl⟩⟩:=h
 exact rfl
theorem k72_mkM (w:World) (base:Nat) (ok:Nat→Prop) (x:S72)  : k72.M w base ok x [.int .i64 x.f0,.int .i64 x.f1,.int .i64 x.f2]:=⟨[.int .i64 x.f0],[.int .i64 x.f1,.int .i64 x.f2],rfl,rfl,⟨[.int .i64 x.f1],[.int .i64 x.f2],rfl,rfl,rfl⟩⟩
def rd_T72 (xs:List S72) (i:Int):S72:=xs.getD i.toNat z72
theorem at_T72 {w:World} {A:Option Addr} {n:Nat} {xs:List S72} (h:Kd.C k72 w A n xs) (i:Int) (h0:0≤i) (h1:i < n):∃ad,A=some ad∧w.cell? (ad.add (i.toNat*3))=some (.int .i64 (rd_T72 xs i).f0)∧w.cell? ⟨(ad.add (i.toNat*3)).block,(ad.add (i.toNat*3)).off+1,none⟩=some (.int .i64 (rd_T72 xs i).f1)∧w.cell? ⟨(ad.add (i.toNat*3)).block,(ad.add (i.toNat*3)).off+2,none⟩=some (.int .i64 (rd_T72 xs i).f2):=by
 obtain⟨ad,c,e,_,hK,hc0⟩:=Kd.C_get h z72 i h0 h1
 have hc:∀j u,c[j]? = some u→w.cell? (ad.add (i.toNat*3+j))=some u:=hc0
 obtain rfl:=k72_open hK
 exact⟨ad,e,hc 0 _ rfl,by rw [←add_field _ _ 1 (by omega)];exact hc 1 _ rfl,by rw [←add_field _ _ 2 (by omega)];exact hc 2 _ rfl⟩
structure S30 where
 f0:Int
 f1:Int
 f2:(List Int)
 f3:(List Int)
 f4:(List S36)
 f5:(List S38)
 f6:(List S40)
end Go.Proofs.YtejpijgfpbcibaaGreat.P
end
section
namespace Go.Proofs.YtejpijgfpbcibaaGreat.P
open Go.RowKit Go.Proofs.YtejpijgfpbcibaaGreatW.PrintWords Go.Proofs.YtejpijgfpbcibaaGreatW.PrintLast Go.Proofs.YtejpijgfpbcibaaGreatW.PrintMore
attribute [local go_sem] max2_int min2_int max_two min_two max_three min_three max_four min_four   -- for this text's walks alone
def cmp_Or_int.l0:Nat→Int→List Int→Int→Int→Option (Int)
 | 0,_,_,_,_=>none
 | k+1,x3,x6,x7,x8=>if x8 < x7 then (if 0≤x8 then (if x8 < (x6.length:Int) then (if (rd x6 x8)=x3 then (cmp_Or_int.l0 k x3 x6 x7 (wrap64 (x8+1))) else (some (rd x6 x8))) else (none)) else (none)) else (some x3)
def cmp_Or_int.f (k:Nat) (l0:List Int):Option (Int):=cmp_Or_int.l0 k 0 l0 (l0.length:Int) 0
theorem cmp_Or_int.mono_l:∀k,(∀y0 y1 y2 y3,LeO (cmp_Or_int.l0 k y0 y1 y2 y3) (cmp_Or_int.l0 (k+1) y0 y1 y2 y3))
 | 0=>fun _ _ _ _ r h=>by simp [cmp_Or_int.l0] at h
 | k+1=>by
  have ih0:=cmp_Or_int.mono_l k
  intro y0 y1 y2 y3
  unfold cmp_Or_int.l0
  repeat' first
  | (with_reducible exact ih0 _ _ _ _)
  | (with_reducible exact LeO.refl _)
  | (with_reducible exact LeO.none _)
  | (with_reducible refine LeO.ite ?_ ?_)
  | (with_reducible refine LeO.bind ?_ (fun _=>?_))
  | exact ih0 _ _ _ _
  | exact LeO.none _
  | refine LeO.ite ?_ ?_
  | refine LeO.bind ?_ (fun _=>?_)
theorem cmp_Or_int.mono:∀a0 k,LeO (cmp_Or_int.f k a0) (cmp_Or_int.f (k+1) a0):=by
 intro a0 k
 have ih0:=cmp_Or_int.mono_l k
 unfold cmp_Or_int.f
 repeat' first
  | (with_reducible exact ih0 _ _ _ _)
  | (with_reducible exact LeO.refl _)
  | (with_reducible exact LeO.none _)
  | (with_reducible refine LeO.ite ?_ ?_)
  | (with_reducible refine LeO.bind ?_ (fun _=>?_))
  | exact ih0 _ _ _ _
  | exact LeO.none _
  | refine LeO.ite ?_ ?_
  | refine LeO.bind ?_ (fun _=>?_)
set_option maxHeartbeats 8000000 in
set_option maxRecDepth 100000 in
theorem cmp_Or_int.calls (k:Nat) (A0:Option Addr) (c0:Nat) (l0:List Int) (r:Int) (w:World) (hr0:Kd.C (Kd.int .i64) w A0 l0.length l0) (hc0:l0.length≤c0) (h:cmp_Or_int.f k l0=some r) :
 Calls Tryz.prog 64 #[.slice A0 l0.length c0] w fun e w'=>e=.returned (.int .i64 r)∧Drawn0 w w':=by
 have HR0:=Aside0.mk hr0
 have HC0:=Aside0.mk hc0
 clear hr0 hc0
 have H:(cmp_Or_int.l0 k 0 l0 (l0.length:Int) 0)=some r:=h
 clear h
 have H':=Aside0.mk H
 clear H
 go_enter Tryz.func64,Tryz.ntmps64
 go_wp2
 go_loopg [8] k (fun kq v8 w'=>∃(x8_1:Int),v8=.int .i64 x8_1∧Aside0 (cmp_Or_int.l0 kq 0 l0 (l0.length:Int) x8_1=some r)∧Aside0 (kq≤k)∧Drawn0 w w')
 case atStart=>exact⟨(0),(by first|rfl|(simp;done)|(simp [*];done)),H',⟨Nat.le_refl _⟩,by repeat (first|exact Drawn0.refl _|apply Drawn0.step)⟩
 case' round=>skip
 clear H'
 obtain⟨x8_1,rfl,HA,HK1,⟨m1,rfl⟩⟩:=hrel
 cases gk with
 | zero=>exact absurd HA.out (by simp [cmp_Or_int.l0])
 | succ k1=>
  have H:=HA.out
  clear HA
  simp only [cmp_Or_int.l0] at H
  by_cases c2:x8_1 < (l0.length:Int)
  ·rw [if_pos c2] at H
   have c2b0:decide (x8_1 < (l0.length:Int))=true:=decide_eq_true c2
   clear c2
   by_cases c3:0≤x8_1
   ·rw [if_pos c3] at H
    have c3b0:decide (0≤x8_1)=true:=decide_eq_true c3
    clear c3
    by_cases c4:x8_1 < (l0.length:Int)
    ·rw [if_pos c4] at H
     have c4b0:decide (x8_1 < (l0.length:Int))=true:=decide_eq_true c4
     clear c4
     by_cases c5:(rd l0 x8_1)=0
     ·rw [if_pos c5] at H
      have c5b0:((rd l0 x8_1) == 0)=true:=beq_iff_eq.mpr c5
      have c5b1:((rd l0 x8_1) != 0)=false:=bne_eq_false_iff_eq.mpr c5
      clear c5
      have H':=Aside0.mk H
      clear H
      have p101:0≤(x8_1:Int):=of_decide_eq_true (by first|(with_reducible assumption)|assumption)
      have q101:x8_1 < (l0.length:Int):=of_decide_eq_true (by first|(with_reducible assumption)|assumption)
      obtain⟨ad101,e101,hx101_0⟩:=Kd.at_int HR0.out x8_1 p101 q101
      cases e101
      replace p101:=eq_true p101
      replace q101:=eq_true q101
      go_wp2
      go_roundg k1
      case measure=>have:=HK1.out;omega
      case rel=>exact⟨(wrap64 (x8_1+1)),(by first|rfl|(simp;done)|(simp [*];done)),H',⟨by have:=HK1.out;omega⟩,by repeat (first|exact Drawn0.refl _|apply Drawn0.step)⟩
     rw [if_neg c5] at H
     have c5b0:((rd l0 x8_1) == 0)=false:=beq_eq_false_iff_ne.mpr c5
     have c5b1:((rd l0 x8_1) != 0)=true:=bne_iff_ne.mpr c5
     obtain rfl:=Option.some.inj H
     have p101:0≤(x8_1:Int):=of_decide_eq_true (by first|(with_reducible assumption)|assumption)
     have q101:x8_1 < (l0.length:Int):=of_decide_eq_true (by first|(with_reducible assumption)|assumption)
     obtain⟨ad101,e101,hx101_0⟩:=Kd.at_int HR0.out x8_1 p101 q101
     cases e101
     replace p101:=eq_true p101
     replace q101:=eq_true q101
     go_wp2
     go_ret
     exact⟨by first|rfl|(simp;done)|(simp [*];done),by repeat (first|exact Drawn0.refl _|apply Drawn0.step)⟩
    rw [if_neg c4] at H
    exact absurd H (by simp)
   rw [if_neg c3] at H
   exact absurd H (by simp)
  rw [if_neg c2] at H
  have c2b0:decide (x8_1 < (l0.length:Int))=false:=decide_eq_false c2
  clear c2
  obtain rfl:=Option.some.inj H
  go_wp2
  go_ret
  exact⟨by first|rfl|(simp;done)|(simp [*];done),by repeat (first|exact Drawn0.refl _|apply Drawn0.step)⟩
end Go.Proofs.YtejpijgfpbcibaaGreat.P
end
section
namespace Go.Proofs.YtejpijgfpbcibaaGreat.P
open Go.RowKit Go.Proofs.YtejpijgfpbcibaaGreatW.PrintWords Go.Proofs.YtejpijgfpbcibaaGreatW.PrintLast Go.Proofs.YtejpijgfpbcibaaGreatW.PrintMore
attribute [local go_sem] max2_int min2_int max_two min_two max_three min_three max_four min_four   -- for this text's walks alone
def cmp_isNaN_int.f (a0:Int):Option (Bool):=some (a0 != a0)
set_option maxHeartbeats 8000000 in
set_option maxRecDepth 100000 in
theorem cmp_isNaN_int.calls (a0:Int) (r:Bool) (w:World) (h:cmp_isNaN_int.f a0=some r) :
 Calls Tryz.prog 78 #[.int .i64 a0] w fun e w'=>e=.returned (.bool r)∧Drawn0 w w':=by
 have H:(some (a0 != a0))=some r:=h
 clear h
 obtain rfl:=Option.some.inj H
 go_enter Tryz.func78,Tryz.ntmps78
 go_wp2
 go_ret
 exact⟨by first|rfl|(simp;done)|(simp [*];done),by repeat (first|exact Drawn0.refl _|apply Drawn0.step)⟩
end Go.Proofs.YtejpijgfpbcibaaGreat.P
end
section
namespace Go.Proofs.YtejpijgfpbcibaaGreat.P
open Go.RowKit Go.Proofs.YtejpijgfpbcibaaGreatW.PrintWords Go.Proofs.YtejpijgfpbcibaaGreatW.PrintLast Go.Proofs.YtejpijgfpbcibaaGreatW.PrintMore
attribute [local go_sem] max2_int min2_int max_two min_two max_three min_three max_four min_four   -- for this text's walks alone
def cmp_Compare_int.f (a0:Int) (a1:Int):Option (Int):=(cmp_isNaN_int.f a0).bind fun t102=>((cmp_isNaN_int.f a1).bind fun t103=>(if t102=true then (if t103=true then (some 0) else (some (-1))) else (if t103=true then (some 1) else (if a0 < a1 then (some (-1)) else (if a0 > a1 then (some 1) else (some 0))))))
set_option maxHeartbeats 8000000 in
set_option maxRecDepth 100000 in
theorem cmp_Compare_int.calls (a0:Int) (a1:Int) (r:Int) (w:World) (h:cmp_Compare_int.f a0 a1=some r) :
 Calls Tryz.prog 65 #[.int .i64 a0,.int .i64 a1] w fun e w'=>e=.returned (.int .i64 r)∧Drawn0 w w':=by
 have H:((cmp_isNaN_int.f a0).bind fun t102=>((cmp_isNaN_int.f a1).bind fun t103=>(if t102=true then (if t103=true then (some 0) else (some (-1))) else (if t103=true then (some 1) else (if a0 < a1 then (some (-1)) else (if a0 > a1 then (some 1) else (some 0)))))))=some r:=h
 clear h
 replace H:=Option.bind_eq_some_iff.mp H
 obtain⟨t102,A30,H⟩:=H
 replace H:((cmp_isNaN_int.f a1).bind fun t103=>(if t102=true then (if t103=true then (some 0) else (some (-1))) else (if t103=true then (some 1) else (if a0 < a1 then (some (-1)) else (if a0 > a1 then (some 1) else (some 0))))))=some r:=H
 have A3:=Aside0.mk A30
 clear A30
 replace H:=Option.bind_eq_some_iff.mp H
 obtain⟨t103,A40,H⟩:=H
 replace H:(if t102=true then (if t103=true then (some 0) else (some (-1))) else (if t103=true then (some 1) else (if a0 < a1 then (some (-1)) else (if a0 > a1 then (some 1) else (some 0)))))=some r:=H
 have A4:=Aside0.mk A40
 clear A40
 by_cases c5:t102=true
 ·subst c5
  have H1:(if t103=true then (some 0) else (some (-1)))=some r:=by rw [if_pos rfl] at H;exact H
  clear H
  have H:=H1
  clear H1
  by_cases c6:t103=true
  ·subst c6
   have H1:(some 0)=some r:=by rw [if_pos rfl] at H;exact H
   clear H
   have H:=H1
   clear H1
   obtain rfl:=Option.some.inj H
   go_enter Tryz.func65,Tryz.ntmps65
   go_wp2_with (first|((with_reducible refine gate_callee (f:=78) rfl ?_);refine goesL_ (some 8) rfl rfl Tryz.func78 (by kernel_rfl) rfl #[.int .i64 a0] rfl (by(try simp only [List.map_toArray,List.map_cons,List.map_nil]);first|done|rfl|(simp only [List.length_drop,List.length_take];rfl)) ?_;(with_reducible refine(cmp_isNaN_int.calls a0 true _ A3.out).mono ?_);rintro e w' ⟨rfl,⟨nd,rfl⟩⟩;refine⟨_,rfl,?_⟩)|((with_reducible refine gate_callee (f:=78) rfl ?_);refine goesL_ (some 10) rfl rfl Tryz.func78 (by kernel_rfl) rfl #[.int .i64 a1] rfl (by(try simp only [List.map_toArray,List.map_cons,List.map_nil]);first|done|rfl|(simp only [List.length_drop,List.length_take];rfl)) ?_;(with_reducible refine(cmp_isNaN_int.calls a1 true _ A4.out).mono ?_);rintro e w' ⟨rfl,⟨nd,rfl⟩⟩;refine⟨_,rfl,?_⟩))
   go_ret
   exact⟨by first|rfl|(simp;done)|(simp [*];done),by repeat (first|exact Drawn0.refl _|apply Drawn0.step)⟩
  replace c6 := Bool.eq_false_iff.mpr c6
  subst c6
  have H1:(some (-1))=some r:=by rw [if_neg (show ¬(false=true) by decide)] at H;exact H
  clear H
  have H:=H1
  clear H1
  obtain rfl:=Option.some.inj H
  go_enter Tryz.func65,Tryz.ntmps65
  go_wp2_with (first|((with_reducible refine gate_callee (f:=78) rfl ?_);refine goesL_ (some 8) rfl rfl Tryz.func78 (by kernel_rfl) rfl #[.int .i64 a0] rfl (by(try simp only [List.map_toArray,List.map_cons,List.map_nil]);first|done|rfl|(simp only [List.length_drop,List.length_take];rfl)) ?_;(with_reducible refine(cmp_isNaN_int.calls a0 true _ A3.out).mono ?_);rintro e w' ⟨rfl,⟨nd,rfl⟩⟩;refine⟨_,rfl,?_⟩)|((with_reducible refine gate_callee (f:=78) rfl ?_);refine goesL_ (some 10) rfl rfl Tryz.func78 (by kernel_rfl) rfl #[.int .i64 a1] rfl (by(try simp only [List.map_toArray,List.map_cons,List.map_nil]);first|done|rfl|(simp only [List.length_drop,List.length_take];rfl)) ?_;(with_reducible refine(cmp_isNaN_int.calls a1 false _ A4.out).mono ?_);rintro e w' ⟨rfl,⟨nd,rfl⟩⟩;refine⟨_,rfl,?_⟩))
  go_ret
  exact⟨by first|rfl|(simp;done)|(simp [*];done),by repeat (first|exact Drawn0.refl _|apply Drawn0.step)⟩
 replace c5 := Bool.eq_false_iff.mpr c5
 subst c5
 have H1:(if t103=true then (some 1) else (if a0 < a1 then (some (-1)) else (if a0 > a1 then (some 1) else (some 0))))=some r:=by rw [if_neg (show ¬(false=true) by decide)] at H;exact H
 clear H
 have H:=H1
 clear H1
 by_cases c7:t103=true
 ·subst c7
  have H1:(some 1)=some r:=by rw [if_pos rfl] at H;exact H
  clear H
  have H:=H1
  clear H1
  obtain rfl:=Option.some.inj H
  go_enter Tryz.func65,Tryz.ntmps65
  go_wp2_with (first|((with_reducible refine gate_callee (f:=78) rfl ?_);refine goesL_ (some 8) rfl rfl Tryz.func78 (by kernel_rfl) rfl #[.int .i64 a0] rfl (by(try simp only [List.map_toArray,List.map_cons,List.map_nil]);first|done|rfl|(simp only [List.length_drop,List.length_take];rfl)) ?_;(with_reducible refine(cmp_isNaN_int.calls a0 false _ A3.out).mono ?_);rintro e w' ⟨rfl,⟨nd,rfl⟩⟩;refine⟨_,rfl,?_⟩)|((with_reducible refine gate_callee (f:=78) rfl ?_);refine goesL_ (some 10) rfl rfl Tryz.func78 (by kernel_rfl) rfl #[.int .i64 a1] rfl (by(try simp only [List.map_toArray,List.map_cons,List.map_nil]);first|done|rfl|(simp only [List.length_drop,List.length_take];rfl)) ?_;(with_reducible refine(cmp_isNaN_int.calls a1 true _ A4.out).mono ?_);rintro e w' ⟨rfl,⟨nd,rfl⟩⟩;refine⟨_,rfl,?_⟩))
  go_ret
  exact⟨by first|rfl|(simp;done)|(simp [*];done),by repeat (first|exact Drawn0.refl _|apply Drawn0.step)⟩
 replace c7 := Bool.eq_false_iff.mpr c7
 subst c7
 have H1:(if a0 < a1 then (some (-1)) else (if a0 > a1 then (some 1) else (some 0)))=some r:=by rw [if_neg (show ¬(false=true) by decide)] at H;exact H
 clear H
 have H:=H1
 clear H1
 by_cases c8:a0 < a1
 ·rw [if_pos c8] at H
  have c8b0:decide (a0 < a1)=true:=decide_eq_true c8
  clear c8
  obtain rfl:=Option.some.inj H
  go_enter Tryz.func65,Tryz.ntmps65
  go_wp2_with (first|((with_reducible refine gate_callee (f:=78) rfl ?_);refine goesL_ (some 8) rfl rfl Tryz.func78 (by kernel_rfl) rfl #[.int .i64 a0] rfl (by(try simp only [List.map_toArray,List.map_cons,List.map_nil]);first|done|rfl|(simp only [List.length_drop,List.length_take];rfl)) ?_;(with_reducible refine(cmp_isNaN_int.calls a0 false _ A3.out).mono ?_);rintro e w' ⟨rfl,⟨nd,rfl⟩⟩;refine⟨_,rfl,?_⟩)|((with_reducible refine gate_callee (f:=78) rfl ?_);refine goesL_ (some 10) rfl rfl Tryz.func78 (by kernel_rfl) rfl #[.int .i64 a1] rfl (by(try simp only [List.map_toArray,List.map_cons,List.map_nil]);first|done|rfl|(simp only [List.length_drop,List.length_take];rfl)) ?_;(with_reducible refine(cmp_isNaN_int.calls a1 false _ A4.out).mono ?_);rintro e w' ⟨rfl,⟨nd,rfl⟩⟩;refine⟨_,rfl,?_⟩))
  go_ret
  exact⟨by first|rfl|(simp;done)|(simp [*];done),by repeat (first|exact Drawn0.refl _|apply Drawn0.step)⟩
 rw [if_neg c8] at H
 have c8b0:decide (a0 < a1)=false:=decide_eq_false c8
 clear c8
 by_cases c9:a0 > a1
 ·rw [if_pos c9] at H
  have c9b0:decide (a1 < a0)=true:=decide_eq_true c9
  clear c9
  obtain rfl:=Option.some.inj H
  go_enter Tryz.func65,Tryz.ntmps65
  go_wp2_with (first|((with_reducible refine gate_callee (f:=78) rfl ?_);refine goesL_ (some 8) rfl rfl Tryz.func78 (by kernel_rfl) rfl #[.int .i64 a0] rfl (by(try simp only [List.map_toArray,List.map_cons,List.map_nil]);first|done|rfl|(simp only [List.length_drop,List.length_take];rfl)) ?_;(with_reducible refine(cmp_isNaN_int.calls a0 false _ A3.out).mono ?_);rintro e w' ⟨rfl,⟨nd,rfl⟩⟩;refine⟨_,rfl,?_⟩)|((with_reducible refine gate_callee (f:=78) rfl ?_);refine goesL_ (some 10) rfl rfl Tryz.func78 (by kernel_rfl) rfl #[.int .i64 a1] rfl (by(try simp only [List.map_toArray,List.map_cons,List.map_nil]);first|done|rfl|(simp only [List.length_drop,List.length_take];rfl)) ?_;(with_reducible refine(cmp_isNaN_int.calls a1 false _ A4.out).mono ?_);rintro e w' ⟨rfl,⟨nd,rfl⟩⟩;refine⟨_,rfl,?_⟩))
  go_ret
  exact⟨by first|rfl|(simp;done)|(simp [*];done),by repeat (first|exact Drawn0.refl _|apply Drawn0.step)⟩
 rw [if_neg c9] at H
 have c9b0:decide (a1 < a0)=false:=decide_eq_false c9
 clear c9
 obtain rfl:=Option.some.inj H
 go_enter Tryz.func65,Tryz.ntmps65
 go_wp2_with (first|((with_reducible refine gate_callee (f:=78) rfl ?_);refine goesL_ (some 8) rfl rfl Tryz.func78 (by kernel_rfl) rfl #[.int .i64 a0] rfl (by(try simp only [List.map_toArray,List.map_cons,List.map_nil]);first|done|rfl|(simp only [List.length_drop,List.length_take];rfl)) ?_;(with_reducible refine(cmp_isNaN_int.calls a0 false _ A3.out).mono ?_);rintro e w' ⟨rfl,⟨nd,rfl⟩⟩;refine⟨_,rfl,?_⟩)|((with_reducible refine gate_callee (f:=78) rfl ?_);refine goesL_ (some 10) rfl rfl Tryz.func78 (by kernel_rfl) rfl #[.int .i64 a1] rfl (by(try simp only [List.map_toArray,List.map_cons,List.map_nil]);first|done|rfl|(simp only [List.length_drop,List.length_take];rfl)) ?_;(with_reducible refine(cmp_isNaN_int.calls a1 false _ A4.out).mono ?_);rintro e w' ⟨rfl,⟨nd,rfl⟩⟩;refine⟨_,rfl,?_⟩))
 go_ret
 exact⟨by first|rfl|(simp;done)|(simp [*];done),by repeat (first|exact Drawn0.refl _|apply Drawn0.step)⟩
end Go.Proofs.YtejpijgfpbcibaaGreat.P
end
section
namespace Go.Proofs.YtejpijgfpbcibaaGreat.P
open Go.RowKit Go.Proofs.YtejpijgfpbcibaaGreatW.PrintWords Go.Proofs.YtejpijgfpbcibaaGreatW.PrintLast Go.Proofs.YtejpijgfpbcibaaGreatW.PrintMore
attribute [local go_sem] max2_int min2_int max_two min_two max_three min_three max_four min_four   -- for this text's walks alone
theorem eqA36 (d:Nat) (w:World) (x0 y0:Int) (x1 y1:Int) (x2 y2:Int) (x3 y3:Int) :
 (Op.equalIn (d+2) 36 (.agg #[.int .i64 x0,.int .i64 x1,.int .i64 x2,.int .i64 x3]) (.agg #[.int .i64 y0,.int .i64 y1,.int .i64 y2,.int .i64 y3])).run Tryz.prog w=.ok (x0 == y0 && (x1 == y1 && (x2 == y2 && (x3 == y3)))) w:=by
 refine eqA_of Tryz.underlying36 (by kernel_rfl) ?_
 refine eqf_cons (by rfl) (by go_simp;rfl) (by go_simp;rfl) (by go_simp) ?_
 refine eqf_cons (by rfl) (by go_simp;rfl) (by go_simp;rfl) (by go_simp) ?_
 refine eqf_cons (by rfl) (by go_simp;rfl) (by go_simp;rfl) (by go_simp) ?_
 exact eqf_last (by rfl) (by go_simp;rfl) (by go_simp;rfl) (by go_simp)
end Go.Proofs.YtejpijgfpbcibaaGreat.P
end
section
namespace Go.Proofs.YtejpijgfpbcibaaGreat.P
open Go.RowKit Go.Proofs.YtejpijgfpbcibaaGreatW.PrintWords Go.Proofs.YtejpijgfpbcibaaGreatW.PrintLast Go.Proofs.YtejpijgfpbcibaaGreatW.PrintMore
attribute [local go_sem] max2_int min2_int max_two min_two max_three min_three max_four min_four   -- for this text's walks alone
theorem eqA38 (d:Nat) (w:World) (x0 y0:Int) (x1 y1:Int) (x2 y2:Int) (x3 y3:Int) :
 (Op.equalIn (d+2) 38 (.agg #[.int .i64 x0,.int .i64 x1,.int .i64 x2,.int .i64 x3]) (.agg #[.int .i64 y0,.int .i64 y1,.int .i64 y2,.int .i64 y3])).run Tryz.prog w=.ok (x0 == y0 && (x1 == y1 && (x2 == y2 && (x3 == y3)))) w:=by
 refine eqA_of Tryz.underlying38 (by kernel_rfl) ?_
 refine eqf_cons (by rfl) (by go_simp;rfl) (by go_simp;rfl) (by go_simp) ?_
 refine eqf_cons (by rfl) (by go_simp;rfl) (by go_simp;rfl) (by go_simp) ?_
 refine eqf_cons (by rfl) (by go_simp;rfl) (by go_simp;rfl) (by go_simp) ?_
 exact eqf_last (by rfl) (by go_simp;rfl) (by go_simp;rfl) (by go_simp)
end Go.Proofs.YtejpijgfpbcibaaGreat.P
end
section
namespace Go.Proofs.YtejpijgfpbcibaaGreat.P
open Go.RowKit Go.Proofs.YtejpijgfpbcibaaGreatW.PrintWords Go.Proofs.YtejpijgfpbcibaaGreatW.PrintLast Go.Proofs.YtejpijgfpbcibaaGreatW.PrintMore
attribute [local go_sem] max2_int min2_int max_two min_two max_three min_three max_four min_four   -- for this text's walks alone
theorem eqA40 (d:Nat) (w:World) (x0 y0:Int) (x1 y1:Int) (x2 y2:Int) :
 (Op.equalIn (d+2) 40 (.agg #[.int .i64 x0,.int .i64 x1,.int .i64 x2]) (.agg #[.int .i64 y0,.int .i64 y1,.int .i64 y2])).run Tryz.prog w=.ok (x0 == y0 && (x1 == y1 && (x2 == y2))) w:=by
 refine eqA_of Tryz.underlying40 (by kernel_rfl) ?_
 refine eqf_cons (by rfl) (by go_simp;rfl) (by go_simp;rfl) (by go_simp) ?_
 refine eqf_cons (by rfl) (by go_simp;rfl) (by go_simp;rfl) (by go_simp) ?_
 exact eqf_last (by rfl) (by go_simp;rfl) (by go_simp;rfl) (by go_simp)
end Go.Proofs.YtejpijgfpbcibaaGreat.P
end
section
namespace Go.Proofs.YtejpijgfpbcibaaGreat.P
open Go.RowKit Go.Proofs.YtejpijgfpbcibaaGreatW.PrintWords Go.Proofs.YtejpijgfpbcibaaGreatW.PrintLast Go.Proofs.YtejpijgfpbcibaaGreatW.PrintMore
attribute [local go_sem] max2_int min2_int max_two min_two max_three min_three max_four min_four   -- for this text's walks alone
def auto_lay.f (l0:List Bool) (a1:Int):Option (Bool × List Bool):=if a1 < 0 then (some (false,l0)) else (if a1≥(l0.length:Int) then (some (false,l0)) else (if 0≤a1 then (if a1 < (l0.length:Int) then (if rdOf false l0 a1=true then (some (false,l0)) else (some (true,(l0.set (a1:Int).toNat true)))) else (none)) else (none)))
set_option maxHeartbeats 8000000 in
set_option maxRecDepth 100000 in
theorem auto_lay.calls (P0_:Nat→Prop) (u9000_:Value) (l0:List Bool) (a1:Int) (r1:Bool) (r2:List Bool) (w0 w:World) (hB:Below w0.heap.size w0 w) (ho0:Kd.R Kd.bool 4 w w0.heap.size P0_ u9000_ l0) (h:auto_lay.f l0 a1=some (r1,r2)) :
 Calls Tryz.prog 55 #[u9000_,.int .i64 a1] w fun e w'=>e=.returned (.bool r1)∧Kd.R Kd.bool 4 w' w0.heap.size (fun k_=>(P0_ k_∨w.heap.size≤k_)) u9000_ r2∧Below w0.heap.size w0 w'∧Kept w w' (fun k_=>P0_ k_):=by
 have HO0:=Aside0.mk (show Kd.R Kd.bool 4 w w0.heap.size (fun k_=>(P0_ k_∨w.heap.size≤k_)) u9000_ l0 from Kd.R_mono ho0 (fun k_ hk=>(.inl hk)))
 have HK:=Aside0.mk (Kept.refl w (fun k_=>P0_ k_))
 have HW0:=Aside0.mk hB.size
 have HB:=Aside0.mk hB
 clear hB
 have H:(if a1 < 0 then (some (false,l0)) else (if a1≥(l0.length:Int) then (some (false,l0)) else (if 0≤a1 then (if a1 < (l0.length:Int) then (if rdOf false l0 a1=true then (some (false,l0)) else (some (true,(l0.set (a1:Int).toNat true)))) else (none)) else (none))))=some (r1,r2):=h
 clear h
 by_cases c3:a1 < 0
 ·rw [if_pos c3] at H
  have c3b0:decide (a1 < 0)=true:=decide_eq_true c3
  clear c3
  simp only [Option.some.injEq,Prod.mk.injEq] at H
  obtain⟨rfl,rfl⟩:=H
  go_enter Tryz.func55,Tryz.ntmps55
  go_wp2
  go_ret
  exact⟨by first|rfl|(simp [errW_none,errW_some]<;>rfl)|(simp [*,errW_none,errW_some]<;>rfl),by(with_reducible repeat (first|apply Kd.R_alloc|apply Kd.R_drewN|apply Kd.R_drew));exact HO0.out,by repeat (first|(with_reducible first|exact HB.out|apply below_alloc|apply pw_below_drewN|apply below_drew1)|exact HB.out),by repeat (first|(with_reducible first|exact HK.out|apply Kept.alloc|apply Kept.drewN|apply Kept.drew)|exact HK.out)⟩
 rw [if_neg c3] at H
 have c3b0:decide (a1 < 0)=false:=decide_eq_false c3
 clear c3
 by_cases c4:a1≥(l0.length:Int)
 ·rw [if_pos c4] at H
  have c4b0:decide ((l0.length:Int)≤a1)=true:=decide_eq_true c4
  clear c4
  simp only [Option.some.injEq,Prod.mk.injEq] at H
  obtain⟨rfl,rfl⟩:=H
  obtain⟨Ao5,co5,eo5⟩:=Kd.R_slice HO0.out
  subst eo5
  go_enter Tryz.func55,Tryz.ntmps55
  go_wp2
  go_ret
  exact⟨by first|rfl|(simp [errW_none,errW_some]<;>rfl)|(simp [*,errW_none,errW_some]<;>rfl),by(with_reducible repeat (first|apply Kd.R_alloc|apply Kd.R_drewN|apply Kd.R_drew));exact HO0.out,by repeat (first|(with_reducible first|exact HB.out|apply below_alloc|apply pw_below_drewN|apply below_drew1)|exact HB.out),by repeat (first|(with_reducible first|exact HK.out|apply Kept.alloc|apply Kept.drewN|apply Kept.drew)|exact HK.out)⟩
 rw [if_neg c4] at H
 have c4b0:decide ((l0.length:Int)≤a1)=false:=decide_eq_false c4
 clear c4
 by_cases c6:0≤a1
 ·rw [if_pos c6] at H
  have c6b0:decide (0≤a1)=true:=decide_eq_true c6
  clear c6
  by_cases c7:a1 < (l0.length:Int)
  ·rw [if_pos c7] at H
   have c7b0:decide (a1 < (l0.length:Int))=true:=decide_eq_true c7
   clear c7
   obtain⟨bq8,hbq8⟩:∃b_:Bool,b_=(rdOf false l0 a1):=⟨_,rfl⟩
   replace H:(if bq8=true then (some (false,l0)) else (some (true,(l0.set (a1:Int).toNat true))))=some (r1,r2):=by rw [←hbq8] at H;exact H
   have Nbq8:=Aside0.mk hbq8
   clear hbq8
   by_cases c9:bq8=true
   ·subst c9
    have H1:(some (false,l0))=some (r1,r2):=by rw [if_pos rfl] at H;exact H
    clear H
    have H:=H1
    clear H1
    simp only [Option.some.injEq,Prod.mk.injEq] at H
    obtain⟨rfl,rfl⟩:=H
    obtain⟨Ao10,co10,eo10⟩:=Kd.R_slice HO0.out
    subst eo10
    have p104:0≤(a1:Int):=of_decide_eq_true (by first|(with_reducible assumption)|assumption)
    have q104:a1 < (l0.length:Int):=of_decide_eq_true (by first|(with_reducible assumption)|assumption)
    obtain⟨ad104,e104,hx104_0⟩:=Kd.at_bool (Kd.R_reads' HO0.out).2.2 a1 p104 q104
    (try rw [←Nbq8.out] at hx104_0)
    cases e104
    replace p104:=eq_true p104
    replace q104:=eq_true q104
    go_enter Tryz.func55,Tryz.ntmps55
    go_wp2
    go_ret
    exact⟨by first|rfl|(simp [errW_none,errW_some]<;>rfl)|(simp [*,errW_none,errW_some]<;>rfl),by(with_reducible repeat (first|apply Kd.R_alloc|apply Kd.R_drewN|apply Kd.R_drew));exact HO0.out,by repeat (first|(with_reducible first|exact HB.out|apply below_alloc|apply pw_below_drewN|apply below_drew1)|exact HB.out),by repeat (first|(with_reducible first|exact HK.out|apply Kept.alloc|apply Kept.drewN|apply Kept.drew)|exact HK.out)⟩
   replace c9 := Bool.eq_false_iff.mpr c9
   subst c9
   have H1:(some (true,(l0.set (a1:Int).toNat true)))=some (r1,r2):=by rw [if_neg (show ¬(false=true) by decide)] at H;exact H
   clear H
   have H:=H1
   clear H1
   obtain⟨y105,hy105⟩:∃y_:List Bool,y_=(l0.set (a1:Int).toNat true):=⟨_,rfl⟩
   replace H:(some (true,y105))=some (r1,r2):=by first|(rw [hy105];with_reducible exact H)|(have H2_:=(Option.bind_some _ _).symm.trans H;rw [hy105];with_reducible exact H2_)|(have H2_:=(Option.bind_some _ _).symm.trans H;with_reducible exact H2_)|with_reducible exact H|(rw [hy105];exact H)|exact H
   have Ny105:=Aside0.mk hy105
   clear hy105
   simp only [Option.some.injEq,Prod.mk.injEq] at H
   obtain⟨rfl,rfl⟩:=H
   obtain⟨Ao12,co12,eo12⟩:=Kd.R_slice HO0.out
   subst eo12
   have p104:0≤(a1:Int):=of_decide_eq_true (by first|(with_reducible assumption)|assumption)
   have q104:a1 < (l0.length:Int):=of_decide_eq_true (by first|(with_reducible assumption)|assumption)
   obtain⟨ad104,e104,hx104_0⟩:=Kd.at_bool (Kd.R_reads' HO0.out).2.2 a1 p104 q104
   (try rw [←Nbq8.out] at hx104_0)
   cases e104
   replace p104:=eq_true p104
   replace q104:=eq_true q104
   have p11:0≤(a1:Int):=of_decide_eq_true (by first|(with_reducible assumption)|assumption)
   have q11:(a1:Int) < ((l0.length:Int):Int):=of_decide_eq_true (by first|(with_reducible assumption)|assumption)
   obtain⟨go11,co11,eo11,gb11,gl11,cl11,HG11⟩:=Kd.R_form HO0.out (by omega)
   (first|cases eo11|(injection eo11 with ea_ en_ ec_;(first|subst ea_|(injection ea_ with ea_;subst ea_));subst ec_;clear en_))
   have GB11:=Aside0.mk gb11
   have GG11:=Aside0.mk HG11
   clear gb11 gl11 HG11
   have HMgo11:=Aside0.mk (show (P0_ go11∨w.heap.size≤go11) from(HO0.out.1 _ rfl))
   (first|simp only [add_plain] at hx104_0|skip)
   obtain⟨hx11_0,hf11_0⟩:=Kd.R_celln false HO0.out (a1:Int) p11 q11
   replace p11:=eq_true p11
   replace q11:=eq_true q11
   have HP13:=Kd.R_putg HO0.out (a1:Int) true
   go_enter Tryz.func55,Tryz.ntmps55
   go_wp2_with (first|((with_reducible refine gate_store (t:=4) (p:=21) rfl ?_);refine store_event (t:=4) (p:=21) (v:=?vo_w14) (w1:=(w.setCell ⟨go11,(a1:Int).toNat,none⟩ (.bool true))) ?hg ?ho ?hn ?hr ?_;(case ho=>rfl);(case hg=>rfl);(case hn=>rfl);(case hr=>first|(go_simp;done)|(go_simp;rfl));intro w14 hw;have hg:w.grownBy w14 (some go11):=(by rw [hw];exact HP13.2);have hp_:Kd.R Kd.bool 4 w14 w0.heap.size (fun k_=>(P0_ k_∨w.heap.size≤k_)) (.slice (some ⟨go11,0,none⟩) l0.length co12) y105:=(by rw [hw,Ny105.out];exact HP13.1);clear HP13;have n0_:=Aside0.mk (hp_);have n1_:=Aside0.mk ((by rw [hw];exact below_set (HB.out) GB11.out:Below w0.heap.size w0 w14));have n2_:=Aside0.mk (Kept.of_grown (S:=(fun k_=>P0_ k_)) hg (by repeat (first|(with_reducible first|exact HK.out|apply Kept.alloc|apply Kept.drewN|apply Kept.drew)|exact HK.out)) (fun k_ e_=>(HO0.out.1 k_ e_)));clear HO0;clear HB;clear HK;have HO0:=n0_;have HB:=n1_;have HK:=n2_;clear n0_ n1_ n2_;clear hg hw hp_))
   go_ret
   exact⟨by first|rfl|(simp [errW_none,errW_some]<;>rfl)|(simp [*,errW_none,errW_some]<;>rfl),by(with_reducible repeat (first|apply Kd.R_alloc|apply Kd.R_drewN|apply Kd.R_drew));exact HO0.out,by repeat (first|(with_reducible first|exact HB.out|apply below_alloc|apply pw_below_drewN|apply below_drew1)|exact HB.out),by repeat (first|(with_reducible first|exact HK.out|apply Kept.alloc|apply Kept.drewN|apply Kept.drew)|exact HK.out)⟩
  rw [if_neg c7] at H
  exact absurd H (by simp)
 rw [if_neg c6] at H
 exact absurd H (by simp)
end Go.Proofs.YtejpijgfpbcibaaGreat.P
end
section
namespace Go.Proofs.YtejpijgfpbcibaaGreat.P
open Go.RowKit Go.Proofs.YtejpijgfpbcibaaGreatW.PrintWords Go.Proofs.YtejpijgfpbcibaaGreatW.PrintLast Go.Proofs.YtejpijgfpbcibaaGreatW.PrintMore
attribute [local go_sem] max2_int min2_int max_two min_two max_three min_three max_four min_four   -- for this text's walks alone
def auto_has.f (l0:List Bool) (a1:Int):Option (Bool):=if a1≥0 then (if a1 < (l0.length:Int) then (if 0≤a1 then (some (rdOf false l0 a1)) else (none)) else (some false)) else (some false)
set_option maxHeartbeats 8000000 in
set_option maxRecDepth 100000 in
theorem auto_has.calls (A0:Option Addr) (c0:Nat) (l0:List Bool) (a1:Int) (r:Bool) (w:World) (hr0:Kd.C Kd.bool w A0 l0.length l0) (hc0:l0.length≤c0) (h:auto_has.f l0 a1=some r) :
 Calls Tryz.prog 54 #[.slice A0 l0.length c0,.int .i64 a1] w fun e w'=>e=.returned (.bool r)∧Drawn0 w w':=by
 have HR0:=Aside0.mk hr0
 have HC0:=Aside0.mk hc0
 clear hr0 hc0
 have H:(if a1≥0 then (if a1 < (l0.length:Int) then (if 0≤a1 then (some (rdOf false l0 a1)) else (none)) else (some false)) else (some false))=some r:=h
 clear h
 by_cases c3:a1≥0
 ·rw [if_pos c3] at H
  have c3b0:decide (0≤a1)=true:=decide_eq_true c3
  clear c3
  by_cases c4:a1 < (l0.length:Int)
  ·rw [if_pos c4] at H
   have c4b0:decide (a1 < (l0.length:Int))=true:=decide_eq_true c4
   clear c4
   by_cases c5:0≤a1
   ·rw [if_pos c5] at H
    have c5b0:decide (0≤a1)=true:=decide_eq_true c5
    clear c5
    obtain rfl:=Option.some.inj H
    have p106:0≤(a1:Int):=of_decide_eq_true (by first|(with_reducible assumption)|assumption)
    have q106:a1 < (l0.length:Int):=of_decide_eq_true (by first|(with_reducible assumption)|assumption)
    obtain⟨ad106,e106,hx106_0⟩:=Kd.at_bool HR0.out a1 p106 q106
    cases e106
    replace p106:=eq_true p106
    replace q106:=eq_true q106
    go_enter Tryz.func54,Tryz.ntmps54
    go_wp2
    go_ret
    exact⟨by first|rfl|(simp;done)|(simp [*];done),by repeat (first|exact Drawn0.refl _|apply Drawn0.step)⟩
   rw [if_neg c5] at H
   exact absurd H (by simp)
  rw [if_neg c4] at H
  have c4b0:decide (a1 < (l0.length:Int))=false:=decide_eq_false c4
  clear c4
  obtain rfl:=Option.some.inj H
  go_enter Tryz.func54,Tryz.ntmps54
  go_wp2
  go_ret
  exact⟨by first|rfl|(simp;done)|(simp [*];done),by repeat (first|exact Drawn0.refl _|apply Drawn0.step)⟩
 rw [if_neg c3] at H
 have c3b0:decide (0≤a1)=false:=decide_eq_false c3
 clear c3
 obtain rfl:=Option.some.inj H
 go_enter Tryz.func54,Tryz.ntmps54
 go_wp2
 go_ret
 exact⟨by first|rfl|(simp;done)|(simp [*];done),by repeat (first|exact Drawn0.refl _|apply Drawn0.step)⟩
end Go.Proofs.YtejpijgfpbcibaaGreat.P
end
section
namespace Go.Proofs.YtejpijgfpbcibaaGreat.P
open Go.RowKit Go.Proofs.YtejpijgfpbcibaaGreatW.PrintWords Go.Proofs.YtejpijgfpbcibaaGreatW.PrintLast Go.Proofs.YtejpijgfpbcibaaGreatW.PrintMore
attribute [local go_sem] max2_int min2_int max_two min_two max_three min_three max_four min_four   -- for this text's walks alone
def auto_is.f (l0:List (S51)) (a1:Int) (a2:Int):Option (Bool):=if a1≥0 then (if a1 < (l0.length:Int) then (if 0≤a1 then (some (((rd_T51 l0 a1).f1) == a2)) else (none)) else (some false)) else (some false)
set_option maxHeartbeats 8000000 in
set_option maxRecDepth 100000 in
theorem auto_is.calls (A0:Option Addr) (c0:Nat) (l0:List (S51)) (a1:Int) (a2:Int) (r:Bool) (w:World) (hr0:Kd.C k51 w A0 l0.length l0) (hc0:l0.length≤c0) (h:auto_is.f l0 a1 a2=some r) :
 Calls Tryz.prog 33 #[.slice A0 l0.length c0,.int .i64 a1,.int .i64 a2] w fun e w'=>e=.returned (.bool r)∧Drawn0 w w':=by
 have HR0:=Aside0.mk hr0
 have HC0:=Aside0.mk hc0
 clear hr0 hc0
 have H:(if a1≥0 then (if a1 < (l0.length:Int) then (if 0≤a1 then (some (((rd_T51 l0 a1).f1) == a2)) else (none)) else (some false)) else (some false))=some r:=h
 clear h
 by_cases c4:a1≥0
 ·rw [if_pos c4] at H
  have c4b0:decide (0≤a1)=true:=decide_eq_true c4
  clear c4
  by_cases c5:a1 < (l0.length:Int)
  ·rw [if_pos c5] at H
   have c5b0:decide (a1 < (l0.length:Int))=true:=decide_eq_true c5
   clear c5
   by_cases c6:0≤a1
   ·rw [if_pos c6] at H
    have c6b0:decide (0≤a1)=true:=decide_eq_true c6
    clear c6
    obtain rfl:=Option.some.inj H
    have p112:0≤(a1:Int):=of_decide_eq_true (by first|(with_reducible assumption)|assumption)
    have q112:a1 < (l0.length:Int):=of_decide_eq_true (by first|(with_reducible assumption)|assumption)
    obtain⟨ad112,e112,hx112_0,hx112_1⟩:=at_T51 HR0.out a1 p112 q112
    cases e112
    replace p112:=eq_true p112
    replace q112:=eq_true q112
    go_enter Tryz.func33,Tryz.ntmps33
    go_wp2
    go_ret
    exact⟨by first|rfl|(simp;done)|(simp [*];done),by repeat (first|exact Drawn0.refl _|apply Drawn0.step)⟩
   rw [if_neg c6] at H
   exact absurd H (by simp)
  rw [if_neg c5] at H
  have c5b0:decide (a1 < (l0.length:Int))=false:=decide_eq_false c5
  clear c5
  obtain rfl:=Option.some.inj H
  go_enter Tryz.func33,Tryz.ntmps33
  go_wp2
  go_ret
  exact⟨by first|rfl|(simp;done)|(simp [*];done),by repeat (first|exact Drawn0.refl _|apply Drawn0.step)⟩
 rw [if_neg c4] at H
 have c4b0:decide (0≤a1)=false:=decide_eq_false c4
 clear c4
 obtain rfl:=Option.some.inj H
 go_enter Tryz.func33,Tryz.ntmps33
 go_wp2
 go_ret
 exact⟨by first|rfl|(simp;done)|(simp [*];done),by repeat (first|exact Drawn0.refl _|apply Drawn0.step)⟩
end Go.Proofs.YtejpijgfpbcibaaGreat.P
end
section
namespace Go.Proofs.YtejpijgfpbcibaaGreat.P
open Go.RowKit Go.Proofs.YtejpijgfpbcibaaGreatW.PrintWords Go.Proofs.YtejpijgfpbcibaaGreatW.PrintLast Go.Proofs.YtejpijgfpbcibaaGreatW.PrintMore
attribute [local go_sem] max2_int min2_int max_two min_two max_three min_three max_four min_four   -- for this text's walks alone
def auto_numbers.l0:Nat→List Int→Int→List Bool→Int→Int→Option (List Int × Int)
 | 0,_,_,_,_,_=>none
 | k+1,x6,x7,x14,x15,x16=>if x16 < x15 then (if 0≤x16 then (if x16 < (x14.length:Int) then (if rdOf false x14 x16=true then (if x16 < (x6.length:Int) then (auto_numbers.l0 k (x6.set (x16:Int).toNat x7) (wrap64 (x7+1)) x14 x15 (wrap64 (x16+1))) else (none)) else (auto_numbers.l0 k x6 x7 x14 x15 (wrap64 (x16+1)))) else (none)) else (none)) else (some (x6,x7))
def auto_numbers.f (k:Nat) (l0:List Bool) (a1:Int):Option (List Int × Int):=if 0≤(l0.length:Int) then (if ((l0.length:Int):Int).toNat≤35184372088832 then (auto_numbers.l0 k (List.replicate ((l0.length:Int):Int).toNat 0) a1 l0 (l0.length:Int) 0) else (none)) else (none)
theorem auto_numbers.mono_l:∀k,(∀y0 y1 y2 y3 y4,LeO (auto_numbers.l0 k y0 y1 y2 y3 y4) (auto_numbers.l0 (k+1) y0 y1 y2 y3 y4))
 | 0=>fun _ _ _ _ _ r h=>by simp [auto_numbers.l0] at h
 | k+1=>by
  have ih0:=auto_numbers.mono_l k
  intro y0 y1 y2 y3 y4
  unfold auto_numbers.l0
  repeat' first
  | (with_reducible exact ih0 _ _ _ _ _)
  | (with_reducible exact LeO.refl _)
  | (with_reducible exact LeO.none _)
  | (with_reducible refine LeO.ite ?_ ?_)
  | (with_reducible refine LeO.bind ?_ (fun _=>?_))
  | exact ih0 _ _ _ _ _
  | exact LeO.none _
  | refine LeO.ite ?_ ?_
  | refine LeO.bind ?_ (fun _=>?_)
theorem auto_numbers.mono:∀a0 a1 k,LeO (auto_numbers.f k a0 a1) (auto_numbers.f (k+1) a0 a1):=by
 intro a0 a1 k
 have ih0:=auto_numbers.mono_l k
 unfold auto_numbers.f
 repeat' first
  | (with_reducible exact ih0 _ _ _ _ _)
  | (with_reducible exact LeO.refl _)
  | (with_reducible exact LeO.none _)
  | (with_reducible refine LeO.ite ?_ ?_)
  | (with_reducible refine LeO.bind ?_ (fun _=>?_))
  | exact ih0 _ _ _ _ _
  | exact LeO.none _
  | refine LeO.ite ?_ ?_
  | refine LeO.bind ?_ (fun _=>?_)
set_option maxHeartbeats 8000000 in
set_option maxRecDepth 100000 in
theorem auto_numbers.calls (k:Nat) (A0:Option Addr) (c0:Nat) (l0:List Bool) (a1:Int) (r1:List Int) (r2:Int) (w:World) (hr0:Kd.C Kd.bool w A0 l0.length l0) (hc0:l0.length≤c0) (h:auto_numbers.f k l0 a1=some (r1,r2)) :
 Calls Tryz.prog 37 #[.slice A0 l0.length c0,.int .i64 a1] w fun e w'=>∃v0_:Value,e=.returned (.tuple #[v0_,.int .i64 r2])∧Kd.R (Kd.int .i64) 3 w' w.heap.size (fun _=>True) v0_ r1∧Below w.heap.size w w':=by
 have HR0:=Aside0.mk hr0
 have HC0:=Aside0.mk hc0
 clear hr0 hc0
 have HB:=Aside0.mk (Below.refl w.heap.size w)
 have H:(if 0≤(l0.length:Int) then (if ((l0.length:Int):Int).toNat≤35184372088832 then (auto_numbers.l0 k (List.replicate ((l0.length:Int):Int).toNat 0) a1 l0 (l0.length:Int) 0) else (none)) else (none))=some (r1,r2):=h
 clear h
 by_cases c3:0≤(l0.length:Int)
 ·rw [if_pos c3] at H
  have c3b0:=eq_true c3
  have c3b1:decide (0≤(l0.length:Int))=true:=decide_eq_true c3
  clear c3
  by_cases c4:((l0.length:Int):Int).toNat≤35184372088832
  ·rw [if_pos c4] at H
   have c4b0:=eq_true c4
   have c4b1:decide (((l0.length:Int):Int).toNat≤35184372088832)=true:=decide_eq_true c4
   clear c4
   obtain⟨y107,hy107⟩:∃y_:List Int,y_=(List.replicate ((l0.length:Int):Int).toNat 0):=⟨_,rfl⟩
   replace H:(auto_numbers.l0 k y107 a1 l0 (l0.length:Int) 0)=some (r1,r2):=by first|(rw [hy107];with_reducible exact H)|(have H2_:=(Option.bind_some _ _).symm.trans H;rw [hy107];with_reducible exact H2_)|(have H2_:=(Option.bind_some _ _).symm.trans H;with_reducible exact H2_)|with_reducible exact H|(rw [hy107];exact H)|exact H
   have Ny107:=Aside0.mk hy107
   clear hy107
   have H':=Aside0.mk H
   clear H
   go_enter Tryz.func37,Tryz.ntmps37
   go_wp2_with (first|((with_reducible refine gate_dst (N:=12) rfl ?_);refine Kd.R_make (Kd.int .i64) _ 3 rfl (N:=12) rfl 22 _ _ rfl (l0.length:Int) rfl rfl Tryz.underlying22 (.int .i64 0) 8 info3 rfl (by decide) (by omega) 0 (ok:=fun _=>True) (okp:=fun _=>True) rfl (fun _ hk=>hk) trivial (of_decide_eq_true (by first|(with_reducible assumption)|assumption)) (Nat.le_trans (Nat.mul_le_mul_right _ (of_decide_eq_true (by first|(with_reducible assumption)|assumption):(l0.length:Int).toNat≤35184372088832)) (by omega)) (Below.refl _ _) (Nat.le_refl _) ?_;intro v108 w5 ho6 hb hg_ hnew_;clear hg_ hnew_;(first|rw [←Ny107.out] at ho6|(simp only [Int.reduceToNat] at ho6;rw [←Ny107.out] at ho6));have n0_:=Aside0.mk (Kd.R_lower ho6 (below_size (by repeat (first|(with_reducible first|exact HB.out|apply below_alloc|apply pw_below_drewN|apply below_drew1)|exact HB.out))));have n1_:=Aside0.mk (below_step (by repeat (first|(with_reducible first|exact HB.out|apply below_alloc|apply pw_below_drewN|apply below_drew1)|exact HB.out)) hb);clear HB;have HO109:=n0_;have HB:=n1_;clear n0_ n1_;clear hb ho6))
   go_loopg [7,16] k (fun kq v7 v16 w'=>∃(x6_1:List Int) (x7_1:Int) (x16_1:Int),v7=.int .i64 x7_1∧v16=.int .i64 x16_1∧Aside0 (auto_numbers.l0 kq x6_1 x7_1 l0 (l0.length:Int) x16_1=some (r1,r2))∧Aside0 (kq≤k)∧Aside0 (Kd.R (Kd.int .i64) 3 w' w.heap.size (fun _=>True) v108 x6_1)∧Aside0 (Below w.heap.size w w'))
   case atStart=>exact⟨(y107),(a1),(0),(by first|rfl|(simp;done)|(simp [*];done)),(by first|rfl|(simp;done)|(simp [*];done)),H',⟨Nat.le_refl _⟩,⟨by(with_reducible repeat (first|apply Kd.R_alloc|apply Kd.R_drewN|apply Kd.R_drew));exact HO109.out⟩,⟨by repeat (first|(with_reducible first|exact HB.out|apply below_alloc|apply pw_below_drewN|apply below_drew1)|exact HB.out)⟩⟩
   case' round=>skip
   clear H'
   try clear p2
   try clear c3
   try clear c3b0
   try clear c3b1
   try clear c4
   try clear c4b0
   try clear c4b1
   obtain⟨x6_1,x7_1,x16_1,rfl,rfl,HA,HK1,HO_6,HB⟩:=hrel
   cases gk with
   | zero=>exact absurd HA.out (by simp [auto_numbers.l0])
   | succ k1=>
    have H:=HA.out
    clear HA
    simp only [auto_numbers.l0] at H
    by_cases c7:x16_1 < (l0.length:Int)
    ·rw [if_pos c7] at H
     have c7b0:decide (x16_1 < (l0.length:Int))=true:=decide_eq_true c7
     clear c7
     by_cases c8:0≤x16_1
     ·rw [if_pos c8] at H
      have c8b0:decide (0≤x16_1)=true:=decide_eq_true c8
      clear c8
      by_cases c9:x16_1 < (l0.length:Int)
      ·rw [if_pos c9] at H
       have c9b0:decide (x16_1 < (l0.length:Int))=true:=decide_eq_true c9
       clear c9
       obtain⟨bq10,hbq10⟩:∃b_:Bool,b_=(rdOf false l0 x16_1):=⟨_,rfl⟩
       replace H:(if bq10=true then (if x16_1 < (x6_1.length:Int) then (auto_numbers.l0 k1 (x6_1.set (x16_1:Int).toNat x7_1) (wrap64 (x7_1+1)) l0 (l0.length:Int) (wrap64 (x16_1+1))) else (none)) else (auto_numbers.l0 k1 x6_1 x7_1 l0 (l0.length:Int) (wrap64 (x16_1+1))))=some (r1,r2):=by rw [←hbq10] at H;exact H
       have Nbq10:=Aside0.mk hbq10
       clear hbq10
       by_cases c11:bq10=true
       ·subst c11
        have H1:(if x16_1 < (x6_1.length:Int) then (auto_numbers.l0 k1 (x6_1.set (x16_1:Int).toNat x7_1) (wrap64 (x7_1+1)) l0 (l0.length:Int) (wrap64 (x16_1+1))) else (none))=some (r1,r2):=by rw [if_pos rfl] at H;exact H
        clear H
        have H:=H1
        clear H1
        by_cases c12:x16_1 < (x6_1.length:Int)
        ·rw [if_pos c12] at H
         have c12b0:decide (x16_1 < (x6_1.length:Int))=true:=decide_eq_true c12
         clear c12
         obtain⟨y111,hy111⟩:∃y_:List Int,y_=(x6_1.set (x16_1:Int).toNat x7_1):=⟨_,rfl⟩
         replace H:(auto_numbers.l0 k1 y111 (wrap64 (x7_1+1)) l0 (l0.length:Int) (wrap64 (x16_1+1)))=some (r1,r2):=by first|(rw [hy111];with_reducible exact H)|(have H2_:=(Option.bind_some _ _).symm.trans H;rw [hy111];with_reducible exact H2_)|(have H2_:=(Option.bind_some _ _).symm.trans H;with_reducible exact H2_)|with_reducible exact H|(rw [hy111];exact H)|exact H
         have Ny111:=Aside0.mk hy111
         clear hy111
         have H':=Aside0.mk H
         clear H
         have p110:0≤(x16_1:Int):=of_decide_eq_true (by first|(with_reducible assumption)|assumption)
         have q110:x16_1 < (l0.length:Int):=of_decide_eq_true (by first|(with_reducible assumption)|assumption)
         obtain⟨ad110,e110,hx110_0⟩:=Kd.at_bool HR0.out x16_1 p110 q110
         (try rw [←Nbq10.out] at hx110_0)
         cases e110
         replace hx110_0:=(HB.out.cell (World.block_lt_of_cell? w _ hx110_0)).trans hx110_0
         replace p110:=eq_true p110
         replace q110:=eq_true q110
         have p13:0≤(x16_1:Int):=of_decide_eq_true (by first|(with_reducible assumption)|assumption)
         have q13:(x16_1:Int) < ((x6_1.length:Int):Int):=of_decide_eq_true (by first|(with_reducible assumption)|assumption)
         obtain⟨go13,co13,eo13,gb13,gl13,cl13,HG13⟩:=Kd.R_form HO_6.out (by omega)
         (first|cases eo13|(injection eo13 with ea_ en_ ec_;(first|subst ea_|(injection ea_ with ea_;subst ea_));subst ec_;clear en_))
         have GB13:=Aside0.mk gb13
         have GG13:=Aside0.mk HG13
         clear gb13 gl13 HG13
         obtain⟨hx13_0,hf13_0⟩:=Kd.R_celln 0 HO_6.out (x16_1:Int) p13 q13
         replace p13:=eq_true p13
         replace q13:=eq_true q13
         have HP14:=Kd.R_putg HO_6.out (x16_1:Int) x7_1
         go_wp2_with (first|((with_reducible refine gate_store (t:=3) (p:=25) rfl ?_);refine store_event (t:=3) (p:=25) (v:=?vo_w15) (w1:=(wr.setCell ⟨go13,(x16_1:Int).toNat,none⟩ (.int .i64 x7_1))) ?hg ?ho ?hn ?hr ?_;(case ho=>rfl);(case hg=>rfl);(case hn=>rfl);(case hr=>first|(go_simp;done)|(go_simp;rfl));intro w15 hw;have hg:wr.grownBy w15 (some go13):=(by rw [hw];exact HP14.2);have hp_:Kd.R (Kd.int .i64) 3 w15 w.heap.size (fun _=>True) (.slice (some ⟨go13,0,none⟩) x6_1.length co13) y111:=(by rw [hw,Ny111.out];exact HP14.1);clear HP14;have n0_:=Aside0.mk (hp_);have n1_:=Aside0.mk ((by rw [hw];exact below_set (HB.out) GB13.out:Below w.heap.size w w15));clear HO_6;clear HB;have HO_6:=n0_;have HB:=n1_;clear n0_ n1_;clear hg hw hp_))
         go_roundg k1
         case measure=>have:=HK1.out;omega
         case rel=>exact⟨(y111),(wrap64 (x7_1+1)),(wrap64 (x16_1+1)),(by first|rfl|(simp;done)|(simp [*];done)),(by first|rfl|(simp;done)|(simp [*];done)),H',⟨by have:=HK1.out;omega⟩,⟨by(with_reducible repeat (first|apply Kd.R_alloc|apply Kd.R_drewN|apply Kd.R_drew));exact HO_6.out⟩,⟨by repeat (first|(with_reducible first|exact HB.out|apply below_alloc|apply pw_below_drewN|apply below_drew1)|exact HB.out)⟩⟩
        rw [if_neg c12] at H
        exact absurd H (by simp)
       replace c11 := Bool.eq_false_iff.mpr c11
       subst c11
       have H1:(auto_numbers.l0 k1 x6_1 x7_1 l0 (l0.length:Int) (wrap64 (x16_1+1)))=some (r1,r2):=by rw [if_neg (show ¬(false=true) by decide)] at H;exact H
       clear H
       have H:=H1
       clear H1
       have H':=Aside0.mk H
       clear H
       have p110:0≤(x16_1:Int):=of_decide_eq_true (by first|(with_reducible assumption)|assumption)
       have q110:x16_1 < (l0.length:Int):=of_decide_eq_true (by first|(with_reducible assumption)|assumption)
       obtain⟨ad110,e110,hx110_0⟩:=Kd.at_bool HR0.out x16_1 p110 q110
       (try rw [←Nbq10.out] at hx110_0)
       cases e110
       replace hx110_0:=(HB.out.cell (World.block_lt_of_cell? w _ hx110_0)).trans hx110_0
       replace p110:=eq_true p110
       replace q110:=eq_true q110
       go_wp2
       go_roundg k1
       case measure=>have:=HK1.out;omega
       case rel=>exact⟨(x6_1),(x7_1),(wrap64 (x16_1+1)),(by first|rfl|(simp;done)|(simp [*];done)),(by first|rfl|(simp;done)|(simp [*];done)),H',⟨by have:=HK1.out;omega⟩,⟨by(with_reducible repeat (first|apply Kd.R_alloc|apply Kd.R_drewN|apply Kd.R_drew));exact HO_6.out⟩,⟨by repeat (first|(with_reducible first|exact HB.out|apply below_alloc|apply pw_below_drewN|apply below_drew1)|exact HB.out)⟩⟩
      rw [if_neg c9] at H
      exact absurd H (by simp)
     rw [if_neg c8] at H
     exact absurd H (by simp)
    rw [if_neg c7] at H
    have c7b0:decide (x16_1 < (l0.length:Int))=false:=decide_eq_false c7
    clear c7
    simp only [Option.some.injEq,Prod.mk.injEq] at H
    obtain⟨rfl,rfl⟩:=H
    go_wp2
    go_ret2
    exact⟨_,by first|rfl|(simp [errW_none,errW_some]<;>rfl)|(simp [*,errW_none,errW_some]<;>rfl),by(with_reducible repeat (first|apply Kd.R_alloc|apply Kd.R_drewN|apply Kd.R_drew));exact HO_6.out,by repeat (first|(with_reducible first|exact HB.out|apply below_alloc|apply pw_below_drewN|apply below_drew1)|exact HB.out)⟩
  rw [if_neg c4] at H
  exact absurd H (by simp)
 rw [if_neg c3] at H
 exact absurd H (by simp)
end Go.Proofs.YtejpijgfpbcibaaGreat.P
end
section
namespace Go.Proofs.YtejpijgfpbcibaaGreat.P
open Go.RowKit Go.Proofs.YtejpijgfpbcibaaGreatW.PrintWords Go.Proofs.YtejpijgfpbcibaaGreatW.PrintLast Go.Proofs.YtejpijgfpbcibaaGreatW.PrintMore
attribute [local go_sem] max2_int min2_int max_two min_two max_three min_three max_four min_four   -- for this text's walks alone
def canopylaw1_within.f (a0:Int) (a1:Int):Option (Int):=if a1=0 then (none) else (if (Int.tmod a0 a1) < 0 then (some (wrap64 ((Int.tmod a0 a1)+a1))) else (some (Int.tmod a0 a1)))
set_option maxHeartbeats 8000000 in
set_option maxRecDepth 100000 in
theorem canopylaw1_within.calls (a0:Int) (a1:Int) (r:Int) (w:World) (h:canopylaw1_within.f a0 a1=some r) :
 Calls Tryz.prog 29 #[.int .i64 a0,.int .i64 a1] w fun e w'=>e=.returned (.int .i64 r)∧Drawn0 w w':=by
 have H:(if a1=0 then (none) else (if (Int.tmod a0 a1) < 0 then (some (wrap64 ((Int.tmod a0 a1)+a1))) else (some (Int.tmod a0 a1))))=some r:=h
 clear h
 by_cases c3:a1=0
 ·rw [if_pos c3] at H
  exact absurd H (by simp)
 rw [if_neg c3] at H
 have c3b0:(a1 == 0)=false:=beq_eq_false_iff_ne.mpr c3
 have c3b1:(a1 != 0)=true:=bne_iff_ne.mpr c3
 by_cases c4:(Int.tmod a0 a1) < 0
 ·rw [if_pos c4] at H
  have c4b0:decide ((Int.tmod a0 a1) < 0)=true:=decide_eq_true c4
  clear c4
  obtain rfl:=Option.some.inj H
  go_enter Tryz.func29,Tryz.ntmps29
  go_wp2
  go_ret
  exact⟨by first|rfl|(simp;done)|(simp [*];done),by repeat (first|exact Drawn0.refl _|apply Drawn0.step)⟩
 rw [if_neg c4] at H
 have c4b0:decide ((Int.tmod a0 a1) < 0)=false:=decide_eq_false c4
 clear c4
 obtain rfl:=Option.some.inj H
 go_enter Tryz.func29,Tryz.ntmps29
 go_wp2
 go_ret
 exact⟨by first|rfl|(simp;done)|(simp [*];done),by repeat (first|exact Drawn0.refl _|apply Drawn0.step)⟩
end Go.Proofs.YtejpijgfpbcibaaGreat.P
end
section
namespace Go.Proofs.YtejpijgfpbcibaaGreat.P
open Go.RowKit Go.Proofs.YtejpijgfpbcibaaGreatW.PrintWords Go.Proofs.YtejpijgfpbcibaaGreatW.PrintLast Go.Proofs.YtejpijgfpbcibaaGreatW.PrintMore
attribute [local go_sem] max2_int min2_int max_two min_two max_three min_three max_four min_four   -- for this text's walks alone
def canopylaw1_Word.l0:Nat→List (S51)→List Int→Int→List Int→Int→Option (List Int)
 | 0,_,_,_,_,_=>none
 | k+1,x0,x1,x2,x7,x8=>if x8 < (x1.length:Int) then (if x8 < x2 then (if 0≤x8 then ((canopylaw1_within.f (rd x1 x8) (x0.length:Int)).bind fun t512=>(if x7.length < 17592186044416 then (canopylaw1_Word.l0 k x0 x1 x2 (x7 ++ [t512]) (wrap64 (x8+1))) else (none))) else (none)) else (some x7)) else (some x7)
def canopylaw1_Word.f (k:Nat) (l0:List (S51)) (l1:List Int) (a2:Int):Option (List Int):=canopylaw1_Word.l0 k l0 l1 a2 ([]:List Int) 0
theorem canopylaw1_Word.mono_l:∀k,(∀y0 y1 y2 y3 y4,LeO (canopylaw1_Word.l0 k y0 y1 y2 y3 y4) (canopylaw1_Word.l0 (k+1) y0 y1 y2 y3 y4))
 | 0=>fun _ _ _ _ _ r h=>by simp [canopylaw1_Word.l0] at h
 | k+1=>by
  have ih0:=canopylaw1_Word.mono_l k
  intro y0 y1 y2 y3 y4
  unfold canopylaw1_Word.l0
  repeat' first
  | (with_reducible exact ih0 _ _ _ _ _)
  | (with_reducible exact LeO.refl _)
  | (with_reducible exact LeO.none _)
  | (with_reducible refine LeO.ite ?_ ?_)
  | (with_reducible refine LeO.bind ?_ (fun _=>?_))
  | exact ih0 _ _ _ _ _
  | exact LeO.none _
  | refine LeO.ite ?_ ?_
  | refine LeO.bind ?_ (fun _=>?_)
theorem canopylaw1_Word.mono:∀a0 a1 a2 k,LeO (canopylaw1_Word.f k a0 a1 a2) (canopylaw1_Word.f (k+1) a0 a1 a2):=by
 intro a0 a1 a2 k
 have ih0:=canopylaw1_Word.mono_l k
 unfold canopylaw1_Word.f
 repeat' first
  | (with_reducible exact ih0 _ _ _ _ _)
  | (with_reducible exact LeO.refl _)
  | (with_reducible exact LeO.none _)
  | (with_reducible refine LeO.ite ?_ ?_)
  | (with_reducible refine LeO.bind ?_ (fun _=>?_))
  | exact ih0 _ _ _ _ _
  | exact LeO.none _
  | refine LeO.ite ?_ ?_
  | refine LeO.bind ?_ (fun _=>?_)
set_option maxHeartbeats 8000000 in
set_option maxRecDepth 100000 in
theorem canopylaw1_Word.calls (k:Nat) (A0:Option Addr) (c0:Nat) (l0:List (S51)) (A1:Option Addr) (c1:Nat) (l1:List Int) (a2:Int) (r:List Int) (w:World) (hr0:Kd.C k51 w A0 l0.length l0) (hc0:l0.length≤c0) (hr1:Kd.C (Kd.int .i64) w A1 l1.length l1) (hc1:l1.length≤c1) (h:canopylaw1_Word.f k l0 l1 a2=some r) :
 Calls Tryz.prog 26 #[.slice A0 l0.length c0,.slice A1 l1.length c1,.int .i64 a2] w fun e w'=>∃v0_:Value,e=.returned (v0_)∧Kd.R (Kd.int .i64) 3 w' w.heap.size (fun _=>True) v0_ r∧Below w.heap.size w w':=by
 have HR0:=Aside0.mk hr0
 have HC0:=Aside0.mk hc0
 clear hr0 hc0
 have HR1:=Aside0.mk hr1
 have HC1:=Aside0.mk hc1
 clear hr1 hc1
 have HB:=Aside0.mk (Below.refl w.heap.size w)
 have H:(canopylaw1_Word.l0 k l0 l1 a2 ([]:List Int) 0)=some r:=h
 clear h
 have H':=Aside0.mk H
 clear H
 go_enter Tryz.func26,Tryz.ntmps26
 go_wp2
 go_loopg [7,8] k (fun kq v7 v8 w'=>∃(x7_1:List Int) (x8_1:Int),v8=.int .i64 x8_1∧Aside0 (canopylaw1_Word.l0 kq l0 l1 a2 x7_1 x8_1=some r)∧Aside0 (kq≤k)∧Aside0 (Kd.R (Kd.int .i64) 3 w' w.heap.size (fun _=>True) v7 x7_1)∧Aside0 (Below w.heap.size w w'))
 case atStart=>exact⟨(([]:List Int)),(0),(by first|rfl|(simp;done)|(simp [*];done)),H',⟨Nat.le_refl _⟩,⟨by first|exact Kd.R_nil _ _ _ _ _|exact Kd.N_nil _ _ _ _ _|exact Kd.V_nil _ _ _ _ _|exact Kd.Q_nil _ _ _ _ _|exact Kd.S_nil _ _ _ _ _⟩,⟨by repeat (first|(with_reducible first|exact HB.out|apply below_alloc|apply pw_below_drewN|apply below_drew1)|exact HB.out)⟩⟩
 case' round=>skip
 clear H'
 try clear c1
 try clear c2
 try clear p2
 obtain⟨x7_1,x8_1,rfl,HA,HK1,HO_7,HB⟩:=hrel
 cases gk with
 | zero=>exact absurd HA.out (by simp [canopylaw1_Word.l0])
 | succ k1=>
  have H:=HA.out
  clear HA
  simp only [canopylaw1_Word.l0] at H
  by_cases c4:x8_1 < (l1.length:Int)
  ·rw [if_pos c4] at H
   have c4b0:decide (x8_1 < (l1.length:Int))=true:=decide_eq_true c4
   clear c4
   by_cases c5:x8_1 < a2
   ·rw [if_pos c5] at H
    have c5b0:decide (x8_1 < a2)=true:=decide_eq_true c5
    clear c5
    by_cases c6:0≤x8_1
    ·rw [if_pos c6] at H
     have c6b0:decide (0≤x8_1)=true:=decide_eq_true c6
     clear c6
     replace H:=Option.bind_eq_some_iff.mp H
     obtain⟨t512,A70,H⟩:=H
     replace H:(if x7_1.length < 17592186044416 then (canopylaw1_Word.l0 k1 l0 l1 a2 (x7_1 ++ [t512]) (wrap64 (x8_1+1))) else (none))=some r:=H
     have A7:=Aside0.mk A70
     clear A70
     by_cases c8:x7_1.length < 17592186044416
     ·rw [if_pos c8] at H
      have LMc8:=Aside0.mk c8
      clear c8
      obtain⟨y513,hy513⟩:∃y_:List Int,y_=(x7_1 ++ [t512]):=⟨_,rfl⟩
      replace H:(canopylaw1_Word.l0 k1 l0 l1 a2 y513 (wrap64 (x8_1+1)))=some r:=by first|(rw [hy513];with_reducible exact H)|(have H2_:=(Option.bind_some _ _).symm.trans H;rw [hy513];with_reducible exact H2_)|(have H2_:=(Option.bind_some _ _).symm.trans H;with_reducible exact H2_)|with_reducible exact H|(rw [hy513];exact H)|exact H
      have Ny513:=Aside0.mk hy513
      clear hy513
      have H':=Aside0.mk H
      clear H
      have p511:0≤(x8_1:Int):=of_decide_eq_true (by first|(with_reducible assumption)|assumption)
      have q511:x8_1 < (l1.length:Int):=of_decide_eq_true (by first|(with_reducible assumption)|assumption)
      obtain⟨ad511,e511,hx511_0⟩:=Kd.at_int HR1.out x8_1 p511 q511
      cases e511
      replace hx511_0:=(HB.out.cell (World.block_lt_of_cell? w _ hx511_0)).trans hx511_0
      replace p511:=eq_true p511
      replace q511:=eq_true q511
      go_wp2_with (first|((with_reducible refine gate_callee (f:=29) rfl ?_);refine goesL_ (some 27) rfl rfl Tryz.func29 (by kernel_rfl) rfl #[.int .i64 (rd l1 x8_1),.int .i64 (l0.length:Int)] rfl (by(try simp only [List.map_toArray,List.map_cons,List.map_nil]);first|done|rfl|(simp only [List.length_drop,List.length_take];rfl)) ?_;(with_reducible refine(canopylaw1_within.calls (rd l1 x8_1) (l0.length:Int) t512 _ A7.out).mono ?_);rintro e w' ⟨rfl,⟨nd,rfl⟩⟩;refine⟨_,rfl,?_⟩)|((with_reducible refine gate_builtin (b:=.append) (xs:=#[.tmp 20,.tmp 28]) rfl ?_);at_builtin;refine Kd.R_append (Kd.int .i64) (w0:=w) w.heap.size rfl (.tmp 20) (.tmp 28) 22 3 (.int .i64 0) 8 rfl Tryz.underlying22 info3 rfl (by decide) (by omega) u7 x7_1 t512 [.int .i64 t512] (fun _=>True) (fun _=>False) rfl rfl ?aP (fun _ hk=>hk.elim) ?aF ?aO ?aB ?aS ?aL ?_;(case aP=>exact rfl);(case aB=>exact(by repeat (first|(with_reducible first|exact HB.out|apply below_alloc|apply pw_below_drewN|apply below_drew1)|exact HB.out)));(case aF=>exact(fun _ _=>trivial));(case aO=>exact(by(with_reducible repeat (first|apply Kd.R_alloc|apply Kd.R_drewN|apply Kd.R_drew));exact HO_7.out));(case aS=>exact(below_size (by repeat (first|(with_reducible first|exact HB.out|apply below_alloc|apply pw_below_drewN|apply below_drew1)|exact HB.out))));(case aL=>have:=LMc8.out;omega);intro v514 w9 ho hb hg hat;rw [←Ny513.out] at ho;have n0_:=Aside0.mk (hb);have n1_:=Aside0.mk (ho);clear HB;clear HO_7;have HB:=n0_;have HO515:=n1_;clear n0_ n1_;clear ho hb hg hat))
      go_roundg k1
      case measure=>have:=HK1.out;omega
      case rel=>exact⟨(y513),(wrap64 (x8_1+1)),(by first|rfl|(simp;done)|(simp [*];done)),H',⟨by have:=HK1.out;omega⟩,⟨by(with_reducible repeat (first|apply Kd.R_alloc|apply Kd.R_drewN|apply Kd.R_drew));exact HO515.out⟩,⟨by repeat (first|(with_reducible first|exact HB.out|apply below_alloc|apply pw_below_drewN|apply below_drew1)|exact HB.out)⟩⟩
     rw [if_neg c8] at H
     exact absurd H (by simp)
    rw [if_neg c6] at H
    exact absurd H (by simp)
   rw [if_neg c5] at H
   have c5b0:decide (x8_1 < a2)=false:=decide_eq_false c5
   clear c5
   obtain rfl:=Option.some.inj H
   go_wp2
   go_ret
   exact⟨_,by first|rfl|(simp [errW_none,errW_some]<;>rfl)|(simp [*,errW_none,errW_some]<;>rfl),by(with_reducible repeat (first|apply Kd.R_alloc|apply Kd.R_drewN|apply Kd.R_drew));exact HO_7.out,by repeat (first|(with_reducible first|exact HB.out|apply below_alloc|apply pw_below_drewN|apply below_drew1)|exact HB.out)⟩
  rw [if_neg c4] at H
  have c4b0:decide (x8_1 < (l1.length:Int))=false:=decide_eq_false c4
  clear c4
  obtain rfl:=Option.some.inj H
  go_wp2
  go_ret
  exact⟨_,by first|rfl|(simp [errW_none,errW_some]<;>rfl)|(simp [*,errW_none,errW_some]<;>rfl),by(with_reducible repeat (first|apply Kd.R_alloc|apply Kd.R_drewN|apply Kd.R_drew));exact HO_7.out,by repeat (first|(with_reducible first|exact HB.out|apply below_alloc|apply pw_below_drewN|apply below_drew1)|exact HB.out)⟩
end Go.Proofs.YtejpijgfpbcibaaGreat.P
end
section
namespace Go.Proofs.YtejpijgfpbcibaaGreat.P
open Go.RowKit Go.Proofs.YtejpijgfpbcibaaGreatW.PrintWords Go.Proofs.YtejpijgfpbcibaaGreatW.PrintLast Go.Proofs.YtejpijgfpbcibaaGreatW.PrintMore
attribute [local go_sem] max2_int min2_int max_two min_two max_three min_three max_four min_four   -- for this text's walks alone
def canopylaw3_pick.l0:Nat→List (S51)→Int→Int→List Int→Int→Option (Int)
 | 0,_,_,_,_,_=>none
 | k+1,x0,x1,x2,x7,x8=>if x8 < (x0.length:Int) then (if 0≤x8 then (if ((rd_T51 x0 x8).f1)=x1 then (if x7.length < 17592186044416 then (canopylaw3_pick.l0 k x0 x1 x2 (x7 ++ [x8]) (wrap64 (x8+1))) else (none)) else (canopylaw3_pick.l0 k x0 x1 x2 x7 (wrap64 (x8+1)))) else (none)) else (if (x7.length:Int)=0 then (some (-1)) else (if 0≤(Int.tmod x2 (x7.length:Int)) then (if (Int.tmod x2 (x7.length:Int)) < (x7.length:Int) then (some (rd x7 (Int.tmod x2 (x7.length:Int)))) else (none)) else (none)))
def canopylaw3_pick.f (k:Nat) (l0:List (S51)) (a1:Int) (a2:Int):Option (Int):=canopylaw3_pick.l0 k l0 a1 a2 ([]:List Int) 0
theorem canopylaw3_pick.mono_l:∀k,(∀y0 y1 y2 y3 y4,LeO (canopylaw3_pick.l0 k y0 y1 y2 y3 y4) (canopylaw3_pick.l0 (k+1) y0 y1 y2 y3 y4))
 | 0=>fun _ _ _ _ _ r h=>by simp [canopylaw3_pick.l0] at h
 | k+1=>by
  have ih0:=canopylaw3_pick.mono_l k
  intro y0 y1 y2 y3 y4
  unfold canopylaw3_pick.l0
  repeat' first
  | (with_reducible exact ih0 _ _ _ _ _)
  | (with_reducible exact LeO.refl _)
  | (with_reducible exact LeO.none _)
  | (with_reducible refine LeO.ite ?_ ?_)
  | (with_reducible refine LeO.bind ?_ (fun _=>?_))
  | exact ih0 _ _ _ _ _
  | exact LeO.none _
  | refine LeO.ite ?_ ?_
  | refine LeO.bind ?_ (fun _=>?_)
theorem canopylaw3_pick.mono:∀a0 a1 a2 k,LeO (canopylaw3_pick.f k a0 a1 a2) (canopylaw3_pick.f (k+1) a0 a1 a2):=by
 intro a0 a1 a2 k
 have ih0:=canopylaw3_pick.mono_l k
 unfold canopylaw3_pick.f
 repeat' first
  | (with_reducible exact ih0 _ _ _ _ _)
  | (with_reducible exact LeO.refl _)
  | (with_reducible exact LeO.none _)
  | (with_reducible refine LeO.ite ?_ ?_)
  | (with_reducible refine LeO.bind ?_ (fun _=>?_))
  | exact ih0 _ _ _ _ _
  | exact LeO.none _
  | refine LeO.ite ?_ ?_
  | refine LeO.bind ?_ (fun _=>?_)
set_option maxHeartbeats 8000000 in
set_option maxRecDepth 100000 in
theorem canopylaw3_pick.calls (k:Nat) (A0:Option Addr) (c0:Nat) (l0:List (S51)) (a1:Int) (a2:Int) (r:Int) (w:World) (hr0:Kd.C k51 w A0 l0.length l0) (hc0:l0.length≤c0) (h:canopylaw3_pick.f k l0 a1 a2=some r) :
 Calls Tryz.prog 30 #[.slice A0 l0.length c0,.int .i64 a1,.int .i64 a2] w fun e w'=>e=.returned (.int .i64 r)∧Below w.heap.size w w':=by
 have HR0:=Aside0.mk hr0
 have HC0:=Aside0.mk hc0
 clear hr0 hc0
 have HB:=Aside0.mk (Below.refl w.heap.size w)
 have H:(canopylaw3_pick.l0 k l0 a1 a2 ([]:List Int) 0)=some r:=h
 clear h
 have H':=Aside0.mk H
 clear H
 go_enter Tryz.func30,Tryz.ntmps30
 go_wp2
 go_loopg [7,8] k (fun kq v7 v8 w'=>∃(x7_1:List Int) (x8_1:Int),v8=.int .i64 x8_1∧Aside0 (canopylaw3_pick.l0 kq l0 a1 a2 x7_1 x8_1=some r)∧Aside0 (kq≤k)∧Aside0 (Kd.R (Kd.int .i64) 3 w' w.heap.size (fun _=>True) v7 x7_1)∧Aside0 (Below w.heap.size w w'))
 case atStart=>exact⟨(([]:List Int)),(0),(by first|rfl|(simp;done)|(simp [*];done)),H',⟨Nat.le_refl _⟩,⟨by first|exact Kd.R_nil _ _ _ _ _|exact Kd.N_nil _ _ _ _ _|exact Kd.V_nil _ _ _ _ _|exact Kd.Q_nil _ _ _ _ _|exact Kd.S_nil _ _ _ _ _⟩,⟨by repeat (first|(with_reducible first|exact HB.out|apply below_alloc|apply pw_below_drewN|apply below_drew1)|exact HB.out)⟩⟩
 case' round=>skip
 clear H'
 try clear p2
 try clear c3
 obtain⟨x7_1,x8_1,rfl,HA,HK1,HO_7,HB⟩:=hrel
 cases gk with
 | zero=>exact absurd HA.out (by simp [canopylaw3_pick.l0])
 | succ k1=>
  have H:=HA.out
  clear HA
  simp only [canopylaw3_pick.l0] at H
  by_cases c4:x8_1 < (l0.length:Int)
  ·rw [if_pos c4] at H
   have c4b0:decide (x8_1 < (l0.length:Int))=true:=decide_eq_true c4
   clear c4
   by_cases c5:0≤x8_1
   ·rw [if_pos c5] at H
    have c5b0:decide (0≤x8_1)=true:=decide_eq_true c5
    clear c5
    by_cases c6:((rd_T51 l0 x8_1).f1)=a1
    ·rw [if_pos c6] at H
     have c6b0:(((rd_T51 l0 x8_1).f1) == a1)=true:=beq_iff_eq.mpr c6
     have c6b1:(((rd_T51 l0 x8_1).f1) != a1)=false:=bne_eq_false_iff_eq.mpr c6
     clear c6
     by_cases c7:x7_1.length < 17592186044416
     ·rw [if_pos c7] at H
      have LMc7:=Aside0.mk c7
      clear c7
      obtain⟨y209,hy209⟩:∃y_:List Int,y_=(x7_1 ++ [x8_1]):=⟨_,rfl⟩
      replace H:(canopylaw3_pick.l0 k1 l0 a1 a2 y209 (wrap64 (x8_1+1)))=some r:=by first|(rw [hy209];with_reducible exact H)|(have H2_:=(Option.bind_some _ _).symm.trans H;rw [hy209];with_reducible exact H2_)|(have H2_:=(Option.bind_some _ _).symm.trans H;with_reducible exact H2_)|with_reducible exact H|(rw [hy209];exact H)|exact H
      have Ny209:=Aside0.mk hy209
      clear hy209
      have H':=Aside0.mk H
      clear H
      have p208:0≤(x8_1:Int):=of_decide_eq_true (by first|(with_reducible assumption)|assumption)
      have q208:x8_1 < (l0.length:Int):=of_decide_eq_true (by first|(with_reducible assumption)|assumption)
      obtain⟨ad208,e208,hx208_0,hx208_1⟩:=at_T51 HR0.out x8_1 p208 q208
      cases e208
      replace hx208_0:=(HB.out.cell (World.block_lt_of_cell? w _ hx208_0)).trans hx208_0
      replace hx208_1:=(HB.out.cell (World.block_lt_of_cell? w _ hx208_1)).trans hx208_1
      replace p208:=eq_true p208
      replace q208:=eq_true q208
      go_wp2_with (first|((with_reducible refine gate_builtin (b:=.append) (xs:=#[.tmp 22,.tmp 24]) rfl ?_);at_builtin;refine Kd.R_append (Kd.int .i64) (w0:=w) w.heap.size rfl (.tmp 22) (.tmp 24) 22 3 (.int .i64 0) 8 rfl Tryz.underlying22 info3 rfl (by decide) (by omega) u7 x7_1 x8_1 [.int .i64 x8_1] (fun _=>True) (fun _=>False) rfl rfl ?aP (fun _ hk=>hk.elim) ?aF ?aO ?aB ?aS ?aL ?_;(case aP=>exact rfl);(case aB=>exact(by repeat (first|(with_reducible first|exact HB.out|apply below_alloc|apply pw_below_drewN|apply below_drew1)|exact HB.out)));(case aF=>exact(fun _ _=>trivial));(case aO=>exact(by(with_reducible repeat (first|apply Kd.R_alloc|apply Kd.R_drewN|apply Kd.R_drew));exact HO_7.out));(case aS=>exact(below_size (by repeat (first|(with_reducible first|exact HB.out|apply below_alloc|apply pw_below_drewN|apply below_drew1)|exact HB.out))));(case aL=>have:=LMc7.out;omega);intro v210 w8 ho hb hg hat;rw [←Ny209.out] at ho;have n0_:=Aside0.mk (hb);have n1_:=Aside0.mk (ho);clear HB;clear HO_7;have HB:=n0_;have HO211:=n1_;clear n0_ n1_;clear ho hb hg hat))
      go_roundg k1
      case measure=>have:=HK1.out;omega
      case rel=>exact⟨(y209),(wrap64 (x8_1+1)),(by first|rfl|(simp;done)|(simp [*];done)),H',⟨by have:=HK1.out;omega⟩,⟨by(with_reducible repeat (first|apply Kd.R_alloc|apply Kd.R_drewN|apply Kd.R_drew));exact HO211.out⟩,⟨by repeat (first|(with_reducible first|exact HB.out|apply below_alloc|apply pw_below_drewN|apply below_drew1)|exact HB.out)⟩⟩
     rw [if_neg c7] at H
     exact absurd H (by simp)
    rw [if_neg c6] at H
    have c6b0:(((rd_T51 l0 x8_1).f1) == a1)=false:=beq_eq_false_iff_ne.mpr c6
    have c6b1:(((rd_T51 l0 x8_1).f1) != a1)=true:=bne_iff_ne.mpr c6
    have H':=Aside0.mk H
    clear H
    have p208:0≤(x8_1:Int):=of_decide_eq_true (by first|(with_reducible assumption)|assumption)
    have q208:x8_1 < (l0.length:Int):=of_decide_eq_true (by first|(with_reducible assumption)|assumption)
    obtain⟨ad208,e208,hx208_0,hx208_1⟩:=at_T51 HR0.out x8_1 p208 q208
    cases e208
    replace hx208_0:=(HB.out.cell (World.block_lt_of_cell? w _ hx208_0)).trans hx208_0
    replace hx208_1:=(HB.out.cell (World.block_lt_of_cell? w _ hx208_1)).trans hx208_1
    replace p208:=eq_true p208
    replace q208:=eq_true q208
    go_wp2
    go_roundg k1
    case measure=>have:=HK1.out;omega
    case rel=>exact⟨(x7_1),(wrap64 (x8_1+1)),(by first|rfl|(simp;done)|(simp [*];done)),H',⟨by have:=HK1.out;omega⟩,⟨by(with_reducible repeat (first|apply Kd.R_alloc|apply Kd.R_drewN|apply Kd.R_drew));exact HO_7.out⟩,⟨by repeat (first|(with_reducible first|exact HB.out|apply below_alloc|apply pw_below_drewN|apply below_drew1)|exact HB.out)⟩⟩
   rw [if_neg c5] at H
   exact absurd H (by simp)
  rw [if_neg c4] at H
  have c4b0:decide (x8_1 < (l0.length:Int))=false:=decide_eq_false c4
  clear c4
  by_cases c9:(x7_1.length:Int)=0
  ·rw [if_pos c9] at H
   have c9b0:((x7_1.length:Int) == 0)=true:=beq_iff_eq.mpr c9
   have c9b1:((x7_1.length:Int) != 0)=false:=bne_eq_false_iff_eq.mpr c9
   clear c9
   obtain rfl:=Option.some.inj H
   obtain⟨Ao10,co10,eo10⟩:=Kd.R_slice HO_7.out
   subst eo10
   go_wp2
   go_ret
   exact⟨by first|rfl|(simp [errW_none,errW_some]<;>rfl)|(simp [*,errW_none,errW_some]<;>rfl),by repeat (first|(with_reducible first|exact HB.out|apply below_alloc|apply pw_below_drewN|apply below_drew1)|exact HB.out)⟩
  rw [if_neg c9] at H
  have c9b0:((x7_1.length:Int) == 0)=false:=beq_eq_false_iff_ne.mpr c9
  have c9b1:((x7_1.length:Int) != 0)=true:=bne_iff_ne.mpr c9
  have c9b2:¬(x7_1 = []):=fun h_=>c9 (by rw [h_];rfl)
  obtain⟨ji11,hji11⟩:∃j_:Int,(Int.tmod a2 (x7_1.length:Int))=j_:=⟨_,rfl⟩
  replace H:(if 0≤(ji11) then (if (ji11) < (x7_1.length:Int) then (some (rd x7_1 (ji11))) else (none)) else (none))=some r:=by first|(rw [hji11] at H;exact H)|(simp only [hji11] at H ⊢;exact H)
  by_cases c12:0≤(ji11)
  ·rw [if_pos c12] at H
   have c12b0:decide (0≤(ji11))=true:=decide_eq_true c12
   clear c12
   by_cases c13:(ji11) < (x7_1.length:Int)
   ·rw [if_pos c13] at H
    have c13b0:decide ((ji11) < (x7_1.length:Int))=true:=decide_eq_true c13
    clear c13
    obtain rfl:=Option.some.inj H
    obtain⟨Ao14,co14,eo14⟩:=Kd.R_slice HO_7.out
    subst eo14
    have p212:0≤((ji11):Int):=of_decide_eq_true (by first|(with_reducible assumption)|assumption)
    have q212:(ji11) < (x7_1.length:Int):=of_decide_eq_true (by first|(with_reducible assumption)|assumption)
    obtain⟨ad212,e212,hx212_0⟩:=Kd.at_int (Kd.R_reads' HO_7.out).2.2 (ji11) p212 q212
    cases e212
    replace p212:=eq_true p212
    replace q212:=eq_true q212
    go_wp2
    go_ret
    exact⟨by first|rfl|(simp [errW_none,errW_some]<;>rfl)|(simp only [←hji11];first|rfl|(simp [errW_none,errW_some]<;>rfl))|(simp [*,errW_none,errW_some]<;>rfl),by repeat (first|(with_reducible first|exact HB.out|apply below_alloc|apply pw_below_drewN|apply below_drew1)|exact HB.out)⟩
   rw [if_neg c13] at H
   exact absurd H (by simp)
  rw [if_neg c12] at H
  exact absurd H (by simp)
end Go.Proofs.YtejpijgfpbcibaaGreat.P
end
section
namespace Go.Proofs.YtejpijgfpbcibaaGreat.P
open Go.RowKit Go.Proofs.YtejpijgfpbcibaaGreatW.PrintWords Go.Proofs.YtejpijgfpbcibaaGreatW.PrintLast Go.Proofs.YtejpijgfpbcibaaGreatW.PrintMore
attribute [local go_sem] max2_int min2_int max_two min_two max_three min_three max_four min_four   -- for this text's walks alone
def canopylaw3_within.f (a0:Int) (a1:Int):Option (Int):=if a1=0 then (none) else (if (Int.tmod a0 a1) < 0 then (some (wrap64 ((Int.tmod a0 a1)+a1))) else (some (Int.tmod a0 a1)))
set_option maxHeartbeats 8000000 in
set_option maxRecDepth 100000 in
theorem canopylaw3_within.calls (a0:Int) (a1:Int) (r:Int) (w:World) (h:canopylaw3_within.f a0 a1=some r) :
 Calls Tryz.prog 16 #[.int .i64 a0,.int .i64 a1] w fun e w'=>e=.returned (.int .i64 r)∧Drawn0 w w':=by
 have H:(if a1=0 then (none) else (if (Int.tmod a0 a1) < 0 then (some (wrap64 ((Int.tmod a0 a1)+a1))) else (some (Int.tmod a0 a1))))=some r:=h
 clear h
 by_cases c3:a1=0
 ·rw [if_pos c3] at H
  exact absurd H (by simp)
 rw [if_neg c3] at H
 have c3b0:(a1 == 0)=false:=beq_eq_false_iff_ne.mpr c3
 have c3b1:(a1 != 0)=true:=bne_iff_ne.mpr c3
 by_cases c4:(Int.tmod a0 a1) < 0
 ·rw [if_pos c4] at H
  have c4b0:decide ((Int.tmod a0 a1) < 0)=true:=decide_eq_true c4
  clear c4
  obtain rfl:=Option.some.inj H
  go_enter Tryz.func16,Tryz.ntmps16
  go_wp2
  go_ret
  exact⟨by first|rfl|(simp;done)|(simp [*];done),by repeat (first|exact Drawn0.refl _|apply Drawn0.step)⟩
 rw [if_neg c4] at H
 have c4b0:decide ((Int.tmod a0 a1) < 0)=false:=decide_eq_false c4
 clear c4
 obtain rfl:=Option.some.inj H
 go_enter Tryz.func16,Tryz.ntmps16
 go_wp2
 go_ret
 exact⟨by first|rfl|(simp;done)|(simp [*];done),by repeat (first|exact Drawn0.refl _|apply Drawn0.step)⟩
end Go.Proofs.YtejpijgfpbcibaaGreat.P
end
section
namespace Go.Proofs.YtejpijgfpbcibaaGreat.P
open Go.RowKit Go.Proofs.YtejpijgfpbcibaaGreatW.PrintWords Go.Proofs.YtejpijgfpbcibaaGreatW.PrintLast Go.Proofs.YtejpijgfpbcibaaGreatW.PrintMore
attribute [local go_sem] max2_int min2_int max_two min_two max_three min_three max_four min_four   -- for this text's walks alone
def canopyref1_Ints.l0:Nat→List Int→List Int→Int→Option (Bool)
 | 0,_,_,_=>none
 | k+1,x0,x1,x5=>if x5 < (x0.length:Int) then (if 0≤x5 then (if x5 < (x1.length:Int) then (if (rd x0 x5)=(rd x1 x5) then (canopyref1_Ints.l0 k x0 x1 (wrap64 (x5+1))) else (some false)) else (none)) else (none)) else (some true)
def canopyref1_Ints.f (k:Nat) (l0:List Int) (l1:List Int):Option (Bool):=if (l0.length:Int)=(l1.length:Int) then (canopyref1_Ints.l0 k l0 l1 0) else (some false)
theorem canopyref1_Ints.mono_l:∀k,(∀y0 y1 y2,LeO (canopyref1_Ints.l0 k y0 y1 y2) (canopyref1_Ints.l0 (k+1) y0 y1 y2))
 | 0=>fun _ _ _ r h=>by simp [canopyref1_Ints.l0] at h
 | k+1=>by
  have ih0:=canopyref1_Ints.mono_l k
  intro y0 y1 y2
  unfold canopyref1_Ints.l0
  repeat' first
  | (with_reducible exact ih0 _ _ _)
  | (with_reducible exact LeO.refl _)
  | (with_reducible exact LeO.none _)
  | (with_reducible refine LeO.ite ?_ ?_)
  | (with_reducible refine LeO.bind ?_ (fun _=>?_))
  | exact ih0 _ _ _
  | exact LeO.none _
  | refine LeO.ite ?_ ?_
  | refine LeO.bind ?_ (fun _=>?_)
theorem canopyref1_Ints.mono:∀a0 a1 k,LeO (canopyref1_Ints.f k a0 a1) (canopyref1_Ints.f (k+1) a0 a1):=by
 intro a0 a1 k
 have ih0:=canopyref1_Ints.mono_l k
 unfold canopyref1_Ints.f
 repeat' first
  | (with_reducible exact ih0 _ _ _)
  | (with_reducible exact LeO.refl _)
  | (with_reducible exact LeO.none _)
  | (with_reducible refine LeO.ite ?_ ?_)
  | (with_reducible refine LeO.bind ?_ (fun _=>?_))
  | exact ih0 _ _ _
  | exact LeO.none _
  | refine LeO.ite ?_ ?_
  | refine LeO.bind ?_ (fun _=>?_)
set_option maxHeartbeats 8000000 in
set_option maxRecDepth 100000 in
theorem canopyref1_Ints.calls (k:Nat) (A0:Option Addr) (c0:Nat) (l0:List Int) (A1:Option Addr) (c1:Nat) (l1:List Int) (r:Bool) (w:World) (hr0:Kd.C (Kd.int .i64) w A0 l0.length l0) (hc0:l0.length≤c0) (hr1:Kd.C (Kd.int .i64) w A1 l1.length l1) (hc1:l1.length≤c1) (h:canopyref1_Ints.f k l0 l1=some r) :
 Calls Tryz.prog 39 #[.slice A0 l0.length c0,.slice A1 l1.length c1] w fun e w'=>e=.returned (.bool r)∧Drawn0 w w':=by
 have HR0:=Aside0.mk hr0
 have HC0:=Aside0.mk hc0
 clear hr0 hc0
 have HR1:=Aside0.mk hr1
 have HC1:=Aside0.mk hc1
 clear hr1 hc1
 have H:(if (l0.length:Int)=(l1.length:Int) then (canopyref1_Ints.l0 k l0 l1 0) else (some false))=some r:=h
 clear h
 by_cases c3:(l0.length:Int)=(l1.length:Int)
 ·rw [if_pos c3] at H
  have c3b0:((l0.length:Int) == (l1.length:Int))=true:=beq_iff_eq.mpr c3
  have c3b1:((l0.length:Int) != (l1.length:Int))=false:=bne_eq_false_iff_eq.mpr c3
  have c3b2:(l0.length == l1.length)=true:=by first|simpa using c3|(simp at c3 ⊢;omega)
  clear c3
  have H':=Aside0.mk H
  clear H
  go_enter Tryz.func39,Tryz.ntmps39
  go_wp2
  repeat (go_quiet (fail);try go_wp2)
  go_loopg [5] k (fun kq v5 w'=>∃(x5_1:Int),v5=.int .i64 x5_1∧Aside0 (canopyref1_Ints.l0 kq l0 l1 x5_1=some r)∧Aside0 (kq≤k)∧Drawn0 w w')
  case atStart=>exact⟨(0),(by first|rfl|(simp;done)|(simp [*];done)),H',⟨Nat.le_refl _⟩,by repeat (first|exact Drawn0.refl _|apply Drawn0.step)⟩
  case' round=>skip
  clear H'
  try clear c1
  try clear p2
  try clear c3
  try clear c3b0
  try clear c3b1
  try clear c3b2
  obtain⟨x5_1,rfl,HA,HK1,⟨m1,rfl⟩⟩:=hrel
  cases gk with
  | zero=>exact absurd HA.out (by simp [canopyref1_Ints.l0])
  | succ k1=>
   have H:=HA.out
   clear HA
   simp only [canopyref1_Ints.l0] at H
   by_cases c4:x5_1 < (l0.length:Int)
   ·rw [if_pos c4] at H
    have c4b0:decide (x5_1 < (l0.length:Int))=true:=decide_eq_true c4
    clear c4
    by_cases c5:0≤x5_1
    ·rw [if_pos c5] at H
     have c5b0:decide (0≤x5_1)=true:=decide_eq_true c5
     clear c5
     by_cases c6:x5_1 < (l1.length:Int)
     ·rw [if_pos c6] at H
      have c6b0:decide (x5_1 < (l1.length:Int))=true:=decide_eq_true c6
      clear c6
      by_cases c7:(rd l0 x5_1)=(rd l1 x5_1)
      ·rw [if_pos c7] at H
       have c7b0:((rd l0 x5_1) == (rd l1 x5_1))=true:=beq_iff_eq.mpr c7
       have c7b1:((rd l0 x5_1) != (rd l1 x5_1))=false:=bne_eq_false_iff_eq.mpr c7
       clear c7
       have H':=Aside0.mk H
       clear H
       have p131:0≤(x5_1:Int):=of_decide_eq_true (by first|(with_reducible assumption)|assumption)
       have q131:x5_1 < (l0.length:Int):=of_decide_eq_true (by first|(with_reducible assumption)|assumption)
       obtain⟨ad131,e131,hx131_0⟩:=Kd.at_int HR0.out x5_1 p131 q131
       cases e131
       replace p131:=eq_true p131
       replace q131:=eq_true q131
       have p132:0≤(x5_1:Int):=of_decide_eq_true (by first|(with_reducible assumption)|assumption)
       have q132:x5_1 < (l1.length:Int):=of_decide_eq_true (by first|(with_reducible assumption)|assumption)
       obtain⟨ad132,e132,hx132_0⟩:=Kd.at_int HR1.out x5_1 p132 q132
       cases e132
       replace p132:=eq_true p132
       replace q132:=eq_true q132
       go_wp2
       repeat (go_quiet (fail);try go_wp2)
       go_roundg k1
       case measure=>have:=HK1.out;omega
       case rel=>exact⟨(wrap64 (x5_1+1)),(by first|rfl|(simp;done)|(simp [*];done)),H',⟨by have:=HK1.out;omega⟩,by repeat (first|exact Drawn0.refl _|apply Drawn0.step)⟩
      rw [if_neg c7] at H
      have c7b0:((rd l0 x5_1) == (rd l1 x5_1))=false:=beq_eq_false_iff_ne.mpr c7
      have c7b1:((rd l0 x5_1) != (rd l1 x5_1))=true:=bne_iff_ne.mpr c7
      obtain rfl:=Option.some.inj H
      have p131:0≤(x5_1:Int):=of_decide_eq_true (by first|(with_reducible assumption)|assumption)
      have q131:x5_1 < (l0.length:Int):=of_decide_eq_true (by first|(with_reducible assumption)|assumption)
      obtain⟨ad131,e131,hx131_0⟩:=Kd.at_int HR0.out x5_1 p131 q131
      cases e131
      replace p131:=eq_true p131
      replace q131:=eq_true q131
      have p132:0≤(x5_1:Int):=of_decide_eq_true (by first|(with_reducible assumption)|assumption)
      have q132:x5_1 < (l1.length:Int):=of_decide_eq_true (by first|(with_reducible assumption)|assumption)
      obtain⟨ad132,e132,hx132_0⟩:=Kd.at_int HR1.out x5_1 p132 q132
      cases e132
      replace p132:=eq_true p132
      replace q132:=eq_true q132
      go_wp2
      repeat (go_quiet (fail);try go_wp2)
      go_ret
      exact⟨by first|rfl|(simp;done)|(simp [*];done),by repeat (first|exact Drawn0.refl _|apply Drawn0.step)⟩
     rw [if_neg c6] at H
     exact absurd H (by simp)
    rw [if_neg c5] at H
    exact absurd H (by simp)
   rw [if_neg c4] at H
   have c4b0:decide (x5_1 < (l0.length:Int))=false:=decide_eq_false c4
   clear c4
   obtain rfl:=Option.some.inj H
   go_wp2
   repeat (go_quiet (fail);try go_wp2)
   go_ret
   exact⟨by first|rfl|(simp;done)|(simp [*];done),by repeat (first|exact Drawn0.refl _|apply Drawn0.step)⟩
 rw [if_neg c3] at H
 have c3b0:((l0.length:Int) == (l1.length:Int))=false:=beq_eq_false_iff_ne.mpr c3
 have c3b1:((l0.length:Int) != (l1.length:Int))=true:=bne_iff_ne.mpr c3
 have c3b2:(l0.length == l1.length)=false:=by first|simpa using c3|(simp at c3 ⊢;omega)
 obtain rfl:=Option.some.inj H
 go_enter Tryz.func39,Tryz.ntmps39
 go_wp2
 repeat (go_quiet (fail);try go_wp2)
 go_ret
 exact⟨by first|rfl|(simp;done)|(simp [*];done),by repeat (first|exact Drawn0.refl _|apply Drawn0.step)⟩
end Go.Proofs.YtejpijgfpbcibaaGreat.P
end
section
namespace Go.Proofs.YtejpijgfpbcibaaGreat.P
open Go.RowKit Go.Proofs.YtejpijgfpbcibaaGreatW.PrintWords Go.Proofs.YtejpijgfpbcibaaGreatW.PrintLast Go.Proofs.YtejpijgfpbcibaaGreatW.PrintMore
attribute [local go_sem] max2_int min2_int max_two min_two max_three min_three max_four min_four   -- for this text's walks alone
def canopyref3_state.f (a0_0:Int) (a0_1:Int) (l0_2:List Int) (l0_3:List Int) (l0_4:List (S36)) (l0_5:List (S38)) (l0_6:List (S40)) (a1:Int):Option (Bool):=if a1≥0 then (some (decide (a1 < a0_0))) else (some false)
set_option maxHeartbeats 8000000 in
set_option maxRecDepth 100000 in
theorem canopyref3_state.calls (a0_0:Int) (a0_1:Int) (A0_2:Option Addr) (c0_2:Nat) (l0_2:List Int) (A0_3:Option Addr) (c0_3:Nat) (l0_3:List Int) (A0_4:Option Addr) (c0_4:Nat) (l0_4:List (S36)) (A0_5:Option Addr) (c0_5:Nat) (l0_5:List (S38)) (A0_6:Option Addr) (c0_6:Nat) (l0_6:List (S40)) (a1:Int) (r:Bool) (w:World) (hr0_2:Kd.C (Kd.int .i64) w A0_2 l0_2.length l0_2) (hc0_2:l0_2.length≤c0_2) (hr0_3:Kd.C (Kd.int .i64) w A0_3 l0_3.length l0_3) (hc0_3:l0_3.length≤c0_3) (hr0_4:Kd.C k36 w A0_4 l0_4.length l0_4) (hc0_4:l0_4.length≤c0_4) (hr0_5:Kd.C k38 w A0_5 l0_5.length l0_5) (hc0_5:l0_5.length≤c0_5) (hr0_6:Kd.C k40 w A0_6 l0_6.length l0_6) (hc0_6:l0_6.length≤c0_6) (h:canopyref3_state.f a0_0 a0_1 l0_2 l0_3 l0_4 l0_5 l0_6 a1=some r) :
 Calls Tryz.prog 34 #[.agg #[.int .i64 a0_0,.int .i64 a0_1,.slice A0_2 l0_2.length c0_2,.slice A0_3 l0_3.length c0_3,.slice A0_4 l0_4.length c0_4,.slice A0_5 l0_5.length c0_5,.slice A0_6 l0_6.length c0_6],.int .i64 a1] w fun e w'=>e=.returned (.bool r)∧Below w.heap.size w w':=by
 have hu30:=Tryz.underlying30
 have HR0_2:=Aside0.mk hr0_2
 have HC0_2:=Aside0.mk hc0_2
 clear hr0_2 hc0_2
 have HR0_3:=Aside0.mk hr0_3
 have HC0_3:=Aside0.mk hc0_3
 clear hr0_3 hc0_3
 have HR0_4:=Aside0.mk hr0_4
 have HC0_4:=Aside0.mk hc0_4
 clear hr0_4 hc0_4
 have HR0_5:=Aside0.mk hr0_5
 have HC0_5:=Aside0.mk hc0_5
 clear hr0_5 hc0_5
 have HR0_6:=Aside0.mk hr0_6
 have HC0_6:=Aside0.mk hc0_6
 clear hr0_6 hc0_6
 have HB:=Aside0.mk (Below.refl w.heap.size w)
 have H:(if a1≥0 then (some (decide (a1 < a0_0))) else (some false))=some r:=h
 clear h
 by_cases c3:a1≥0
 ·rw [if_pos c3] at H
  have c3b0:decide (0≤a1)=true:=decide_eq_true c3
  clear c3
  obtain rfl:=Option.some.inj H
  go_enter Tryz.func34,Tryz.ntmps34
  go_wp2_with (first|((with_reducible refine gate_dst (N:=2) rfl ?_);refine box_event ?hg (N:=2) ?hd (cs:=#[.int .i64 a0_0,.int .i64 a0_1,.slice A0_2 l0_2.length c0_2,.slice A0_3 l0_3.length c0_3,.slice A0_4 l0_4.length c0_4,.slice A0_5 l0_5.length c0_5,.slice A0_6 l0_6.length c0_6]) (t:=30) ?hr ?_;(case hd=>rfl);(case hg=>rfl);(case hr=>first|(go_simp;done)|(go_simp;rfl));intro gb129 hg w4 hbox hb;have n0_:=Aside0.mk (below_step (by repeat (first|(with_reducible first|exact HB.out|apply below_alloc|apply pw_below_drewN|apply below_drew1)|exact HB.out)) hb);have n1_:=Aside0.mk (hbox);have n2_:=Aside0.mk ((by rw [hg];exact(below_size (by repeat (first|(with_reducible first|exact HB.out|apply below_alloc|apply pw_below_drewN|apply below_drew1)|exact HB.out))):w.heap.size≤gb129));have n3_:=Aside0.mk ((by rw [hg];exact(below_size (by repeat (first|(with_reducible first|exact HB.out|apply below_alloc|apply pw_below_drewN|apply below_drew1)|exact HB.out))):w.heap.size≤gb129));clear HB;have HB:=n0_;have BK129:=n1_;have GW129:=n2_;have GE129:=n3_;clear n0_ n1_ n2_ n3_;clear hb hbox hg;have hcz5_0:w4.cell? ⟨gb129,0,none⟩=some (.int .i64 a0_0):=(blk_cell BK129.out 0).trans rfl;have hcz5_1:w4.cell? ⟨gb129,1,none⟩=some (.int .i64 a0_1):=(blk_cell BK129.out 1).trans rfl;have hcz5_2:w4.cell? ⟨gb129,2,none⟩=some (.slice A0_2 l0_2.length c0_2):=(blk_cell BK129.out 2).trans rfl;have hcz5_3:w4.cell? ⟨gb129,3,none⟩=some (.slice A0_3 l0_3.length c0_3):=(blk_cell BK129.out 3).trans rfl;have hcz5_4:w4.cell? ⟨gb129,4,none⟩=some (.slice A0_4 l0_4.length c0_4):=(blk_cell BK129.out 4).trans rfl;have hcz5_5:w4.cell? ⟨gb129,5,none⟩=some (.slice A0_5 l0_5.length c0_5):=(blk_cell BK129.out 5).trans rfl;have hcz5_6:w4.cell? ⟨gb129,6,none⟩=some (.slice A0_6 l0_6.length c0_6):=(blk_cell BK129.out 6).trans rfl;have hfz5_0:=blk_frozen BK129.out 0;have hfz5_1:=blk_frozen BK129.out 1;have hfz5_2:=blk_frozen BK129.out 2;have hfz5_3:=blk_frozen BK129.out 3;have hfz5_4:=blk_frozen BK129.out 4;have hfz5_5:=blk_frozen BK129.out 5;have hfz5_6:=blk_frozen BK129.out 6))
  go_ret
  exact⟨by first|rfl|(simp [errW_none,errW_some]<;>rfl)|(simp [*,errW_none,errW_some]<;>rfl),by repeat (first|(with_reducible first|exact HB.out|apply below_alloc|apply pw_below_drewN|apply below_drew1|refine below_set ?_ GE129.out)|exact HB.out)⟩
 rw [if_neg c3] at H
 have c3b0:decide (0≤a1)=false:=decide_eq_false c3
 clear c3
 obtain rfl:=Option.some.inj H
 go_enter Tryz.func34,Tryz.ntmps34
 go_wp2_with (first|((with_reducible refine gate_dst (N:=2) rfl ?_);refine box_event ?hg (N:=2) ?hd (cs:=#[.int .i64 a0_0,.int .i64 a0_1,.slice A0_2 l0_2.length c0_2,.slice A0_3 l0_3.length c0_3,.slice A0_4 l0_4.length c0_4,.slice A0_5 l0_5.length c0_5,.slice A0_6 l0_6.length c0_6]) (t:=30) ?hr ?_;(case hd=>rfl);(case hg=>rfl);(case hr=>first|(go_simp;done)|(go_simp;rfl));intro gb129 hg w6 hbox hb;have n0_:=Aside0.mk (below_step (by repeat (first|(with_reducible first|exact HB.out|apply below_alloc|apply pw_below_drewN|apply below_drew1)|exact HB.out)) hb);have n1_:=Aside0.mk (hbox);have n2_:=Aside0.mk ((by rw [hg];exact(below_size (by repeat (first|(with_reducible first|exact HB.out|apply below_alloc|apply pw_below_drewN|apply below_drew1)|exact HB.out))):w.heap.size≤gb129));have n3_:=Aside0.mk ((by rw [hg];exact(below_size (by repeat (first|(with_reducible first|exact HB.out|apply below_alloc|apply pw_below_drewN|apply below_drew1)|exact HB.out))):w.heap.size≤gb129));clear HB;have HB:=n0_;have BK129:=n1_;have GW129:=n2_;have GE129:=n3_;clear n0_ n1_ n2_ n3_;clear hb hbox hg))
 go_ret
 exact⟨by first|rfl|(simp [errW_none,errW_some]<;>rfl)|(simp [*,errW_none,errW_some]<;>rfl),by repeat (first|(with_reducible first|exact HB.out|apply below_alloc|apply pw_below_drewN|apply below_drew1|refine below_set ?_ GE129.out)|exact HB.out)⟩
end Go.Proofs.YtejpijgfpbcibaaGreat.P
end
section
namespace Go.Proofs.YtejpijgfpbcibaaGreat.P
open Go.RowKit Go.Proofs.YtejpijgfpbcibaaGreatW.PrintWords Go.Proofs.YtejpijgfpbcibaaGreatW.PrintLast Go.Proofs.YtejpijgfpbcibaaGreatW.PrintMore
attribute [local go_sem] max2_int min2_int max_two min_two max_three min_three max_four min_four   -- for this text's walks alone
def canopyref3_kind.f (l0:List (S51)) (a1:Int) (a2:Int):Option (Bool):=if a1≥0 then (if a1 < (l0.length:Int) then (if 0≤a1 then (some (((rd_T51 l0 a1).f1) == a2)) else (none)) else (some false)) else (some false)
set_option maxHeartbeats 8000000 in
set_option maxRecDepth 100000 in
theorem canopyref3_kind.calls (A0:Option Addr) (c0:Nat) (l0:List (S51)) (a1:Int) (a2:Int) (r:Bool) (w:World) (hr0:Kd.C k51 w A0 l0.length l0) (hc0:l0.length≤c0) (h:canopyref3_kind.f l0 a1 a2=some r) :
 Calls Tryz.prog 35 #[.slice A0 l0.length c0,.int .i64 a1,.int .i64 a2] w fun e w'=>e=.returned (.bool r)∧Drawn0 w w':=by
 have HR0:=Aside0.mk hr0
 have HC0:=Aside0.mk hc0
 clear hr0 hc0
 have H:(if a1≥0 then (if a1 < (l0.length:Int) then (if 0≤a1 then (some (((rd_T51 l0 a1).f1) == a2)) else (none)) else (some false)) else (some false))=some r:=h
 clear h
 by_cases c4:a1≥0
 ·rw [if_pos c4] at H
  have c4b0:decide (0≤a1)=true:=decide_eq_true c4
  clear c4
  by_cases c5:a1 < (l0.length:Int)
  ·rw [if_pos c5] at H
   have c5b0:decide (a1 < (l0.length:Int))=true:=decide_eq_true c5
   clear c5
   by_cases c6:0≤a1
   ·rw [if_pos c6] at H
    have c6b0:decide (0≤a1)=true:=decide_eq_true c6
    clear c6
    obtain rfl:=Option.some.inj H
    have p130:0≤(a1:Int):=of_decide_eq_true (by first|(with_reducible assumption)|assumption)
    have q130:a1 < (l0.length:Int):=of_decide_eq_true (by first|(with_reducible assumption)|assumption)
    obtain⟨ad130,e130,hx130_0,hx130_1⟩:=at_T51 HR0.out a1 p130 q130
    cases e130
    replace p130:=eq_true p130
    replace q130:=eq_true q130
    go_enter Tryz.func35,Tryz.ntmps35
    go_wp2
    go_ret
    exact⟨by first|rfl|(simp;done)|(simp [*];done),by repeat (first|exact Drawn0.refl _|apply Drawn0.step)⟩
   rw [if_neg c6] at H
   exact absurd H (by simp)
  rw [if_neg c5] at H
  have c5b0:decide (a1 < (l0.length:Int))=false:=decide_eq_false c5
  clear c5
  obtain rfl:=Option.some.inj H
  go_enter Tryz.func35,Tryz.ntmps35
  go_wp2
  go_ret
  exact⟨by first|rfl|(simp;done)|(simp [*];done),by repeat (first|exact Drawn0.refl _|apply Drawn0.step)⟩
 rw [if_neg c4] at H
 have c4b0:decide (0≤a1)=false:=decide_eq_false c4
 clear c4
 obtain rfl:=Option.some.inj H
 go_enter Tryz.func35,Tryz.ntmps35
 go_wp2
 go_ret
 exact⟨by first|rfl|(simp;done)|(simp [*];done),by repeat (first|exact Drawn0.refl _|apply Drawn0.step)⟩
end Go.Proofs.YtejpijgfpbcibaaGreat.P
end
