/- Words and walks of this claim: P0, PCmpOrInt, PCmpIsNaNInt, PCmpCompareInt, PSlicesCompareIntInt, PSlicesIndexIntInt, PSlicesContainsIntInt, PCanopyref1Less, PCanopyref4Less, PCanopylaw1Within, PCanopylaw1Word, PCanopylaw4Few, PCanopylaw4Within, PCanopylaw3Pick, PCanopylaw3Within, PCanopylaw4As, PCanopyref1Ints, PCanopyref4Same, PCanopyref4Ends. -/
import Derived.Test.YtjkhdldgmkkhjaaProg
import Derived.Below
import Derived.Deep.Draws
import Derived.Deep.AppendLies
import Derived.Maps.AppendAt
import Derived.OwnWalk
import Derived.Laws.BytesArg
import Derived.Laws.MakeOwn
import Derived.Laws.OwnMore
import Derived.Deep.OwnRows
import Derived.Tactics
import Derived.Lib.ConvBytes
import Derived.Laws.Slices
import Derived.WalkKit
import Derived.KernelRfl
import Derived.RowKit3
import Derived.Deep.LoopGhost
import Derived.Deep.QuietTactic
import Derived.BigQuiet
import Derived.WideLaws
import Derived.Deep.DeepCutAuto
import Derived.Deep.CutBlock
import Derived.Deep.RegionHeld3
import Derived.Laws.Rows
import Derived.Lib.AppendStr
import Derived.ArgAppend
import Derived.Laws.IdiomCopy
import Derived.OrdersHeld
import Derived.Laws.BitsLemmas
import Derived.RowKit
import Derived.Test.YtjkhdldgmkkhjaaGWWords
import Derived.Test.YtjkhdldgmkkhjaaGWEqStructEtc
set_option linter.unusedVariables false
set_option linter.unusedSimpArgs false
set_option linter.unnecessarySimpa false
section
namespace Go.Proofs.Ytjkhdldgmkkhjaa.P
open Go.RowKit Go.Proofs.YtjkhdldgmkkhjaaW.PrintWords Go.Proofs.YtjkhdldgmkkhjaaW.PrintLast Go.Proofs.YtjkhdldgmkkhjaaW.PrintMore
attribute [local go_sem] max2_int min2_int max_two min_two max_three min_three max_four min_four   -- for this text's walks alone
def errW:Option Int→Value
 | none=>.nilIface
 | some c=>.iface 0 (.int .i64 c)
theorem errW_none:errW none=.nilIface:=rfl
theorem errW_some (c:Int):errW (some c)=.iface 0 (.int .i64 c):=rfl
theorem info3:(Try.prog.info? 3).map (fun i=>(i.zero,i.size,i.bytes))=some (some (.int .i64 0),1,8):=by kernel_rfl
theorem info46:(Try.prog.info? 46).map (fun i=>(i.zero,i.size,i.bytes))=some (some (.agg #[(.string ⟨#[]⟩),(.int .i64 0)]),2,24):=by kernel_rfl
theorem info67:(Try.prog.info? 67).map (fun i=>(i.zero,i.size,i.bytes))=some (some (.agg #[(.int .i64 0),(.slice none 0 0)]),2,32):=by kernel_rfl
structure S46 where
 f0:ByteArray
 f1:Int
def z46:S46:=⟨(⟨#[]⟩:ByteArray),(0:Int)⟩
def k46:Kd S46:=Kd.iso (Kd.pair Kd.string (Kd.int .i64)) (fun x:S46=>(x.f0,x.f1))
theorem k46_open {w:World} {x:S46} {cs:List Value} (h:k46.K w x cs):cs = [.string x.f0,.int .i64 x.f1]:=by
 obtain⟨_,_,rfl,rfl,rfl⟩:=h
 exact rfl
theorem k46_mkM (w:World) (base:Nat) (ok:Nat→Prop) (x:S46)  : k46.M w base ok x [.string x.f0,.int .i64 x.f1]:=⟨[.string x.f0],[.int .i64 x.f1],rfl,rfl,rfl⟩
def rd_T46 (xs:List S46) (i:Int):S46:=xs.getD i.toNat z46
theorem at_T46 {w:World} {A:Option Addr} {n:Nat} {xs:List S46} (h:Kd.C k46 w A n xs) (i:Int) (h0:0≤i) (h1:i < n):∃ad,A=some ad∧w.cell? (ad.add (i.toNat*2))=some (.string (rd_T46 xs i).f0)∧w.cell? ⟨(ad.add (i.toNat*2)).block,(ad.add (i.toNat*2)).off+1,none⟩=some (.int .i64 (rd_T46 xs i).f1):=by
 obtain⟨ad,c,e,_,hK,hc0⟩:=Kd.C_get h z46 i h0 h1
 have hc:∀j u,c[j]? = some u→w.cell? (ad.add (i.toNat*2+j))=some u:=hc0
 obtain rfl:=k46_open hK
 exact⟨ad,e,hc 0 _ rfl,by rw [←add_field _ _ 1 (by omega)];exact hc 1 _ rfl⟩
structure S52 where
 f0:Int
 f1:Int
 f2:Int
 f3:Int
def z52:S52:=⟨(0:Int),(0:Int),(0:Int),(0:Int)⟩
def k52:Kd S52:=Kd.iso (Kd.pair (Kd.int .i64) (Kd.pair (Kd.int .i64) (Kd.pair (Kd.int .i64) (Kd.int .i64)))) (fun x:S52=>(x.f0,x.f1,x.f2,x.f3))
theorem k52_open {w:World} {x:S52} {cs:List Value} (h:k52.K w x cs):cs = [.int .i64 x.f0,.int .i64 x.f1,.int .i64 x.f2,.int .i64 x.f3]:=by
 obtain⟨_,_,rfl,rfl,⟨_,_,rfl,rfl,⟨_,_,rfl,rfl,rfl⟩⟩⟩:=h
 exact rfl
theorem k52_mk (w:World) (x:S52)  : k52.K w x [.int .i64 x.f0,.int .i64 x.f1,.int .i64 x.f2,.int .i64 x.f3]:=⟨[.int .i64 x.f0],[.int .i64 x.f1,.int .i64 x.f2,.int .i64 x.f3],rfl,rfl,⟨[.int .i64 x.f1],[.int .i64 x.f2,.int .i64 x.f3],rfl,rfl,⟨[.int .i64 x.f2],[.int .i64 x.f3],rfl,rfl,rfl⟩⟩⟩
theorem k52_mkM (w:World) (base:Nat) (ok:Nat→Prop) (x:S52)  : k52.M w base ok x [.int .i64 x.f0,.int .i64 x.f1,.int .i64 x.f2,.int .i64 x.f3]:=⟨[.int .i64 x.f0],[.int .i64 x.f1,.int .i64 x.f2,.int .i64 x.f3],rfl,rfl,⟨[.int .i64 x.f1],[.int .i64 x.f2,.int .i64 x.f3],rfl,rfl,⟨[.int .i64 x.f2],[.int .i64 x.f3],rfl,rfl,rfl⟩⟩⟩
def rd_T52 (xs:List S52) (i:Int):S52:=xs.getD i.toNat z52
theorem at_T52 {w:World} {A:Option Addr} {n:Nat} {xs:List S52} (h:Kd.C k52 w A n xs) (i:Int) (h0:0≤i) (h1:i < n):∃ad,A=some ad∧w.cell? (ad.add (i.toNat*4))=some (.int .i64 (rd_T52 xs i).f0)∧w.cell? ⟨(ad.add (i.toNat*4)).block,(ad.add (i.toNat*4)).off+1,none⟩=some (.int .i64 (rd_T52 xs i).f1)∧w.cell? ⟨(ad.add (i.toNat*4)).block,(ad.add (i.toNat*4)).off+2,none⟩=some (.int .i64 (rd_T52 xs i).f2)∧w.cell? ⟨(ad.add (i.toNat*4)).block,(ad.add (i.toNat*4)).off+3,none⟩=some (.int .i64 (rd_T52 xs i).f3):=by
 obtain⟨ad,c,e,_,hK,hc0⟩:=Kd.C_get h z52 i h0 h1
 have hc:∀j u,c[j]? = some u→w.cell? (ad.add (i.toNat*4+j))=some u:=hc0
 obtain rfl:=k52_open hK
 exact⟨ad,e,hc 0 _ rfl,by rw [←add_field _ _ 1 (by omega)];exact hc 1 _ rfl,by rw [←add_field _ _ 2 (by omega)];exact hc 2 _ rfl,by rw [←add_field _ _ 3 (by omega)];exact hc 3 _ rfl⟩
structure S54 where
 f0:Int
 f1:Int
 f2:Int
 f3:Int
def z54:S54:=⟨(0:Int),(0:Int),(0:Int),(0:Int)⟩
def k54:Kd S54:=Kd.iso (Kd.pair (Kd.int .i64) (Kd.pair (Kd.int .i64) (Kd.pair (Kd.int .i64) (Kd.int .i64)))) (fun x:S54=>(x.f0,x.f1,x.f2,x.f3))
theorem k54_open {w:World} {x:S54} {cs:List Value} (h:k54.K w x cs):cs = [.int .i64 x.f0,.int .i64 x.f1,.int .i64 x.f2,.int .i64 x.f3]:=by
 obtain⟨_,_,rfl,rfl,⟨_,_,rfl,rfl,⟨_,_,rfl,rfl,rfl⟩⟩⟩:=h
 exact rfl
theorem k54_mk (w:World) (x:S54)  : k54.K w x [.int .i64 x.f0,.int .i64 x.f1,.int .i64 x.f2,.int .i64 x.f3]:=⟨[.int .i64 x.f0],[.int .i64 x.f1,.int .i64 x.f2,.int .i64 x.f3],rfl,rfl,⟨[.int .i64 x.f1],[.int .i64 x.f2,.int .i64 x.f3],rfl,rfl,⟨[.int .i64 x.f2],[.int .i64 x.f3],rfl,rfl,rfl⟩⟩⟩
theorem k54_mkM (w:World) (base:Nat) (ok:Nat→Prop) (x:S54)  : k54.M w base ok x [.int .i64 x.f0,.int .i64 x.f1,.int .i64 x.f2,.int .i64 x.f3]:=⟨[.int .i64 x.f0],[.int .i64 x.f1,.int .i64 x.f2,.int .i64 x.f3],rfl,rfl,⟨[.int .i64 x.f1],[.int .i64 x.f2,.int .i64 x.f3],rfl,rfl,⟨[.int .i64 x.f2],[.int .i64 x.f3],rfl,rfl,rfl⟩⟩⟩
def rd_T54 (xs:List S54) (i:Int):S54:=xs.getD i.toNat z54
theorem at_T54 {w:World} {A:Option Addr} {n:Nat} {xs:List S54} (h:Kd.C k54 w A n xs) (i:Int) (h0:0≤i) (h1:i < n):∃ad,A=some ad∧w.cell? (ad.add (i.toNat*4))=some (.int .i64 (rd_T54 xs i).f0)∧w.cell? ⟨(ad.add (i.toNat*4)).block,(ad.add (i.toNat*4)).off+1,none⟩=some (.int .i64 (rd_T54 xs i).f1)∧w.cell? ⟨(ad.add (i.toNat*4)).block,(ad.add (i.toNat*4)).off+2,none⟩=some (.int .i64 (rd_T54 xs i).f2)∧w.cell? ⟨(ad.add (i.toNat*4)).block,(ad.add (i.toNat*4)).off+3,none⟩=some (.int .i64 (rd_T54 xs i).f3):=by
 obtain⟨ad,c,e,_,hK,hc0⟩:=Kd.C_get h z54 i h0 h1
 have hc:∀j u,c[j]? = some u→w.cell? (ad.add (i.toNat*4+j))=some u:=hc0
 obtain rfl:=k54_open hK
 exact⟨ad,e,hc 0 _ rfl,by rw [←add_field _ _ 1 (by omega)];exact hc 1 _ rfl,by rw [←add_field _ _ 2 (by omega)];exact hc 2 _ rfl,by rw [←add_field _ _ 3 (by omega)];exact hc 3 _ rfl⟩
structure S56 where
 f0:Int
 f1:Int
 f2:Int
def z56:S56:=⟨(0:Int),(0:Int),(0:Int)⟩
def k56:Kd S56:=Kd.iso (Kd.pair (Kd.int .i64) (Kd.pair (Kd.int .i64) (Kd.int .i64))) (fun x:S56=>(x.f0,x.f1,x.f2))
theorem k56_open {w:World} {x:S56} {cs:List Value} (h:k56.K w x cs):cs = [.int .i64 x.f0,.int .i64 x.f1,.int .i64 x.f2]:=by
 obtain⟨_,_,rfl,rfl,⟨_,_,rfl,rfl,rfl⟩⟩:=h
 exact rfl
theorem k56_mkM (w:World) (base:Nat) (ok:Nat→Prop) (x:S56)  : k56.M w base ok x [.int .i64 x.f0,.int .i64 x.f1,.int .i64 x.f2]:=⟨[.int .i64 x.f0],[.int .i64 x.f1,.int .i64 x.f2],rfl,rfl,⟨[.int .i64 x.f1],[.int .i64 x.f2],rfl,rfl,rfl⟩⟩
def rd_T56 (xs:List S56) (i:Int):S56:=xs.getD i.toNat z56
theorem at_T56 {w:World} {A:Option Addr} {n:Nat} {xs:List S56} (h:Kd.C k56 w A n xs) (i:Int) (h0:0≤i) (h1:i < n):∃ad,A=some ad∧w.cell? (ad.add (i.toNat*3))=some (.int .i64 (rd_T56 xs i).f0)∧w.cell? ⟨(ad.add (i.toNat*3)).block,(ad.add (i.toNat*3)).off+1,none⟩=some (.int .i64 (rd_T56 xs i).f1)∧w.cell? ⟨(ad.add (i.toNat*3)).block,(ad.add (i.toNat*3)).off+2,none⟩=some (.int .i64 (rd_T56 xs i).f2):=by
 obtain⟨ad,c,e,_,hK,hc0⟩:=Kd.C_get h z56 i h0 h1
 have hc:∀j u,c[j]? = some u→w.cell? (ad.add (i.toNat*3+j))=some u:=hc0
 obtain rfl:=k56_open hK
 exact⟨ad,e,hc 0 _ rfl,by rw [←add_field _ _ 1 (by omega)];exact hc 1 _ rfl,by rw [←add_field _ _ 2 (by omega)];exact hc 2 _ rfl⟩
structure S30 where
 f0:Int
 f1:Int
 f2:(List Int)
 f3:(List Int)
 f4:(List S52)
 f5:(List S54)
 f6:(List S56)
def k30:Kd S30:=Kd.iso (Kd.pair (Kd.int .i64) (Kd.pair (Kd.int .i64) (Kd.pair (Kd.slice 3 (Kd.int .i64)) (Kd.pair (Kd.slice 3 (Kd.int .i64)) (Kd.pair (Kd.slice 52 k52) (Kd.pair (Kd.slice 54 k54) (Kd.slice 56 k56))))))) (fun x:S30=>(x.f0,x.f1,x.f2,x.f3,x.f4,x.f5,x.f6))
structure S48 where
 f0:Int
 f1:(List Int)
def z48:S48:=⟨(0:Int),([]:List Int)⟩
def k48:Kd S48:=Kd.iso (Kd.pair (Kd.int .i64) (Kd.slice 3 (Kd.int .i64))) (fun x:S48=>(x.f0,x.f1))
theorem k48_open {w:World} {x:S48} {cs:List Value} (h:k48.K w x cs):∃A1 c1,cs = [.int .i64 x.f0,.slice A1 x.f1.length c1]∧x.f1.length≤c1∧(Kd.int .i64).C w A1 x.f1.length x.f1:=by
 obtain⟨_,_,rfl,rfl,⟨A1,c1,rfl,l1,g1⟩⟩:=h
 exact⟨A1,c1,rfl,l1,g1⟩
theorem k48_openM {w:World} {base:Nat} {ok:Nat→Prop} {x:S48} {cs:List Value} (h:k48.M w base ok x cs):∃v1,cs = [.int .i64 x.f0,v1]∧(Kd.int .i64).R 3 w base ok v1 x.f1:=by
 obtain⟨_,_,rfl,rfl,⟨v1,rfl,g1⟩⟩:=h
 exact⟨v1,rfl,g1⟩
theorem k48_mkM (w:World) (base:Nat) (ok:Nat→Prop) (x:S48) {v1:Value} (g1:(Kd.int .i64).R 3 w base ok v1 x.f1):k48.M w base ok x [.int .i64 x.f0,v1]:=⟨[.int .i64 x.f0],[v1],rfl,rfl,⟨v1,rfl,g1⟩⟩
theorem k48_openF {W:World} {ok:Nat→Prop} {x:S48} {cs:List Value} (h:Kd.FK k48 W ok x cs):∃A1 c1,cs = [.int .i64 x.f0,.slice A1 x.f1.length c1]∧x.f1.length≤c1∧Kd.F (Kd.int .i64) W ok A1 x.f1.length x.f1:=by
 obtain⟨A1,c1,rfl,l1,_⟩:=k48_open (Kd.FK_now h)
 exact⟨A1,c1,rfl,l1,(fun W' hW=>by obtain⟨A1_,c1_,he,l1_,g1_⟩:=k48_open (h W' hW);injection (Option.some.inj (show some (Value.slice A1 x.f1.length c1)=some (Value.slice A1_ x.f1.length c1_) from congrArg (fun l=>l[1]?) he)) with ha_ _ _;rw [ha_];exact g1_)⟩
def rd_T48 (xs:List S48) (i:Int):S48:=xs.getD i.toNat z48
theorem at_T48 {w:World} {A:Option Addr} {n:Nat} {xs:List S48} (h:Kd.C k48 w A n xs) (i:Int) (h0:0≤i) (h1:i < n):∃ad A1 c1,A=some ad∧w.cell? (ad.add (i.toNat*2))=some (.int .i64 (rd_T48 xs i).f0)∧w.cell? ⟨(ad.add (i.toNat*2)).block,(ad.add (i.toNat*2)).off+1,none⟩=some (.slice A1 (rd_T48 xs i).f1.length c1)∧(rd_T48 xs i).f1.length≤c1∧(Kd.int .i64).C w A1 (rd_T48 xs i).f1.length (rd_T48 xs i).f1:=by
 obtain⟨ad,c,e,_,hK,hc0⟩:=Kd.C_get h z48 i h0 h1
 have hc:∀j u,c[j]? = some u→w.cell? (ad.add (i.toNat*2+j))=some u:=hc0
 obtain⟨A1,c1,rfl,l1,g1⟩:=k48_open hK
 exact⟨ad,A1,c1,e,hc 0 _ rfl,by rw [←add_field _ _ 1 (by omega)];exact hc 1 _ rfl,l1,g1⟩
structure S67 where
 f0:Int
 f1:(List Int)
def z67:S67:=⟨(0:Int),([]:List Int)⟩
def k67:Kd S67:=Kd.iso (Kd.pair (Kd.int .i64) (Kd.slice 3 (Kd.int .i64))) (fun x:S67=>(x.f0,x.f1))
theorem k67_open {w:World} {x:S67} {cs:List Value} (h:k67.K w x cs):∃A1 c1,cs = [.int .i64 x.f0,.slice A1 x.f1.length c1]∧x.f1.length≤c1∧(Kd.int .i64).C w A1 x.f1.length x.f1:=by
 obtain⟨_,_,rfl,rfl,⟨A1,c1,rfl,l1,g1⟩⟩:=h
 exact⟨A1,c1,rfl,l1,g1⟩
theorem k67_mk (w:World) (x:S67) {A1:Option Addr} {c1:Nat} (l1:x.f1.length≤c1) (g1:(Kd.int .i64).C w A1 x.f1.length x.f1):k67.K w x [.int .i64 x.f0,.slice A1 x.f1.length c1]:=⟨[.int .i64 x.f0],[.slice A1 x.f1.length c1],rfl,rfl,⟨A1,c1,rfl,l1,g1⟩⟩
theorem k67_mkM (w:World) (base:Nat) (ok:Nat→Prop) (x:S67) {v1:Value} (g1:(Kd.int .i64).R 3 w base ok v1 x.f1):k67.M w base ok x [.int .i64 x.f0,v1]:=⟨[.int .i64 x.f0],[v1],rfl,rfl,⟨v1,rfl,g1⟩⟩
theorem k67_mkF (W:World) (ok:Nat→Prop) (x:S67) {A1:Option Addr} {c1:Nat} (l1:x.f1.length≤c1) (g1:Kd.F (Kd.int .i64) W ok A1 x.f1.length x.f1):Kd.FK k67 W ok x [.int .i64 x.f0,.slice A1 x.f1.length c1]:=fun W2 hW=>k67_mk W2 x l1 (g1 W2 hW)
def rd_T67 (xs:List S67) (i:Int):S67:=xs.getD i.toNat z67
theorem at_T67 {w:World} {A:Option Addr} {n:Nat} {xs:List S67} (h:Kd.C k67 w A n xs) (i:Int) (h0:0≤i) (h1:i < n):∃ad A1 c1,A=some ad∧w.cell? (ad.add (i.toNat*2))=some (.int .i64 (rd_T67 xs i).f0)∧w.cell? ⟨(ad.add (i.toNat*2)).block,(ad.add (i.toNat*2)).off+1,none⟩=some (.slice A1 (rd_T67 xs i).f1.length c1)∧(rd_T67 xs i).f1.length≤c1∧(Kd.int .i64).C w A1 (rd_T67 xs i).f1.length (rd_T67 xs i).f1:=by
 obtain⟨ad,c,e,_,hK,hc0⟩:=Kd.C_get h z67 i h0 h1
 have hc:∀j u,c[j]? = some u→w.cell? (ad.add (i.toNat*2+j))=some u:=hc0
 obtain⟨A1,c1,rfl,l1,g1⟩:=k67_open hK
 exact⟨ad,A1,c1,e,hc 0 _ rfl,by rw [←add_field _ _ 1 (by omega)];exact hc 1 _ rfl,l1,g1⟩
end Go.Proofs.Ytjkhdldgmkkhjaa.P
end
section
namespace Go.Proofs.Ytjkhdldgmkkhjaa.P
open Go.RowKit Go.Proofs.YtjkhdldgmkkhjaaW.PrintWords Go.Proofs.YtjkhdldgmkkhjaaW.PrintLast Go.Proofs.YtjkhdldgmkkhjaaW.PrintMore
attribute [local go_sem] max2_int min2_int max_two min_two max_three min_three max_four min_four   -- for this text's walks alone
def cmp_Or_int.l0:Nat→Int→List Int→Int→Int→Option (Int)
 | 0,_,_,_,_=>none
 | k+1,x3,x6,x7,x8=>if x8 < x7 then (if 0≤x8 then (if x8 < (x6.length:Int) then (if (rd x6 x8)=x3 then (cmp_Or_int.l0 k x3 x6 x7 (wrap64 (x8+1))) else (some (rd x6 x8))) else (none)) else (none)) else (some x3)
def cmp_Or_int.f (k:Nat) (l0:List Int):Option (Int):=cmp_Or_int.l0 k 0 l0 (l0.length:Int) 0
theorem cmp_Or_int.mono_l:∀k,(∀y0 y1 y2 y3,LeO (cmp_Or_int.l0 k y0 y1 y2 y3) (cmp_Or_int.l0 (k+1) y0 y1 y2 y3))
 | 0=>fun _ _ _ _ r h=>by simp [cmp_Or_int.l0] at h
 | k+1=>by
  have ih0:=cmp_Or_int.mono_l k
  intro y0 y1 y2 y3
  unfold cmp_Or_int.l0
  repeat' first
  | (with_reducible exact ih0 _ _ _ _)
  | (with_reducible exact LeO.refl _)
  | (with_reducible exact LeO.none _)
  | (with_reducible refine LeO.ite ?_ ?_)
  | (with_reducible refine LeO.bind ?_ (fun _=>?_))
  | exact ih0 _ _ _ _
  | exact LeO.none _
  | refine LeO.ite ?_ ?_
  | refine LeO.bind ?_ (fun _=>?_)
theorem cmp_Or_int.mono:∀a0 k,LeO (cmp_Or_int.f k a0) (cmp_Or_int.f (k+1) a0):=by
 intro a0 k
 have ih0:=cmp_Or_int.mono_l k
 unfold cmp_Or_int.f
 repeat' first
  | (with_reducible exact ih0 _ _ _ _)
  | (with_reducible exact LeO.refl _)
  | (with_reducible exact LeO.none _)
  | (with_reducible refine LeO.ite ?_ ?_)
  | (with_reducible refine LeO.bind ?_ (fun _=>?_))
  | exact ih0 _ _ _ _
  | exact LeO.none _
  | refine LeO.ite ?_ ?_
  | refine LeO.bind ?_ (fun _=>?_)
set_option maxHeartbeats 8000000 in
set_option maxRecDepth 100000 in
theorem cmp_Or_int.calls (k:Nat) (A0:Option Addr) (c0:Nat) (l0:List Int) (r:Int) (w:World) (hr0:Kd.C (Kd.int .i64) w A0 l0.length l0) (hc0:l0.length≤c0) (h:cmp_Or_int.f k l0=some r) :
 Calls Try.prog 58 #[.slice A0 l0.length c0] w fun e w'=>e=.returned (.int .i64 r)∧Drawn0 w w':=by
 have HR0:=Aside0.mk hr0
 have HC0:=Aside0.mk hc0
 clear hr0 hc0
 have H:(cmp_Or_int.l0 k 0 l0 (l0.length:Int) 0)=some r:=h
 clear h
 have H':=Aside0.mk H
 clear H
 go_enter Try.func58,Try.ntmps58
 go_wp2
 go_loopg [8] k (fun kq v8 w'=>∃(x8_1:Int),v8=.int .i64 x8_1∧Aside0 (cmp_Or_int.l0 kq 0 l0 (l0.length:Int) x8_1=some r)∧Aside0 (kq≤k)∧Drawn0 w w')
 case atStart=>exact⟨(0),(by first|rfl|(simp;done)|(simp [*];done)),H',⟨Nat.le_refl _⟩,by repeat (first|exact Drawn0.refl _|apply Drawn0.step)⟩
 case' round=>skip
 clear H'
 obtain⟨x8_1,rfl,HA,HK1,⟨m1,rfl⟩⟩:=hrel
 cases gk with
 | zero=>exact absurd HA.out (by simp [cmp_Or_int.l0])
 | succ k1=>
  have H:=HA.out
  clear HA
  simp only [cmp_Or_int.l0] at H
  by_cases c2:x8_1 < (l0.length:Int)
  ·rw [if_pos c2] at H
   have c2b0:decide (x8_1 < (l0.length:Int))=true:=decide_eq_true c2
   clear c2
   by_cases c3:0≤x8_1
   ·rw [if_pos c3] at H
    have c3b0:decide (0≤x8_1)=true:=decide_eq_true c3
    clear c3
    by_cases c4:x8_1 < (l0.length:Int)
    ·rw [if_pos c4] at H
     have c4b0:decide (x8_1 < (l0.length:Int))=true:=decide_eq_true c4
     clear c4
     by_cases c5:(rd l0 x8_1)=0
     ·rw [if_pos c5] at H
      have c5b0:((rd l0 x8_1) == 0)=true:=beq_iff_eq.mpr c5
      have c5b1:((rd l0 x8_1) != 0)=false:=bne_eq_false_iff_eq.mpr c5
      clear c5
      have H':=Aside0.mk H
      clear H
      have p104:0≤(x8_1:Int):=of_decide_eq_true (by first|(with_reducible assumption)|assumption)
      have q104:x8_1 < (l0.length:Int):=of_decide_eq_true (by first|(with_reducible assumption)|assumption)
      obtain⟨ad104,e104,hx104_0⟩:=Kd.at_int HR0.out x8_1 p104 q104
      cases e104
      replace p104:=eq_true p104
      replace q104:=eq_true q104
      go_wp2
      go_roundg k1
      case measure=>have:=HK1.out;omega
      case rel=>exact⟨(wrap64 (x8_1+1)),(by first|rfl|(simp;done)|(simp [*];done)),H',⟨by have:=HK1.out;omega⟩,by repeat (first|exact Drawn0.refl _|apply Drawn0.step)⟩
     rw [if_neg c5] at H
     have c5b0:((rd l0 x8_1) == 0)=false:=beq_eq_false_iff_ne.mpr c5
     have c5b1:((rd l0 x8_1) != 0)=true:=bne_iff_ne.mpr c5
     obtain rfl:=Option.some.inj H
     have p104:0≤(x8_1:Int):=of_decide_eq_true (by first|(with_reducible assumption)|assumption)
     have q104:x8_1 < (l0.length:Int):=of_decide_eq_true (by first|(with_reducible assumption)|assumption)
     obtain⟨ad104,e104,hx104_0⟩:=Kd.at_int HR0.out x8_1 p104 q104
     cases e104
     replace p104:=eq_true p104
     replace q104:=eq_true q104
     go_wp2
     go_ret
     exact⟨by first|rfl|(simp;done)|(simp [*];done),by repeat (first|exact Drawn0.refl _|apply Drawn0.step)⟩
    rw [if_neg c4] at H
    exact absurd H (by simp)
   rw [if_neg c3] at H
   exact absurd H (by simp)
  rw [if_neg c2] at H
  have c2b0:decide (x8_1 < (l0.length:Int))=false:=decide_eq_false c2
  clear c2
  obtain rfl:=Option.some.inj H
  go_wp2
  go_ret
  exact⟨by first|rfl|(simp;done)|(simp [*];done),by repeat (first|exact Drawn0.refl _|apply Drawn0.step)⟩
end Go.Proofs.Ytjkhdldgmkkhjaa.P
end
section
namespace Go.Proofs.Ytjkhdldgmkkhjaa.P
open Go.RowKit Go.Proofs.YtjkhdldgmkkhjaaW.PrintWords Go.Proofs.YtjkhdldgmkkhjaaW.PrintLast Go.Proofs.YtjkhdldgmkkhjaaW.PrintMore
attribute [local go_sem] max2_int min2_int max_two min_two max_three min_three max_four min_four   -- for this text's walks alone
def cmp_isNaN_int.f (a0:Int):Option (Bool):=some (a0 != a0)
set_option maxHeartbeats 8000000 in
set_option maxRecDepth 100000 in
theorem cmp_isNaN_int.calls (a0:Int) (r:Bool) (w:World) (h:cmp_isNaN_int.f a0=some r) :
 Calls Try.prog 73 #[.int .i64 a0] w fun e w'=>e=.returned (.bool r)∧Drawn0 w w':=by
 have H:(some (a0 != a0))=some r:=h
 clear h
 obtain rfl:=Option.some.inj H
 go_enter Try.func73,Try.ntmps73
 go_wp2
 go_ret
 exact⟨by first|rfl|(simp;done)|(simp [*];done),by repeat (first|exact Drawn0.refl _|apply Drawn0.step)⟩
end Go.Proofs.Ytjkhdldgmkkhjaa.P
end
section
namespace Go.Proofs.Ytjkhdldgmkkhjaa.P
open Go.RowKit Go.Proofs.YtjkhdldgmkkhjaaW.PrintWords Go.Proofs.YtjkhdldgmkkhjaaW.PrintLast Go.Proofs.YtjkhdldgmkkhjaaW.PrintMore
attribute [local go_sem] max2_int min2_int max_two min_two max_three min_three max_four min_four   -- for this text's walks alone
def cmp_Compare_int.f (a0:Int) (a1:Int):Option (Int):=(cmp_isNaN_int.f a0).bind fun t105=>((cmp_isNaN_int.f a1).bind fun t106=>(if t105=true then (if t106=true then (some 0) else (some (-1))) else (if t106=true then (some 1) else (if a0 < a1 then (some (-1)) else (if a0 > a1 then (some 1) else (some 0))))))
set_option maxHeartbeats 8000000 in
set_option maxRecDepth 100000 in
theorem cmp_Compare_int.calls (a0:Int) (a1:Int) (r:Int) (w:World) (h:cmp_Compare_int.f a0 a1=some r) :
 Calls Try.prog 59 #[.int .i64 a0,.int .i64 a1] w fun e w'=>e=.returned (.int .i64 r)∧Drawn0 w w':=by
 have H:((cmp_isNaN_int.f a0).bind fun t105=>((cmp_isNaN_int.f a1).bind fun t106=>(if t105=true then (if t106=true then (some 0) else (some (-1))) else (if t106=true then (some 1) else (if a0 < a1 then (some (-1)) else (if a0 > a1 then (some 1) else (some 0)))))))=some r:=h
 clear h
 replace H:=Option.bind_eq_some_iff.mp H
 obtain⟨t105,A30,H⟩:=H
 replace H:((cmp_isNaN_int.f a1).bind fun t106=>(if t105=true then (if t106=true then (some 0) else (some (-1))) else (if t106=true then (some 1) else (if a0 < a1 then (some (-1)) else (if a0 > a1 then (some 1) else (some 0))))))=some r:=H
 have A3:=Aside0.mk A30
 clear A30
 replace H:=Option.bind_eq_some_iff.mp H
 obtain⟨t106,A40,H⟩:=H
 replace H:(if t105=true then (if t106=true then (some 0) else (some (-1))) else (if t106=true then (some 1) else (if a0 < a1 then (some (-1)) else (if a0 > a1 then (some 1) else (some 0)))))=some r:=H
 have A4:=Aside0.mk A40
 clear A40
 by_cases c5:t105=true
 ·subst c5
  have H1:(if t106=true then (some 0) else (some (-1)))=some r:=by rw [if_pos rfl] at H;exact H
  clear H
  have H:=H1
  clear H1
  by_cases c6:t106=true
  ·subst c6
   have H1:(some 0)=some r:=by rw [if_pos rfl] at H;exact H
   clear H
   have H:=H1
   clear H1
   obtain rfl:=Option.some.inj H
   go_enter Try.func59,Try.ntmps59
   go_wp2_with (first|((with_reducible refine gate_callee (f:=73) rfl ?_);refine goesL_ (some 8) rfl rfl Try.func73 (by kernel_rfl) rfl #[.int .i64 a0] rfl (by(try simp only [List.map_toArray,List.map_cons,List.map_nil]);first|done|rfl|(simp only [List.length_drop,List.length_take];rfl)) ?_;(with_reducible refine(cmp_isNaN_int.calls a0 true _ A3.out).mono ?_);rintro e w' ⟨rfl,⟨nd,rfl⟩⟩;refine⟨_,rfl,?_⟩)|((with_reducible refine gate_callee (f:=73) rfl ?_);refine goesL_ (some 10) rfl rfl Try.func73 (by kernel_rfl) rfl #[.int .i64 a1] rfl (by(try simp only [List.map_toArray,List.map_cons,List.map_nil]);first|done|rfl|(simp only [List.length_drop,List.length_take];rfl)) ?_;(with_reducible refine(cmp_isNaN_int.calls a1 true _ A4.out).mono ?_);rintro e w' ⟨rfl,⟨nd,rfl⟩⟩;refine⟨_,rfl,?_⟩))
   go_ret
   exact⟨by first|rfl|(simp;done)|(simp [*];done),by repeat (first|exact Drawn0.refl _|apply Drawn0.step)⟩
  replace c6 := Bool.eq_false_iff.mpr c6
  subst c6
  have H1:(some (-1))=some r:=by rw [if_neg (show ¬(false=true) by decide)] at H;exact H
  clear H
  have H:=H1
  clear H1
  obtain rfl:=Option.some.inj H
  go_enter Try.func59,Try.ntmps59
  go_wp2_with (first|((with_reducible refine gate_callee (f:=73) rfl ?_);refine goesL_ (some 8) rfl rfl Try.func73 (by kernel_rfl) rfl #[.int .i64 a0] rfl (by(try simp only [List.map_toArray,List.map_cons,List.map_nil]);first|done|rfl|(simp only [List.length_drop,List.length_take];rfl)) ?_;(with_reducible refine(cmp_isNaN_int.calls a0 true _ A3.out).mono ?_);rintro e w' ⟨rfl,⟨nd,rfl⟩⟩;refine⟨_,rfl,?_⟩)|((with_reducible refine gate_callee (f:=73) rfl ?_);refine goesL_ (some 10) rfl rfl Try.func73 (by kernel_rfl) rfl #[.int .i64 a1] rfl (by(try simp only [List.map_toArray,List.map_cons,List.map_nil]);first|done|rfl|(simp only [List.length_drop,List.length_take];rfl)) ?_;(with_reducible refine(cmp_isNaN_int.calls a1 false _ A4.out).mono ?_);rintro e w' ⟨rfl,⟨nd,rfl⟩⟩;refine⟨_,rfl,?_⟩))
  go_ret
  exact⟨by first|rfl|(simp;done)|(simp [*];done),by repeat (first|exact Drawn0.refl _|apply Drawn0.step)⟩
 replace c5 := Bool.eq_false_iff.mpr c5
 subst c5
 have H1:(if t106=true then (some 1) else (if a0 < a1 then (some (-1)) else (if a0 > a1 then (some 1) else (some 0))))=some r:=by rw [if_neg (show ¬(false=true) by decide)] at H;exact H
 clear H
 have H:=H1
 clear H1
 by_cases c7:t106=true
 ·subst c7
  have H1:(some 1)=some r:=by rw [if_pos rfl] at H;exact H
  clear H
  have H:=H1
  clear H1
  obtain rfl:=Option.some.inj H
  go_enter Try.func59,Try.ntmps59
  go_wp2_with (first|((with_reducible refine gate_callee (f:=73) rfl ?_);refine goesL_ (some 8) rfl rfl Try.func73 (by kernel_rfl) rfl #[.int .i64 a0] rfl (by(try simp only [List.map_toArray,List.map_cons,List.map_nil]);first|done|rfl|(simp only [List.length_drop,List.length_take];rfl)) ?_;(with_reducible refine(cmp_isNaN_int.calls a0 false _ A3.out).mono ?_);rintro e w' ⟨rfl,⟨nd,rfl⟩⟩;refine⟨_,rfl,?_⟩)|((with_reducible refine gate_callee (f:=73) rfl ?_);refine goesL_ (some 10) rfl rfl Try.func73 (by kernel_rfl) rfl #[.int .i64 a1] rfl (by(try simp only [List.map_toArray,List.map_cons,List.map_nil]);first|done|rfl|(simp only [List.length_drop,List.length_take];rfl)) ?_;(with_reducible refine(cmp_isNaN_int.calls a1 true _ A4.out).mono ?_);rintro e w' ⟨rfl,⟨nd,rfl⟩⟩;refine⟨_,rfl,?_⟩))
  go_ret
  exact⟨by first|rfl|(simp;done)|(simp [*];done),by repeat (first|exact Drawn0.refl _|apply Drawn0.step)⟩
 replace c7 := Bool.eq_false_iff.mpr c7
 subst c7
 have H1:(if a0 < a1 then (some (-1)) else (if a0 > a1 then (some 1) else (some 0)))=some r:=by rw [if_neg (show ¬(false=true) by decide)] at H;exact H
 clear H
 have H:=H1
 clear H1
 by_cases c8:a0 < a1
 ·rw [if_pos c8] at H
  have c8b0:decide (a0 < a1)=true:=decide_eq_true c8
  clear c8
  obtain rfl:=Option.some.inj H
  go_enter Try.func59,Try.ntmps59
  go_wp2_with (first|((with_reducible refine gate_callee (f:=73) rfl ?_);refine goesL_ (some 8) rfl rfl Try.func73 (by kernel_rfl) rfl #[.int .i64 a0] rfl (by(try simp only [List.map_toArray,List.map_cons,List.map_nil]);first|done|rfl|(simp only [List.length_drop,List.length_take];rfl)) ?_;(with_reducible refine(cmp_isNaN_int.calls a0 false _ A3.out).mono ?_);rintro e w' ⟨rfl,⟨nd,rfl⟩⟩;refine⟨_,rfl,?_⟩)|((with_reducible refine gate_callee (f:=73) rfl ?_);refine goesL_ (some 10) rfl rfl Try.func73 (by kernel_rfl) rfl #[.int .i64 a1] rfl (by(try simp only [List.map_toArray,List.map_cons,List.map_nil]);first|done|rfl|(simp only [List.length_drop,List.length_take];rfl)) ?_;(with_reducible refine(cmp_isNaN_int.calls a1 false _ A4.out).mono ?_);rintro e w' ⟨rfl,⟨nd,rfl⟩⟩;refine⟨_,rfl,?_⟩))
  go_ret
  exact⟨by first|rfl|(simp;done)|(simp [*];done),by repeat (first|exact Drawn0.refl _|apply Drawn0.step)⟩
 rw [if_neg c8] at H
 have c8b0:decide (a0 < a1)=false:=decide_eq_false c8
 clear c8
 by_cases c9:a0 > a1
 ·rw [if_pos c9] at H
  have c9b0:decide (a1 < a0)=true:=decide_eq_true c9
  clear c9
  obtain rfl:=Option.some.inj H
  go_enter Try.func59,Try.ntmps59
  go_wp2_with (first|((with_reducible refine gate_callee (f:=73) rfl ?_);refine goesL_ (some 8) rfl rfl Try.func73 (by kernel_rfl) rfl #[.int .i64 a0] rfl (by(try simp only [List.map_toArray,List.map_cons,List.map_nil]);first|done|rfl|(simp only [List.length_drop,List.length_take];rfl)) ?_;(with_reducible refine(cmp_isNaN_int.calls a0 false _ A3.out).mono ?_);rintro e w' ⟨rfl,⟨nd,rfl⟩⟩;refine⟨_,rfl,?_⟩)|((with_reducible refine gate_callee (f:=73) rfl ?_);refine goesL_ (some 10) rfl rfl Try.func73 (by kernel_rfl) rfl #[.int .i64 a1] rfl (by(try simp only [List.map_toArray,List.map_cons,List.map_nil]);first|done|rfl|(simp only [List.length_drop,List.length_take];rfl)) ?_;(with_reducible refine(cmp_isNaN_int.calls a1 false _ A4.out).mono ?_);rintro e w' ⟨rfl,⟨nd,rfl⟩⟩;refine⟨_,rfl,?_⟩))
  go_ret
  exact⟨by first|rfl|(simp;done)|(simp [*];done),by repeat (first|exact Drawn0.refl _|apply Drawn0.step)⟩
 rw [if_neg c9] at H
 have c9b0:decide (a1 < a0)=false:=decide_eq_false c9
 clear c9
 obtain rfl:=Option.some.inj H
 go_enter Try.func59,Try.ntmps59
 go_wp2_with (first|((with_reducible refine gate_callee (f:=73) rfl ?_);refine goesL_ (some 8) rfl rfl Try.func73 (by kernel_rfl) rfl #[.int .i64 a0] rfl (by(try simp only [List.map_toArray,List.map_cons,List.map_nil]);first|done|rfl|(simp only [List.length_drop,List.length_take];rfl)) ?_;(with_reducible refine(cmp_isNaN_int.calls a0 false _ A3.out).mono ?_);rintro e w' ⟨rfl,⟨nd,rfl⟩⟩;refine⟨_,rfl,?_⟩)|((with_reducible refine gate_callee (f:=73) rfl ?_);refine goesL_ (some 10) rfl rfl Try.func73 (by kernel_rfl) rfl #[.int .i64 a1] rfl (by(try simp only [List.map_toArray,List.map_cons,List.map_nil]);first|done|rfl|(simp only [List.length_drop,List.length_take];rfl)) ?_;(with_reducible refine(cmp_isNaN_int.calls a1 false _ A4.out).mono ?_);rintro e w' ⟨rfl,⟨nd,rfl⟩⟩;refine⟨_,rfl,?_⟩))
 go_ret
 exact⟨by first|rfl|(simp;done)|(simp [*];done),by repeat (first|exact Drawn0.refl _|apply Drawn0.step)⟩
end Go.Proofs.Ytjkhdldgmkkhjaa.P
end
section
namespace Go.Proofs.Ytjkhdldgmkkhjaa.P
open Go.RowKit Go.Proofs.YtjkhdldgmkkhjaaW.PrintWords Go.Proofs.YtjkhdldgmkkhjaaW.PrintLast Go.Proofs.YtjkhdldgmkkhjaaW.PrintMore
attribute [local go_sem] max2_int min2_int max_two min_two max_three min_three max_four min_four   -- for this text's walks alone
def slices_Compare_int_int.l0:Nat→List Int→List Int→List Int→Int→Int→Option (Int)
 | 0,_,_,_,_,_=>none
 | k+1,x0,x1,x9,x10,x11=>if x11 < x10 then (if 0≤x11 then (if x11 < (x9.length:Int) then (if x11≥(x1.length:Int) then (some 1) else (if x11 < (x1.length:Int) then ((cmp_Compare_int.f (rd x9 x11) (rd x1 x11)).bind fun t109=>(if t109=0 then (slices_Compare_int_int.l0 k x0 x1 x9 x10 (wrap64 (x11+1))) else (some t109))) else (none))) else (none)) else (none)) else (if (x0.length:Int) < (x1.length:Int) then (some (-1)) else (some 0))
def slices_Compare_int_int.f (k:Nat) (l0:List Int) (l1:List Int):Option (Int):=slices_Compare_int_int.l0 k l0 l1 l0 (l0.length:Int) 0
theorem slices_Compare_int_int.mono_l:∀k,(∀y0 y1 y2 y3 y4,LeO (slices_Compare_int_int.l0 k y0 y1 y2 y3 y4) (slices_Compare_int_int.l0 (k+1) y0 y1 y2 y3 y4))
 | 0=>fun _ _ _ _ _ r h=>by simp [slices_Compare_int_int.l0] at h
 | k+1=>by
  have ih0:=slices_Compare_int_int.mono_l k
  intro y0 y1 y2 y3 y4
  unfold slices_Compare_int_int.l0
  repeat' first
  | (with_reducible exact ih0 _ _ _ _ _)
  | (with_reducible exact LeO.refl _)
  | (with_reducible exact LeO.none _)
  | (with_reducible refine LeO.ite ?_ ?_)
  | (with_reducible refine LeO.bind ?_ (fun _=>?_))
  | exact ih0 _ _ _ _ _
  | exact LeO.none _
  | refine LeO.ite ?_ ?_
  | refine LeO.bind ?_ (fun _=>?_)
theorem slices_Compare_int_int.mono:∀a0 a1 k,LeO (slices_Compare_int_int.f k a0 a1) (slices_Compare_int_int.f (k+1) a0 a1):=by
 intro a0 a1 k
 have ih0:=slices_Compare_int_int.mono_l k
 unfold slices_Compare_int_int.f
 repeat' first
  | (with_reducible exact ih0 _ _ _ _ _)
  | (with_reducible exact LeO.refl _)
  | (with_reducible exact LeO.none _)
  | (with_reducible refine LeO.ite ?_ ?_)
  | (with_reducible refine LeO.bind ?_ (fun _=>?_))
  | exact ih0 _ _ _ _ _
  | exact LeO.none _
  | refine LeO.ite ?_ ?_
  | refine LeO.bind ?_ (fun _=>?_)
set_option maxHeartbeats 8000000 in
set_option maxRecDepth 100000 in
theorem slices_Compare_int_int.calls (k:Nat) (A0:Option Addr) (c0:Nat) (l0:List Int) (A1:Option Addr) (c1:Nat) (l1:List Int) (r:Int) (w:World) (hr0:Kd.C (Kd.int .i64) w A0 l0.length l0) (hc0:l0.length≤c0) (hr1:Kd.C (Kd.int .i64) w A1 l1.length l1) (hc1:l1.length≤c1) (h:slices_Compare_int_int.f k l0 l1=some r) :
 Calls Try.prog 60 #[.slice A0 l0.length c0,.slice A1 l1.length c1] w fun e w'=>e=.returned (.int .i64 r)∧Drawn0 w w':=by
 have HR0:=Aside0.mk hr0
 have HC0:=Aside0.mk hc0
 clear hr0 hc0
 have HR1:=Aside0.mk hr1
 have HC1:=Aside0.mk hc1
 clear hr1 hc1
 have H:(slices_Compare_int_int.l0 k l0 l1 l0 (l0.length:Int) 0)=some r:=h
 clear h
 have H':=Aside0.mk H
 clear H
 go_enter Try.func60,Try.ntmps60
 go_wp2
 go_loopg [11] k (fun kq v11 w'=>∃(x11_1:Int),v11=.int .i64 x11_1∧Aside0 (slices_Compare_int_int.l0 kq l0 l1 l0 (l0.length:Int) x11_1=some r)∧Aside0 (kq≤k)∧Drawn0 w w')
 case atStart=>exact⟨(0),(by first|rfl|(simp;done)|(simp [*];done)),H',⟨Nat.le_refl _⟩,by repeat (first|exact Drawn0.refl _|apply Drawn0.step)⟩
 case' round=>skip
 clear H'
 try clear c1
 try clear p2
 obtain⟨x11_1,rfl,HA,HK1,⟨m1,rfl⟩⟩:=hrel
 cases gk with
 | zero=>exact absurd HA.out (by simp [slices_Compare_int_int.l0])
 | succ k1=>
  have H:=HA.out
  clear HA
  simp only [slices_Compare_int_int.l0] at H
  by_cases c3:x11_1 < (l0.length:Int)
  ·rw [if_pos c3] at H
   have c3b0:decide (x11_1 < (l0.length:Int))=true:=decide_eq_true c3
   clear c3
   by_cases c4:0≤x11_1
   ·rw [if_pos c4] at H
    have c4b0:decide (0≤x11_1)=true:=decide_eq_true c4
    clear c4
    by_cases c5:x11_1 < (l0.length:Int)
    ·rw [if_pos c5] at H
     have c5b0:decide (x11_1 < (l0.length:Int))=true:=decide_eq_true c5
     clear c5
     by_cases c6:x11_1≥(l1.length:Int)
     ·rw [if_pos c6] at H
      have c6b0:decide ((l1.length:Int)≤x11_1)=true:=decide_eq_true c6
      clear c6
      obtain rfl:=Option.some.inj H
      have p107:0≤(x11_1:Int):=of_decide_eq_true (by first|(with_reducible assumption)|assumption)
      have q107:x11_1 < (l0.length:Int):=of_decide_eq_true (by first|(with_reducible assumption)|assumption)
      obtain⟨ad107,e107,hx107_0⟩:=Kd.at_int HR0.out x11_1 p107 q107
      cases e107
      replace p107:=eq_true p107
      replace q107:=eq_true q107
      go_wp2
      go_ret
      exact⟨by first|rfl|(simp;done)|(simp [*];done),by repeat (first|exact Drawn0.refl _|apply Drawn0.step)⟩
     rw [if_neg c6] at H
     have c6b0:decide ((l1.length:Int)≤x11_1)=false:=decide_eq_false c6
     clear c6
     by_cases c7:x11_1 < (l1.length:Int)
     ·rw [if_pos c7] at H
      have c7b0:decide (x11_1 < (l1.length:Int))=true:=decide_eq_true c7
      clear c7
      replace H:=Option.bind_eq_some_iff.mp H
      obtain⟨t109,A80,H⟩:=H
      replace H:(if t109=0 then (slices_Compare_int_int.l0 k1 l0 l1 l0 (l0.length:Int) (wrap64 (x11_1+1))) else (some t109))=some r:=H
      have A8:=Aside0.mk A80
      clear A80
      by_cases c9:t109=0
      ·rw [if_pos c9] at H
       have c9b0:(t109 == 0)=true:=beq_iff_eq.mpr c9
       have c9b1:(t109 != 0)=false:=bne_eq_false_iff_eq.mpr c9
       clear c9
       have H':=Aside0.mk H
       clear H
       have p107:0≤(x11_1:Int):=of_decide_eq_true (by first|(with_reducible assumption)|assumption)
       have q107:x11_1 < (l0.length:Int):=of_decide_eq_true (by first|(with_reducible assumption)|assumption)
       obtain⟨ad107,e107,hx107_0⟩:=Kd.at_int HR0.out x11_1 p107 q107
       cases e107
       replace p107:=eq_true p107
       replace q107:=eq_true q107
       have p108:0≤(x11_1:Int):=of_decide_eq_true (by first|(with_reducible assumption)|assumption)
       have q108:x11_1 < (l1.length:Int):=of_decide_eq_true (by first|(with_reducible assumption)|assumption)
       obtain⟨ad108,e108,hx108_0⟩:=Kd.at_int HR1.out x11_1 p108 q108
       cases e108
       replace p108:=eq_true p108
       replace q108:=eq_true q108
       go_wp2_with (first|((with_reducible refine gate_callee (f:=59) rfl ?_);refine goesL_ (some 26) rfl rfl Try.func59 (by kernel_rfl) rfl #[.int .i64 (rd l0 x11_1),.int .i64 (rd l1 x11_1)] rfl (by(try simp only [List.map_toArray,List.map_cons,List.map_nil]);first|done|rfl|(simp only [List.length_drop,List.length_take];rfl)) ?_;(with_reducible refine(cmp_Compare_int.calls (rd l0 x11_1) (rd l1 x11_1) t109 _ A8.out).mono ?_);rintro e w' ⟨rfl,⟨nd,rfl⟩⟩;refine⟨_,rfl,?_⟩))
       go_roundg k1
       case measure=>have:=HK1.out;omega
       case rel=>exact⟨(wrap64 (x11_1+1)),(by first|rfl|(simp;done)|(simp [*];done)),H',⟨by have:=HK1.out;omega⟩,by repeat (first|exact Drawn0.refl _|apply Drawn0.step)⟩
      rw [if_neg c9] at H
      have c9b0:(t109 == 0)=false:=beq_eq_false_iff_ne.mpr c9
      have c9b1:(t109 != 0)=true:=bne_iff_ne.mpr c9
      obtain rfl:=Option.some.inj H
      have p107:0≤(x11_1:Int):=of_decide_eq_true (by first|(with_reducible assumption)|assumption)
      have q107:x11_1 < (l0.length:Int):=of_decide_eq_true (by first|(with_reducible assumption)|assumption)
      obtain⟨ad107,e107,hx107_0⟩:=Kd.at_int HR0.out x11_1 p107 q107
      cases e107
      replace p107:=eq_true p107
      replace q107:=eq_true q107
      have p108:0≤(x11_1:Int):=of_decide_eq_true (by first|(with_reducible assumption)|assumption)
      have q108:x11_1 < (l1.length:Int):=of_decide_eq_true (by first|(with_reducible assumption)|assumption)
      obtain⟨ad108,e108,hx108_0⟩:=Kd.at_int HR1.out x11_1 p108 q108
      cases e108
      replace p108:=eq_true p108
      replace q108:=eq_true q108
      go_wp2_with (first|((with_reducible refine gate_callee (f:=59) rfl ?_);refine goesL_ (some 26) rfl rfl Try.func59 (by kernel_rfl) rfl #[.int .i64 (rd l0 x11_1),.int .i64 (rd l1 x11_1)] rfl (by(try simp only [List.map_toArray,List.map_cons,List.map_nil]);first|done|rfl|(simp only [List.length_drop,List.length_take];rfl)) ?_;(with_reducible refine(cmp_Compare_int.calls (rd l0 x11_1) (rd l1 x11_1) t109 _ A8.out).mono ?_);rintro e w' ⟨rfl,⟨nd,rfl⟩⟩;refine⟨_,rfl,?_⟩))
      go_ret
      exact⟨by first|rfl|(simp;done)|(simp [*];done),by repeat (first|exact Drawn0.refl _|apply Drawn0.step)⟩
     rw [if_neg c7] at H
     exact absurd H (by simp)
    rw [if_neg c5] at H
    exact absurd H (by simp)
   rw [if_neg c4] at H
   exact absurd H (by simp)
  rw [if_neg c3] at H
  have c3b0:decide (x11_1 < (l0.length:Int))=false:=decide_eq_false c3
  clear c3
  by_cases c10:(l0.length:Int) < (l1.length:Int)
  ·rw [if_pos c10] at H
   have c10b0:decide ((l0.length:Int) < (l1.length:Int))=true:=decide_eq_true c10
   have c10b1:decide (l0.length < l1.length)=true:=decide_eq_true (Int.ofNat_lt.mp c10)
   clear c10
   obtain rfl:=Option.some.inj H
   go_wp2
   go_ret
   exact⟨by first|rfl|(simp;done)|(simp [*];done),by repeat (first|exact Drawn0.refl _|apply Drawn0.step)⟩
  rw [if_neg c10] at H
  have c10b0:decide ((l0.length:Int) < (l1.length:Int))=false:=decide_eq_false c10
  have c10b1:decide (l0.length < l1.length)=false:=decide_eq_false (fun h=>c10 (Int.ofNat_lt.mpr h))
  clear c10
  obtain rfl:=Option.some.inj H
  go_wp2
  go_ret
  exact⟨by first|rfl|(simp;done)|(simp [*];done),by repeat (first|exact Drawn0.refl _|apply Drawn0.step)⟩
end Go.Proofs.Ytjkhdldgmkkhjaa.P
end
section
namespace Go.Proofs.Ytjkhdldgmkkhjaa.P
open Go.RowKit Go.Proofs.YtjkhdldgmkkhjaaW.PrintWords Go.Proofs.YtjkhdldgmkkhjaaW.PrintLast Go.Proofs.YtjkhdldgmkkhjaaW.PrintMore
attribute [local go_sem] max2_int min2_int max_two min_two max_three min_three max_four min_four   -- for this text's walks alone
def slices_Index_int_int.l0:Nat→List Int→Int→Int→Int→Option (Int)
 | 0,_,_,_,_=>none
 | k+1,x0,x1,x7,x8=>if x8 < x7 then (if 0≤x8 then (if x8 < (x0.length:Int) then (if x1=(rd x0 x8) then (some x8) else (slices_Index_int_int.l0 k x0 x1 x7 (wrap64 (x8+1)))) else (none)) else (none)) else (some (-1))
def slices_Index_int_int.f (k:Nat) (l0:List Int) (a1:Int):Option (Int):=slices_Index_int_int.l0 k l0 a1 (l0.length:Int) 0
theorem slices_Index_int_int.mono_l:∀k,(∀y0 y1 y2 y3,LeO (slices_Index_int_int.l0 k y0 y1 y2 y3) (slices_Index_int_int.l0 (k+1) y0 y1 y2 y3))
 | 0=>fun _ _ _ _ r h=>by simp [slices_Index_int_int.l0] at h
 | k+1=>by
  have ih0:=slices_Index_int_int.mono_l k
  intro y0 y1 y2 y3
  unfold slices_Index_int_int.l0
  repeat' first
  | (with_reducible exact ih0 _ _ _ _)
  | (with_reducible exact LeO.refl _)
  | (with_reducible exact LeO.none _)
  | (with_reducible refine LeO.ite ?_ ?_)
  | (with_reducible refine LeO.bind ?_ (fun _=>?_))
  | exact ih0 _ _ _ _
  | exact LeO.none _
  | refine LeO.ite ?_ ?_
  | refine LeO.bind ?_ (fun _=>?_)
theorem slices_Index_int_int.mono:∀a0 a1 k,LeO (slices_Index_int_int.f k a0 a1) (slices_Index_int_int.f (k+1) a0 a1):=by
 intro a0 a1 k
 have ih0:=slices_Index_int_int.mono_l k
 unfold slices_Index_int_int.f
 repeat' first
  | (with_reducible exact ih0 _ _ _ _)
  | (with_reducible exact LeO.refl _)
  | (with_reducible exact LeO.none _)
  | (with_reducible refine LeO.ite ?_ ?_)
  | (with_reducible refine LeO.bind ?_ (fun _=>?_))
  | exact ih0 _ _ _ _
  | exact LeO.none _
  | refine LeO.ite ?_ ?_
  | refine LeO.bind ?_ (fun _=>?_)
set_option maxHeartbeats 8000000 in
set_option maxRecDepth 100000 in
theorem slices_Index_int_int.calls (k:Nat) (A0:Option Addr) (c0:Nat) (l0:List Int) (a1:Int) (r:Int) (w:World) (hr0:Kd.C (Kd.int .i64) w A0 l0.length l0) (hc0:l0.length≤c0) (h:slices_Index_int_int.f k l0 a1=some r) :
 Calls Try.prog 54 #[.slice A0 l0.length c0,.int .i64 a1] w fun e w'=>e=.returned (.int .i64 r)∧Drawn0 w w':=by
 have HR0:=Aside0.mk hr0
 have HC0:=Aside0.mk hc0
 clear hr0 hc0
 have H:(slices_Index_int_int.l0 k l0 a1 (l0.length:Int) 0)=some r:=h
 clear h
 have H':=Aside0.mk H
 clear H
 go_enter Try.func54,Try.ntmps54
 go_wp2
 go_loopg [8] k (fun kq v8 w'=>∃(x8_1:Int),v8=.int .i64 x8_1∧Aside0 (slices_Index_int_int.l0 kq l0 a1 (l0.length:Int) x8_1=some r)∧Aside0 (kq≤k)∧Drawn0 w w')
 case atStart=>exact⟨(0),(by first|rfl|(simp;done)|(simp [*];done)),H',⟨Nat.le_refl _⟩,by repeat (first|exact Drawn0.refl _|apply Drawn0.step)⟩
 case' round=>skip
 clear H'
 try clear p2
 obtain⟨x8_1,rfl,HA,HK1,⟨m1,rfl⟩⟩:=hrel
 cases gk with
 | zero=>exact absurd HA.out (by simp [slices_Index_int_int.l0])
 | succ k1=>
  have H:=HA.out
  clear HA
  simp only [slices_Index_int_int.l0] at H
  by_cases c3:x8_1 < (l0.length:Int)
  ·rw [if_pos c3] at H
   have c3b0:decide (x8_1 < (l0.length:Int))=true:=decide_eq_true c3
   clear c3
   by_cases c4:0≤x8_1
   ·rw [if_pos c4] at H
    have c4b0:decide (0≤x8_1)=true:=decide_eq_true c4
    clear c4
    by_cases c5:x8_1 < (l0.length:Int)
    ·rw [if_pos c5] at H
     have c5b0:decide (x8_1 < (l0.length:Int))=true:=decide_eq_true c5
     clear c5
     by_cases c6:a1=(rd l0 x8_1)
     ·rw [if_pos c6] at H
      have c6b0:(a1 == (rd l0 x8_1))=true:=beq_iff_eq.mpr c6
      have c6b1:(a1 != (rd l0 x8_1))=false:=bne_eq_false_iff_eq.mpr c6
      clear c6
      obtain rfl:=Option.some.inj H
      have p101:0≤(x8_1:Int):=of_decide_eq_true (by first|(with_reducible assumption)|assumption)
      have q101:x8_1 < (l0.length:Int):=of_decide_eq_true (by first|(with_reducible assumption)|assumption)
      obtain⟨ad101,e101,hx101_0⟩:=Kd.at_int HR0.out x8_1 p101 q101
      cases e101
      replace p101:=eq_true p101
      replace q101:=eq_true q101
      go_wp2
      go_ret
      exact⟨by first|rfl|(simp;done)|(simp [*];done),by repeat (first|exact Drawn0.refl _|apply Drawn0.step)⟩
     rw [if_neg c6] at H
     have c6b0:(a1 == (rd l0 x8_1))=false:=beq_eq_false_iff_ne.mpr c6
     have c6b1:(a1 != (rd l0 x8_1))=true:=bne_iff_ne.mpr c6
     have H':=Aside0.mk H
     clear H
     have p101:0≤(x8_1:Int):=of_decide_eq_true (by first|(with_reducible assumption)|assumption)
     have q101:x8_1 < (l0.length:Int):=of_decide_eq_true (by first|(with_reducible assumption)|assumption)
     obtain⟨ad101,e101,hx101_0⟩:=Kd.at_int HR0.out x8_1 p101 q101
     cases e101
     replace p101:=eq_true p101
     replace q101:=eq_true q101
     go_wp2
     go_roundg k1
     case measure=>have:=HK1.out;omega
     case rel=>exact⟨(wrap64 (x8_1+1)),(by first|rfl|(simp;done)|(simp [*];done)),H',⟨by have:=HK1.out;omega⟩,by repeat (first|exact Drawn0.refl _|apply Drawn0.step)⟩
    rw [if_neg c5] at H
    exact absurd H (by simp)
   rw [if_neg c4] at H
   exact absurd H (by simp)
  rw [if_neg c3] at H
  have c3b0:decide (x8_1 < (l0.length:Int))=false:=decide_eq_false c3
  clear c3
  obtain rfl:=Option.some.inj H
  go_wp2
  go_ret
  exact⟨by first|rfl|(simp;done)|(simp [*];done),by repeat (first|exact Drawn0.refl _|apply Drawn0.step)⟩
end Go.Proofs.Ytjkhdldgmkkhjaa.P
end
section
namespace Go.Proofs.Ytjkhdldgmkkhjaa.P
open Go.RowKit Go.Proofs.YtjkhdldgmkkhjaaW.PrintWords Go.Proofs.YtjkhdldgmkkhjaaW.PrintLast Go.Proofs.YtjkhdldgmkkhjaaW.PrintMore
attribute [local go_sem] max2_int min2_int max_two min_two max_three min_three max_four min_four   -- for this text's walks alone
def slices_Contains_int_int.f (k:Nat) (l0:List Int) (a1:Int):Option (Bool):=(slices_Index_int_int.f k l0 a1).bind fun t102=>(some (decide (t102≥0)))
theorem slices_Contains_int_int.mono:∀a0 a1 k,LeO (slices_Contains_int_int.f k a0 a1) (slices_Contains_int_int.f (k+1) a0 a1):=by
 intro a0 a1 k
 unfold slices_Contains_int_int.f
 repeat' first
  | (with_reducible exact slices_Index_int_int.mono _ _ _)
  | (with_reducible exact LeO.refl _)
  | (with_reducible exact LeO.none _)
  | (with_reducible refine LeO.ite ?_ ?_)
  | (with_reducible refine LeO.bind ?_ (fun _=>?_))
  | exact slices_Index_int_int.mono _ _ _
  | exact LeO.none _
  | refine LeO.ite ?_ ?_
  | refine LeO.bind ?_ (fun _=>?_)
set_option maxHeartbeats 8000000 in
set_option maxRecDepth 100000 in
theorem slices_Contains_int_int.calls (k:Nat) (A0:Option Addr) (c0:Nat) (l0:List Int) (a1:Int) (r:Bool) (w:World) (hr0:Kd.C (Kd.int .i64) w A0 l0.length l0) (hc0:l0.length≤c0) (h:slices_Contains_int_int.f k l0 a1=some r) :
 Calls Try.prog 41 #[.slice A0 l0.length c0,.int .i64 a1] w fun e w'=>e=.returned (.bool r)∧Drawn0 w w':=by
 have HR0:=Aside0.mk hr0
 have HC0:=Aside0.mk hc0
 clear hr0 hc0
 have H:((slices_Index_int_int.f k l0 a1).bind fun t102=>(some (decide (t102≥0))))=some r:=h
 clear h
 replace H:=Option.bind_eq_some_iff.mp H
 obtain⟨t102,A30,H⟩:=H
 replace H:(some (decide (t102≥0)))=some r:=H
 have A3:=Aside0.mk A30
 clear A30
 obtain rfl:=Option.some.inj H
 go_enter Try.func41,Try.ntmps41
 go_wp2_with (first|((with_reducible refine gate_callee (f:=54) rfl ?_);refine goesL_ (some 7) rfl rfl Try.func54 (by kernel_rfl) rfl #[.slice A0 l0.length c0,.int .i64 a1] rfl (by(try simp only [List.map_toArray,List.map_cons,List.map_nil]);first|done|rfl|(simp only [List.length_drop,List.length_take];rfl)) ?_;(with_reducible refine(slices_Index_int_int.calls k _ _ l0 a1 t102 _ ?side1 ?side2 A3.out).mono ?_);(case side1=>repeat (first|exact HR0.out|(with_reducible refine Kd.C_alloc ?_ _)|(with_reducible refine Kd.C_drewN ?_ _)|(with_reducible refine Kd.C_drew ?_)));(case side2=>exact HC0.out);rintro e w' ⟨rfl,⟨nd,rfl⟩⟩;refine⟨_,rfl,?_⟩))
 go_ret
 exact⟨by first|rfl|(simp;done)|(simp [*];done),by repeat (first|exact Drawn0.refl _|apply Drawn0.step)⟩
end Go.Proofs.Ytjkhdldgmkkhjaa.P
end
section
namespace Go.Proofs.Ytjkhdldgmkkhjaa.P
open Go.RowKit Go.Proofs.YtjkhdldgmkkhjaaW.PrintWords Go.Proofs.YtjkhdldgmkkhjaaW.PrintLast Go.Proofs.YtjkhdldgmkkhjaaW.PrintMore
attribute [local go_sem] max2_int min2_int max_two min_two max_three min_three max_four min_four   -- for this text's walks alone
mutual
def canopyref1_Less.l0:Nat→List Int→List Int→Int→Option (Bool)
 | 0,_,_,_=>none
 | k+1,x0,x1,x5=>if x5 < (x0.length:Int) then (canopyref1_Less.j1 k x0 x1 x5 (decide (x5 < (x1.length:Int)))) else (canopyref1_Less.j1 k x0 x1 x5 false)
def canopyref1_Less.j1:Nat→List Int→List Int→Int→Bool→Option (Bool)
 | 0,_,_,_,_=>none
 | k+1,x0,x1,x5,x15=>if x15=true then (if 0≤x5 then (if x5 < (x0.length:Int) then (if x5 < (x1.length:Int) then (if (rd x0 x5)=(rd x1 x5) then (canopyref1_Less.l0 k x0 x1 (wrap64 (x5+1))) else (some (decide ((rd x0 x5) < (rd x1 x5))))) else (none)) else (none)) else (none)) else (some (decide ((x0.length:Int) < (x1.length:Int))))
end
def canopyref1_Less.f (k:Nat) (l0:List Int) (l1:List Int):Option (Bool):=canopyref1_Less.l0 k l0 l1 0
theorem canopyref1_Less.mono_l:∀k,(∀y0 y1 y2,LeO (canopyref1_Less.l0 k y0 y1 y2) (canopyref1_Less.l0 (k+1) y0 y1 y2))∧(∀y0 y1 y2 y3,LeO (canopyref1_Less.j1 k y0 y1 y2 y3) (canopyref1_Less.j1 (k+1) y0 y1 y2 y3))
 | 0=>⟨fun _ _ _ r h=>by simp [canopyref1_Less.l0] at h,fun _ _ _ _ r h=>by simp [canopyref1_Less.j1] at h⟩
 | k+1=>by
  obtain⟨ih0,ih1⟩:=canopyref1_Less.mono_l k
  refine⟨?_,?_⟩
  ·intro y0 y1 y2
   unfold canopyref1_Less.l0
   repeat' first
   | (with_reducible exact ih0 _ _ _)
   | (with_reducible exact ih1 _ _ _ _)
   | (with_reducible exact LeO.refl _)
   | (with_reducible exact LeO.none _)
   | (with_reducible refine LeO.ite ?_ ?_)
   | (with_reducible refine LeO.bind ?_ (fun _=>?_))
   | exact ih0 _ _ _
   | exact ih1 _ _ _ _
   | exact LeO.none _
   | refine LeO.ite ?_ ?_
   | refine LeO.bind ?_ (fun _=>?_)
  intro y0 y1 y2 y3
  unfold canopyref1_Less.j1
  repeat' first
  | (with_reducible exact ih0 _ _ _)
  | (with_reducible exact ih1 _ _ _ _)
  | (with_reducible exact LeO.refl _)
  | (with_reducible exact LeO.none _)
  | (with_reducible refine LeO.ite ?_ ?_)
  | (with_reducible refine LeO.bind ?_ (fun _=>?_))
  | exact ih0 _ _ _
  | exact ih1 _ _ _ _
  | exact LeO.none _
  | refine LeO.ite ?_ ?_
  | refine LeO.bind ?_ (fun _=>?_)
theorem canopyref1_Less.mono:∀a0 a1 k,LeO (canopyref1_Less.f k a0 a1) (canopyref1_Less.f (k+1) a0 a1):=by
 intro a0 a1 k
 obtain⟨ih0,ih1⟩:=canopyref1_Less.mono_l k
 unfold canopyref1_Less.f
 repeat' first
  | (with_reducible exact ih0 _ _ _)
  | (with_reducible exact ih1 _ _ _ _)
  | (with_reducible exact LeO.refl _)
  | (with_reducible exact LeO.none _)
  | (with_reducible refine LeO.ite ?_ ?_)
  | (with_reducible refine LeO.bind ?_ (fun _=>?_))
  | exact ih0 _ _ _
  | exact ih1 _ _ _ _
  | exact LeO.none _
  | refine LeO.ite ?_ ?_
  | refine LeO.bind ?_ (fun _=>?_)
set_option maxHeartbeats 8000000 in
set_option maxRecDepth 100000 in
theorem canopyref1_Less.calls (k:Nat) (A0:Option Addr) (c0:Nat) (l0:List Int) (A1:Option Addr) (c1:Nat) (l1:List Int) (r:Bool) (w:World) (hr0:Kd.C (Kd.int .i64) w A0 l0.length l0) (hc0:l0.length≤c0) (hr1:Kd.C (Kd.int .i64) w A1 l1.length l1) (hc1:l1.length≤c1) (h:canopyref1_Less.f k l0 l1=some r) :
 Calls Try.prog 62 #[.slice A0 l0.length c0,.slice A1 l1.length c1] w fun e w'=>e=.returned (.bool r)∧Drawn0 w w':=by
 have HR0:=Aside0.mk hr0
 have HC0:=Aside0.mk hc0
 clear hr0 hc0
 have HR1:=Aside0.mk hr1
 have HC1:=Aside0.mk hc1
 clear hr1 hc1
 have H:(canopyref1_Less.l0 k l0 l1 0)=some r:=h
 clear h
 have H':=Aside0.mk H
 clear H
 go_enter Try.func62,Try.ntmps62
 go_wp2
 repeat (go_quiet (fail);try go_wp2)
 go_loopg [5] k (fun kq v5 w'=>∃(x5_1:Int),v5=.int .i64 x5_1∧Aside0 (canopyref1_Less.l0 kq l0 l1 x5_1=some r)∧Aside0 (kq≤k)∧Drawn0 w w')
 case atStart=>exact⟨(0),(by first|rfl|(simp;done)|(simp [*];done)),H',⟨Nat.le_refl _⟩,by repeat (first|exact Drawn0.refl _|apply Drawn0.step)⟩
 case' round=>skip
 clear H'
 try clear c1
 try clear p2
 obtain⟨x5_1,rfl,HA,HK1,⟨m1,rfl⟩⟩:=hrel
 cases gk with
 | zero=>exact absurd HA.out (by simp [canopyref1_Less.l0])
 | succ k1=>
  have H:=HA.out
  clear HA
  simp only [canopyref1_Less.l0] at H
  have HC3:=Aside0.mk H
  clear H
  go_upto_region 2 with (fail)
  repeat (go_quiet (fail);go_upto_region 2 with (fail))
  go_cut [15] (fun v15 wc=>∃(kq:Nat) (x15_2:Bool),v15=.bool x15_2∧Aside0 (canopyref1_Less.j1 kq l0 l1 x5_1 x15_2=some r)∧Aside0 (kq≤k1)∧Drawn0 w wc)
  case first=>
   have H:=HC3.out
   clear HC3
   by_cases c4:x5_1 < (l0.length:Int)
   ·rw [if_pos c4] at H
    have c4b0:decide (x5_1 < (l0.length:Int))=true:=decide_eq_true c4
    clear c4
    (first|rw [c4b0]|(simp only [i64_w,i32_w];rw [c4b0])|skip)
    have H':=Aside0.mk H
    clear H
    go_wp2
    repeat (go_quiet (fail);try go_wp2)
    go_meet
    case rel=>exact⟨_,(decide (x5_1 < (l1.length:Int))),(by first|rfl|(simp;done)|(simp [*];done)),H',⟨by have:=HK1.out;first|omega|exact Nat.le_refl _⟩,by repeat (first|exact Drawn0.refl _|apply Drawn0.step)⟩
   rw [if_neg c4] at H
   have c4b0:decide (x5_1 < (l0.length:Int))=false:=decide_eq_false c4
   clear c4
   (first|rw [c4b0]|(simp only [i64_w,i32_w];rw [c4b0])|skip)
   have H':=Aside0.mk H
   clear H
   go_wp2
   repeat (go_quiet (fail);try go_wp2)
   go_meet
   case rel=>exact⟨_,(false),(by first|rfl|(simp;done)|(simp [*];done)),H',⟨by have:=HK1.out;first|omega|exact Nat.le_refl _⟩,by repeat (first|exact Drawn0.refl _|apply Drawn0.step)⟩
  case' rest=>skip
  clear HC3
  try clear c1
  try clear p2
  try clear c4
  try clear c4b0
  try clear p2
  obtain⟨kq,x15_2,rfl,HA,HJ2,⟨mc2,rfl⟩⟩:=hcut
  cases kq with
  | zero=>exact absurd HA.out (by simp [canopyref1_Less.j1])
  | succ kj2=>
   have H:=HA.out
   clear HA
   simp only [canopyref1_Less.j1] at H
   by_cases c5:x15_2=true
   ·subst c5
    have H1:(if 0≤x5_1 then (if x5_1 < (l0.length:Int) then (if x5_1 < (l1.length:Int) then (if (rd l0 x5_1)=(rd l1 x5_1) then (canopyref1_Less.l0 kj2 l0 l1 (wrap64 (x5_1+1))) else (some (decide ((rd l0 x5_1) < (rd l1 x5_1))))) else (none)) else (none)) else (none))=some r:=by rw [if_pos rfl] at H;exact H
    clear H
    have H:=H1
    clear H1
    by_cases c6:0≤x5_1
    ·rw [if_pos c6] at H
     have c6b0:decide (0≤x5_1)=true:=decide_eq_true c6
     clear c6
     by_cases c7:x5_1 < (l0.length:Int)
     ·rw [if_pos c7] at H
      have c7b0:decide (x5_1 < (l0.length:Int))=true:=decide_eq_true c7
      clear c7
      by_cases c8:x5_1 < (l1.length:Int)
      ·rw [if_pos c8] at H
       have c8b0:decide (x5_1 < (l1.length:Int))=true:=decide_eq_true c8
       clear c8
       by_cases c9:(rd l0 x5_1)=(rd l1 x5_1)
       ·rw [if_pos c9] at H
        have c9b0:((rd l0 x5_1) == (rd l1 x5_1))=true:=beq_iff_eq.mpr c9
        have c9b1:((rd l0 x5_1) != (rd l1 x5_1))=false:=bne_eq_false_iff_eq.mpr c9
        clear c9
        have H':=Aside0.mk H
        clear H
        have p206:0≤(x5_1:Int):=of_decide_eq_true (by first|(with_reducible assumption)|assumption)
        have q206:x5_1 < (l0.length:Int):=of_decide_eq_true (by first|(with_reducible assumption)|assumption)
        obtain⟨ad206,e206,hx206_0⟩:=Kd.at_int HR0.out x5_1 p206 q206
        cases e206
        replace p206:=eq_true p206
        replace q206:=eq_true q206
        have p207:0≤(x5_1:Int):=of_decide_eq_true (by first|(with_reducible assumption)|assumption)
        have q207:x5_1 < (l1.length:Int):=of_decide_eq_true (by first|(with_reducible assumption)|assumption)
        obtain⟨ad207,e207,hx207_0⟩:=Kd.at_int HR1.out x5_1 p207 q207
        cases e207
        replace p207:=eq_true p207
        replace q207:=eq_true q207
        go_wp2
        repeat (go_quiet (fail);try go_wp2)
        go_roundg kj2
        case measure=>have:=HK1.out;have:=HJ2.out;omega
        case rel=>exact⟨(wrap64 (x5_1+1)),(by first|rfl|(simp;done)|(simp [*];done)),H',⟨by have:=HK1.out;have:=HJ2.out;omega⟩,by repeat (first|exact Drawn0.refl _|apply Drawn0.step)⟩
       rw [if_neg c9] at H
       have c9b0:((rd l0 x5_1) == (rd l1 x5_1))=false:=beq_eq_false_iff_ne.mpr c9
       have c9b1:((rd l0 x5_1) != (rd l1 x5_1))=true:=bne_iff_ne.mpr c9
       obtain rfl:=Option.some.inj H
       have p206:0≤(x5_1:Int):=of_decide_eq_true (by first|(with_reducible assumption)|assumption)
       have q206:x5_1 < (l0.length:Int):=of_decide_eq_true (by first|(with_reducible assumption)|assumption)
       obtain⟨ad206,e206,hx206_0⟩:=Kd.at_int HR0.out x5_1 p206 q206
       cases e206
       replace p206:=eq_true p206
       replace q206:=eq_true q206
       have p207:0≤(x5_1:Int):=of_decide_eq_true (by first|(with_reducible assumption)|assumption)
       have q207:x5_1 < (l1.length:Int):=of_decide_eq_true (by first|(with_reducible assumption)|assumption)
       obtain⟨ad207,e207,hx207_0⟩:=Kd.at_int HR1.out x5_1 p207 q207
       cases e207
       replace p207:=eq_true p207
       replace q207:=eq_true q207
       have p208:0≤(x5_1:Int):=of_decide_eq_true (by first|(with_reducible assumption)|assumption)
       have q208:x5_1 < (l0.length:Int):=of_decide_eq_true (by first|(with_reducible assumption)|assumption)
       obtain⟨ad208,e208,hx208_0⟩:=Kd.at_int HR0.out x5_1 p208 q208
       obtain rfl:ad206=ad208:=(by injection e208)
       replace p208:=eq_true p208
       replace q208:=eq_true q208
       have p209:0≤(x5_1:Int):=of_decide_eq_true (by first|(with_reducible assumption)|assumption)
       have q209:x5_1 < (l1.length:Int):=of_decide_eq_true (by first|(with_reducible assumption)|assumption)
       obtain⟨ad209,e209,hx209_0⟩:=Kd.at_int HR1.out x5_1 p209 q209
       obtain rfl:ad207=ad209:=(by injection e209)
       replace p209:=eq_true p209
       replace q209:=eq_true q209
       go_wp2
       repeat (go_quiet (fail);try go_wp2)
       go_ret
       exact⟨by first|rfl|(simp;done)|(simp [*];done),by repeat (first|exact Drawn0.refl _|apply Drawn0.step)⟩
      rw [if_neg c8] at H
      exact absurd H (by simp)
     rw [if_neg c7] at H
     exact absurd H (by simp)
    rw [if_neg c6] at H
    exact absurd H (by simp)
   replace c5 := Bool.eq_false_iff.mpr c5
   subst c5
   have H1:(some (decide ((l0.length:Int) < (l1.length:Int))))=some r:=by rw [if_neg (show ¬(false=true) by decide)] at H;exact H
   clear H
   have H:=H1
   clear H1
   obtain rfl:=Option.some.inj H
   go_wp2
   repeat (go_quiet (fail);try go_wp2)
   go_ret
   exact⟨by first|rfl|(simp;done)|(simp [*];done),by repeat (first|exact Drawn0.refl _|apply Drawn0.step)⟩
end Go.Proofs.Ytjkhdldgmkkhjaa.P
end
section
namespace Go.Proofs.Ytjkhdldgmkkhjaa.P
open Go.RowKit Go.Proofs.YtjkhdldgmkkhjaaW.PrintWords Go.Proofs.YtjkhdldgmkkhjaaW.PrintLast Go.Proofs.YtjkhdldgmkkhjaaW.PrintMore
attribute [local go_sem] max2_int min2_int max_two min_two max_three min_three max_four min_four   -- for this text's walks alone
def canopyref4_less.f (k:Nat) (a0_0:Int) (l0_1:List Int) (a1_0:Int) (l1_1:List Int):Option (Bool):=if a0_0 < a1_0 then (some true) else (if a0_0=a1_0 then ((canopyref1_Less.f k l0_1 l1_1).bind fun t212=>(some t212)) else (some false))
theorem canopyref4_less.mono:∀a0 a1 a2 a3 k,LeO (canopyref4_less.f k a0 a1 a2 a3) (canopyref4_less.f (k+1) a0 a1 a2 a3):=by
 intro a0 a1 a2 a3 k
 unfold canopyref4_less.f
 repeat' first
  | (with_reducible exact canopyref1_Less.mono _ _ _)
  | (with_reducible exact LeO.refl _)
  | (with_reducible exact LeO.none _)
  | (with_reducible refine LeO.ite ?_ ?_)
  | (with_reducible refine LeO.bind ?_ (fun _=>?_))
  | exact canopyref1_Less.mono _ _ _
  | exact LeO.none _
  | refine LeO.ite ?_ ?_
  | refine LeO.bind ?_ (fun _=>?_)
set_option maxHeartbeats 8000000 in
set_option maxRecDepth 100000 in
theorem canopyref4_less.calls (k:Nat) (a0_0:Int) (A0_1:Option Addr) (c0_1:Nat) (l0_1:List Int) (a1_0:Int) (A1_1:Option Addr) (c1_1:Nat) (l1_1:List Int) (r:Bool) (w:World) (hr0_1:Kd.C (Kd.int .i64) w A0_1 l0_1.length l0_1) (hc0_1:l0_1.length≤c0_1) (hr1_1:Kd.C (Kd.int .i64) w A1_1 l1_1.length l1_1) (hc1_1:l1_1.length≤c1_1) (h:canopyref4_less.f k a0_0 l0_1 a1_0 l1_1=some r) :
 Calls Try.prog 53 #[.agg #[.int .i64 a0_0,.slice A0_1 l0_1.length c0_1],.agg #[.int .i64 a1_0,.slice A1_1 l1_1.length c1_1]] w fun e w'=>e=.returned (.bool r)∧Below w.heap.size w w':=by
 have hu67:=Try.underlying67
 have HR0_1:=Aside0.mk hr0_1
 have HC0_1:=Aside0.mk hc0_1
 clear hr0_1 hc0_1
 have HR1_1:=Aside0.mk hr1_1
 have HC1_1:=Aside0.mk hc1_1
 clear hr1_1 hc1_1
 have HB:=Aside0.mk (Below.refl w.heap.size w)
 have H:(if a0_0 < a1_0 then (some true) else (if a0_0=a1_0 then ((canopyref1_Less.f k l0_1 l1_1).bind fun t212=>(some t212)) else (some false)))=some r:=h
 clear h
 by_cases c3:a0_0 < a1_0
 ·rw [if_pos c3] at H
  have c3b0:decide (a0_0 < a1_0)=true:=decide_eq_true c3
  clear c3
  obtain rfl:=Option.some.inj H
  go_enter Try.func53,Try.ntmps53
  go_wp2_with (first|((with_reducible refine gate_dst (N:=2) rfl ?_);refine box_event ?hg (N:=2) ?hd (cs:=#[.int .i64 a0_0,.slice A0_1 l0_1.length c0_1]) (t:=67) ?hr ?_;(case hd=>rfl);(case hg=>rfl);(case hr=>first|(go_simp;done)|(go_simp;rfl));intro gb210 hg w4 hbox hb;have n0_:=Aside0.mk (below_step (by repeat (first|(with_reducible first|exact HB.out|apply below_alloc|apply pw_below_drewN|apply below_drew1)|exact HB.out)) hb);have n1_:=Aside0.mk (hbox);have n2_:=Aside0.mk ((by rw [hg];exact(below_size (by repeat (first|(with_reducible first|exact HB.out|apply below_alloc|apply pw_below_drewN|apply below_drew1)|exact HB.out))):w.heap.size≤gb210));have n3_:=Aside0.mk ((by rw [hg];exact(below_size (by repeat (first|(with_reducible first|exact HB.out|apply below_alloc|apply pw_below_drewN|apply below_drew1)|exact HB.out))):w.heap.size≤gb210));clear HB;have HB:=n0_;have BK210:=n1_;have GW210:=n2_;have GE210:=n3_;clear n0_ n1_ n2_ n3_;clear hb hbox hg)|((with_reducible refine gate_dst (N:=3) rfl ?_);refine box_event ?hg (N:=3) ?hd (cs:=#[.int .i64 a1_0,.slice A1_1 l1_1.length c1_1]) (t:=67) ?hr ?_;(case hd=>rfl);(case hg=>rfl);(case hr=>first|(go_simp;done)|(go_simp;rfl));intro gb211 hg w5 hbox hb;have n0_:=Aside0.mk (blk_below (g:=gb210) (o:=.cells #[.int .i64 a0_0,.slice A0_1 l0_1.length c0_1] 67 (0,0)) (by(with_reducible repeat (first|refine blk_drewN ?_ _|refine blk_drew ?_|refine blk_alloc ?_ _));exact BK210.out) hb);have n1_:=Aside0.mk (below_step (by repeat (first|(with_reducible first|exact HB.out|apply below_alloc|apply pw_below_drewN|apply below_drew1|refine below_set ?_ GE210.out)|exact HB.out)) hb);have n2_:=Aside0.mk (hbox);have n3_:=Aside0.mk ((by rw [hg];exact(below_size (by repeat (first|(with_reducible first|exact HB.out|apply below_alloc|apply pw_below_drewN|apply below_drew1|refine below_set ?_ GE210.out)|exact HB.out))):w.heap.size≤gb211));have n4_:=Aside0.mk ((by rw [hg];exact(below_size (by repeat (first|(with_reducible first|exact HB.out|apply below_alloc|apply pw_below_drewN|apply below_drew1|refine below_set ?_ GE210.out)|exact HB.out))):w.heap.size≤gb211));have n5_:=Aside0.mk ((by rw [hg];exact Nat.ne_of_lt (blk_lt (g:=gb210) (o:=.cells #[.int .i64 a0_0,.slice A0_1 l0_1.length c0_1] 67 (0,0)) (by(with_reducible repeat (first|refine blk_drewN ?_ _|refine blk_drew ?_|refine blk_alloc ?_ _));exact BK210.out)):gb210≠gb211));have n6_:=Aside0.mk ((by rw [hg];exact Nat.ne_of_gt (blk_lt (g:=gb210) (o:=.cells #[.int .i64 a0_0,.slice A0_1 l0_1.length c0_1] 67 (0,0)) (by(with_reducible repeat (first|refine blk_drewN ?_ _|refine blk_drew ?_|refine blk_alloc ?_ _));exact BK210.out)):gb211≠gb210));clear BK210;clear HB;have BK210:=n0_;have HB:=n1_;have BK211:=n2_;have GW211:=n3_;have GE211:=n4_;have NB210_211:=n5_;have NB211_210:=n6_;clear n0_ n1_ n2_ n3_ n4_ n5_ n6_;clear hb hbox hg;have hnb6:=NB210_211.out;have hnc6:=NB211_210.out;have hcz7_0:w5.cell? ⟨gb210,0,none⟩=some (.int .i64 a0_0):=(blk_cell BK210.out 0).trans rfl;have hcz7_1:w5.cell? ⟨gb210,1,none⟩=some (.slice A0_1 l0_1.length c0_1):=(blk_cell BK210.out 1).trans rfl;have hfz7_0:=blk_frozen BK210.out 0;have hfz7_1:=blk_frozen BK210.out 1;have hcz8_0:w5.cell? ⟨gb211,0,none⟩=some (.int .i64 a1_0):=(blk_cell BK211.out 0).trans rfl;have hcz8_1:w5.cell? ⟨gb211,1,none⟩=some (.slice A1_1 l1_1.length c1_1):=(blk_cell BK211.out 1).trans rfl;have hfz8_0:=blk_frozen BK211.out 0;have hfz8_1:=blk_frozen BK211.out 1))
  go_ret
  exact⟨by first|rfl|(simp [errW_none,errW_some]<;>rfl)|(simp [*,errW_none,errW_some]<;>rfl),by repeat (first|(with_reducible first|exact HB.out|apply below_alloc|apply pw_below_drewN|apply below_drew1|refine below_set ?_ GE210.out|refine below_set ?_ GE211.out)|exact HB.out)⟩
 rw [if_neg c3] at H
 have c3b0:decide (a0_0 < a1_0)=false:=decide_eq_false c3
 clear c3
 by_cases c9:a0_0=a1_0
 ·rw [if_pos c9] at H
  have c9b0:(a0_0 == a1_0)=true:=beq_iff_eq.mpr c9
  have c9b1:(a0_0 != a1_0)=false:=bne_eq_false_iff_eq.mpr c9
  clear c9
  replace H:=Option.bind_eq_some_iff.mp H
  obtain⟨t212,A100,H⟩:=H
  replace H:(some t212)=some r:=H
  have A10:=Aside0.mk A100
  clear A100
  obtain rfl:=Option.some.inj H
  go_enter Try.func53,Try.ntmps53
  go_wp2_with (first|((with_reducible refine gate_dst (N:=2) rfl ?_);refine box_event ?hg (N:=2) ?hd (cs:=#[.int .i64 a0_0,.slice A0_1 l0_1.length c0_1]) (t:=67) ?hr ?_;(case hd=>rfl);(case hg=>rfl);(case hr=>first|(go_simp;done)|(go_simp;rfl));intro gb210 hg w11 hbox hb;have n0_:=Aside0.mk (below_step (by repeat (first|(with_reducible first|exact HB.out|apply below_alloc|apply pw_below_drewN|apply below_drew1)|exact HB.out)) hb);have n1_:=Aside0.mk (hbox);have n2_:=Aside0.mk ((by rw [hg];exact(below_size (by repeat (first|(with_reducible first|exact HB.out|apply below_alloc|apply pw_below_drewN|apply below_drew1)|exact HB.out))):w.heap.size≤gb210));have n3_:=Aside0.mk ((by rw [hg];exact(below_size (by repeat (first|(with_reducible first|exact HB.out|apply below_alloc|apply pw_below_drewN|apply below_drew1)|exact HB.out))):w.heap.size≤gb210));clear HB;have HB:=n0_;have BK210:=n1_;have GW210:=n2_;have GE210:=n3_;clear n0_ n1_ n2_ n3_;clear hb hbox hg)|((with_reducible refine gate_dst (N:=3) rfl ?_);refine box_event ?hg (N:=3) ?hd (cs:=#[.int .i64 a1_0,.slice A1_1 l1_1.length c1_1]) (t:=67) ?hr ?_;(case hd=>rfl);(case hg=>rfl);(case hr=>first|(go_simp;done)|(go_simp;rfl));intro gb211 hg w12 hbox hb;have n0_:=Aside0.mk (blk_below (g:=gb210) (o:=.cells #[.int .i64 a0_0,.slice A0_1 l0_1.length c0_1] 67 (0,0)) (by(with_reducible repeat (first|refine blk_drewN ?_ _|refine blk_drew ?_|refine blk_alloc ?_ _));exact BK210.out) hb);have n1_:=Aside0.mk (below_step (by repeat (first|(with_reducible first|exact HB.out|apply below_alloc|apply pw_below_drewN|apply below_drew1|refine below_set ?_ GE210.out)|exact HB.out)) hb);have n2_:=Aside0.mk (hbox);have n3_:=Aside0.mk ((by rw [hg];exact(below_size (by repeat (first|(with_reducible first|exact HB.out|apply below_alloc|apply pw_below_drewN|apply below_drew1|refine below_set ?_ GE210.out)|exact HB.out))):w.heap.size≤gb211));have n4_:=Aside0.mk ((by rw [hg];exact(below_size (by repeat (first|(with_reducible first|exact HB.out|apply below_alloc|apply pw_below_drewN|apply below_drew1|refine below_set ?_ GE210.out)|exact HB.out))):w.heap.size≤gb211));have n5_:=Aside0.mk ((by rw [hg];exact Nat.ne_of_lt (blk_lt (g:=gb210) (o:=.cells #[.int .i64 a0_0,.slice A0_1 l0_1.length c0_1] 67 (0,0)) (by(with_reducible repeat (first|refine blk_drewN ?_ _|refine blk_drew ?_|refine blk_alloc ?_ _));exact BK210.out)):gb210≠gb211));have n6_:=Aside0.mk ((by rw [hg];exact Nat.ne_of_gt (blk_lt (g:=gb210) (o:=.cells #[.int .i64 a0_0,.slice A0_1 l0_1.length c0_1] 67 (0,0)) (by(with_reducible repeat (first|refine blk_drewN ?_ _|refine blk_drew ?_|refine blk_alloc ?_ _));exact BK210.out)):gb211≠gb210));clear BK210;clear HB;have BK210:=n0_;have HB:=n1_;have BK211:=n2_;have GW211:=n3_;have GE211:=n4_;have NB210_211:=n5_;have NB211_210:=n6_;clear n0_ n1_ n2_ n3_ n4_ n5_ n6_;clear hb hbox hg;have hnb13:=NB210_211.out;have hnc13:=NB211_210.out;have hcz14_0:w12.cell? ⟨gb210,0,none⟩=some (.int .i64 a0_0):=(blk_cell BK210.out 0).trans rfl;have hcz14_1:w12.cell? ⟨gb210,1,none⟩=some (.slice A0_1 l0_1.length c0_1):=(blk_cell BK210.out 1).trans rfl;have hfz14_0:=blk_frozen BK210.out 0;have hfz14_1:=blk_frozen BK210.out 1;have hcz15_0:w12.cell? ⟨gb211,0,none⟩=some (.int .i64 a1_0):=(blk_cell BK211.out 0).trans rfl;have hcz15_1:w12.cell? ⟨gb211,1,none⟩=some (.slice A1_1 l1_1.length c1_1):=(blk_cell BK211.out 1).trans rfl;have hfz15_0:=blk_frozen BK211.out 0;have hfz15_1:=blk_frozen BK211.out 1)|(go_at_call 62;(with_reducible refine(canopyref1_Less.calls k _ _ l0_1 _ _ l1_1 t212 _ ?side1 ?side2 ?side3 ?side4 A10.out).mono ?_);(case side1=>repeat (first|exact(Kd.C_below HR0_1.out HB.out)|(with_reducible refine Kd.C_alloc ?_ _)|(with_reducible refine Kd.C_drewN ?_ _)|(with_reducible refine Kd.C_drew ?_)));(case side2=>exact HC0_1.out);(case side3=>repeat (first|exact(Kd.C_below HR1_1.out HB.out)|(with_reducible refine Kd.C_alloc ?_ _)|(with_reducible refine Kd.C_drewN ?_ _)|(with_reducible refine Kd.C_drew ?_)));(case side4=>exact HC1_1.out);rintro e w' ⟨rfl,⟨nd,rfl⟩⟩))
  go_ret
  exact⟨by first|rfl|(simp [errW_none,errW_some]<;>rfl)|(simp [*,errW_none,errW_some]<;>rfl),by repeat (first|(with_reducible first|exact HB.out|apply below_alloc|apply pw_below_drewN|apply below_drew1|refine below_set ?_ GE210.out|refine below_set ?_ GE211.out)|exact HB.out)⟩
 rw [if_neg c9] at H
 have c9b0:(a0_0 == a1_0)=false:=beq_eq_false_iff_ne.mpr c9
 have c9b1:(a0_0 != a1_0)=true:=bne_iff_ne.mpr c9
 obtain rfl:=Option.some.inj H
 go_enter Try.func53,Try.ntmps53
 go_wp2_with (first|((with_reducible refine gate_dst (N:=2) rfl ?_);refine box_event ?hg (N:=2) ?hd (cs:=#[.int .i64 a0_0,.slice A0_1 l0_1.length c0_1]) (t:=67) ?hr ?_;(case hd=>rfl);(case hg=>rfl);(case hr=>first|(go_simp;done)|(go_simp;rfl));intro gb210 hg w16 hbox hb;have n0_:=Aside0.mk (below_step (by repeat (first|(with_reducible first|exact HB.out|apply below_alloc|apply pw_below_drewN|apply below_drew1)|exact HB.out)) hb);have n1_:=Aside0.mk (hbox);have n2_:=Aside0.mk ((by rw [hg];exact(below_size (by repeat (first|(with_reducible first|exact HB.out|apply below_alloc|apply pw_below_drewN|apply below_drew1)|exact HB.out))):w.heap.size≤gb210));have n3_:=Aside0.mk ((by rw [hg];exact(below_size (by repeat (first|(with_reducible first|exact HB.out|apply below_alloc|apply pw_below_drewN|apply below_drew1)|exact HB.out))):w.heap.size≤gb210));clear HB;have HB:=n0_;have BK210:=n1_;have GW210:=n2_;have GE210:=n3_;clear n0_ n1_ n2_ n3_;clear hb hbox hg)|((with_reducible refine gate_dst (N:=3) rfl ?_);refine box_event ?hg (N:=3) ?hd (cs:=#[.int .i64 a1_0,.slice A1_1 l1_1.length c1_1]) (t:=67) ?hr ?_;(case hd=>rfl);(case hg=>rfl);(case hr=>first|(go_simp;done)|(go_simp;rfl));intro gb211 hg w17 hbox hb;have n0_:=Aside0.mk (blk_below (g:=gb210) (o:=.cells #[.int .i64 a0_0,.slice A0_1 l0_1.length c0_1] 67 (0,0)) (by(with_reducible repeat (first|refine blk_drewN ?_ _|refine blk_drew ?_|refine blk_alloc ?_ _));exact BK210.out) hb);have n1_:=Aside0.mk (below_step (by repeat (first|(with_reducible first|exact HB.out|apply below_alloc|apply pw_below_drewN|apply below_drew1|refine below_set ?_ GE210.out)|exact HB.out)) hb);have n2_:=Aside0.mk (hbox);have n3_:=Aside0.mk ((by rw [hg];exact(below_size (by repeat (first|(with_reducible first|exact HB.out|apply below_alloc|apply pw_below_drewN|apply below_drew1|refine below_set ?_ GE210.out)|exact HB.out))):w.heap.size≤gb211));have n4_:=Aside0.mk ((by rw [hg];exact(below_size (by repeat (first|(with_reducible first|exact HB.out|apply below_alloc|apply pw_below_drewN|apply below_drew1|refine below_set ?_ GE210.out)|exact HB.out))):w.heap.size≤gb211));have n5_:=Aside0.mk ((by rw [hg];exact Nat.ne_of_lt (blk_lt (g:=gb210) (o:=.cells #[.int .i64 a0_0,.slice A0_1 l0_1.length c0_1] 67 (0,0)) (by(with_reducible repeat (first|refine blk_drewN ?_ _|refine blk_drew ?_|refine blk_alloc ?_ _));exact BK210.out)):gb210≠gb211));have n6_:=Aside0.mk ((by rw [hg];exact Nat.ne_of_gt (blk_lt (g:=gb210) (o:=.cells #[.int .i64 a0_0,.slice A0_1 l0_1.length c0_1] 67 (0,0)) (by(with_reducible repeat (first|refine blk_drewN ?_ _|refine blk_drew ?_|refine blk_alloc ?_ _));exact BK210.out)):gb211≠gb210));clear BK210;clear HB;have BK210:=n0_;have HB:=n1_;have BK211:=n2_;have GW211:=n3_;have GE211:=n4_;have NB210_211:=n5_;have NB211_210:=n6_;clear n0_ n1_ n2_ n3_ n4_ n5_ n6_;clear hb hbox hg;have hnb18:=NB210_211.out;have hnc18:=NB211_210.out;have hcz19_0:w17.cell? ⟨gb210,0,none⟩=some (.int .i64 a0_0):=(blk_cell BK210.out 0).trans rfl;have hcz19_1:w17.cell? ⟨gb210,1,none⟩=some (.slice A0_1 l0_1.length c0_1):=(blk_cell BK210.out 1).trans rfl;have hfz19_0:=blk_frozen BK210.out 0;have hfz19_1:=blk_frozen BK210.out 1;have hcz20_0:w17.cell? ⟨gb211,0,none⟩=some (.int .i64 a1_0):=(blk_cell BK211.out 0).trans rfl;have hcz20_1:w17.cell? ⟨gb211,1,none⟩=some (.slice A1_1 l1_1.length c1_1):=(blk_cell BK211.out 1).trans rfl;have hfz20_0:=blk_frozen BK211.out 0;have hfz20_1:=blk_frozen BK211.out 1))
 go_ret
 exact⟨by first|rfl|(simp [errW_none,errW_some]<;>rfl)|(simp [*,errW_none,errW_some]<;>rfl),by repeat (first|(with_reducible first|exact HB.out|apply below_alloc|apply pw_below_drewN|apply below_drew1|refine below_set ?_ GE210.out|refine below_set ?_ GE211.out)|exact HB.out)⟩
end Go.Proofs.Ytjkhdldgmkkhjaa.P
end
section
namespace Go.Proofs.Ytjkhdldgmkkhjaa.P
open Go.RowKit Go.Proofs.YtjkhdldgmkkhjaaW.PrintWords Go.Proofs.YtjkhdldgmkkhjaaW.PrintLast Go.Proofs.YtjkhdldgmkkhjaaW.PrintMore
attribute [local go_sem] max2_int min2_int max_two min_two max_three min_three max_four min_four   -- for this text's walks alone
def canopylaw1_within.f (a0:Int) (a1:Int):Option (Int):=if a1=0 then (none) else (if (Int.tmod a0 a1) < 0 then (some (wrap64 ((Int.tmod a0 a1)+a1))) else (some (Int.tmod a0 a1)))
set_option maxHeartbeats 8000000 in
set_option maxRecDepth 100000 in
theorem canopylaw1_within.calls (a0:Int) (a1:Int) (r:Int) (w:World) (h:canopylaw1_within.f a0 a1=some r) :
 Calls Try.prog 30 #[.int .i64 a0,.int .i64 a1] w fun e w'=>e=.returned (.int .i64 r)∧Drawn0 w w':=by
 have H:(if a1=0 then (none) else (if (Int.tmod a0 a1) < 0 then (some (wrap64 ((Int.tmod a0 a1)+a1))) else (some (Int.tmod a0 a1))))=some r:=h
 clear h
 by_cases c3:a1=0
 ·rw [if_pos c3] at H
  exact absurd H (by simp)
 rw [if_neg c3] at H
 have c3b0:(a1 == 0)=false:=beq_eq_false_iff_ne.mpr c3
 have c3b1:(a1 != 0)=true:=bne_iff_ne.mpr c3
 by_cases c4:(Int.tmod a0 a1) < 0
 ·rw [if_pos c4] at H
  have c4b0:decide ((Int.tmod a0 a1) < 0)=true:=decide_eq_true c4
  clear c4
  obtain rfl:=Option.some.inj H
  go_enter Try.func30,Try.ntmps30
  go_wp2
  go_ret
  exact⟨by first|rfl|(simp;done)|(simp [*];done),by repeat (first|exact Drawn0.refl _|apply Drawn0.step)⟩
 rw [if_neg c4] at H
 have c4b0:decide ((Int.tmod a0 a1) < 0)=false:=decide_eq_false c4
 clear c4
 obtain rfl:=Option.some.inj H
 go_enter Try.func30,Try.ntmps30
 go_wp2
 go_ret
 exact⟨by first|rfl|(simp;done)|(simp [*];done),by repeat (first|exact Drawn0.refl _|apply Drawn0.step)⟩
end Go.Proofs.Ytjkhdldgmkkhjaa.P
end
section
namespace Go.Proofs.Ytjkhdldgmkkhjaa.P
open Go.RowKit Go.Proofs.YtjkhdldgmkkhjaaW.PrintWords Go.Proofs.YtjkhdldgmkkhjaaW.PrintLast Go.Proofs.YtjkhdldgmkkhjaaW.PrintMore
attribute [local go_sem] max2_int min2_int max_two min_two max_three min_three max_four min_four   -- for this text's walks alone
def canopylaw1_Word.l0:Nat→List (S46)→List Int→Int→List Int→Int→Option (List Int)
 | 0,_,_,_,_,_=>none
 | k+1,x0,x1,x2,x7,x8=>if x8 < (x1.length:Int) then (if x8 < x2 then (if 0≤x8 then ((canopylaw1_within.f (rd x1 x8) (x0.length:Int)).bind fun t183=>(if x7.length < 17592186044416 then (canopylaw1_Word.l0 k x0 x1 x2 (x7 ++ [t183]) (wrap64 (x8+1))) else (none))) else (none)) else (some x7)) else (some x7)
def canopylaw1_Word.f (k:Nat) (l0:List (S46)) (l1:List Int) (a2:Int):Option (List Int):=canopylaw1_Word.l0 k l0 l1 a2 ([]:List Int) 0
theorem canopylaw1_Word.mono_l:∀k,(∀y0 y1 y2 y3 y4,LeO (canopylaw1_Word.l0 k y0 y1 y2 y3 y4) (canopylaw1_Word.l0 (k+1) y0 y1 y2 y3 y4))
 | 0=>fun _ _ _ _ _ r h=>by simp [canopylaw1_Word.l0] at h
 | k+1=>by
  have ih0:=canopylaw1_Word.mono_l k
  intro y0 y1 y2 y3 y4
  unfold canopylaw1_Word.l0
  repeat' first
  | (with_reducible exact ih0 _ _ _ _ _)
  | (with_reducible exact LeO.refl _)
  | (with_reducible exact LeO.none _)
  | (with_reducible refine LeO.ite ?_ ?_)
  | (with_reducible refine LeO.bind ?_ (fun _=>?_))
  | exact ih0 _ _ _ _ _
  | exact LeO.none _
  | refine LeO.ite ?_ ?_
  | refine LeO.bind ?_ (fun _=>?_)
theorem canopylaw1_Word.mono:∀a0 a1 a2 k,LeO (canopylaw1_Word.f k a0 a1 a2) (canopylaw1_Word.f (k+1) a0 a1 a2):=by
 intro a0 a1 a2 k
 have ih0:=canopylaw1_Word.mono_l k
 unfold canopylaw1_Word.f
 repeat' first
  | (with_reducible exact ih0 _ _ _ _ _)
  | (with_reducible exact LeO.refl _)
  | (with_reducible exact LeO.none _)
  | (with_reducible refine LeO.ite ?_ ?_)
  | (with_reducible refine LeO.bind ?_ (fun _=>?_))
  | exact ih0 _ _ _ _ _
  | exact LeO.none _
  | refine LeO.ite ?_ ?_
  | refine LeO.bind ?_ (fun _=>?_)
set_option maxHeartbeats 8000000 in
set_option maxRecDepth 100000 in
theorem canopylaw1_Word.calls (k:Nat) (A0:Option Addr) (c0:Nat) (l0:List (S46)) (A1:Option Addr) (c1:Nat) (l1:List Int) (a2:Int) (r:List Int) (w:World) (hr0:Kd.C k46 w A0 l0.length l0) (hc0:l0.length≤c0) (hr1:Kd.C (Kd.int .i64) w A1 l1.length l1) (hc1:l1.length≤c1) (h:canopylaw1_Word.f k l0 l1 a2=some r) :
 Calls Try.prog 16 #[.slice A0 l0.length c0,.slice A1 l1.length c1,.int .i64 a2] w fun e w'=>∃v0_:Value,e=.returned (v0_)∧Kd.R (Kd.int .i64) 3 w' w.heap.size (fun _=>True) v0_ r∧Below w.heap.size w w':=by
 have HR0:=Aside0.mk hr0
 have HC0:=Aside0.mk hc0
 clear hr0 hc0
 have HR1:=Aside0.mk hr1
 have HC1:=Aside0.mk hc1
 clear hr1 hc1
 have HB:=Aside0.mk (Below.refl w.heap.size w)
 have H:(canopylaw1_Word.l0 k l0 l1 a2 ([]:List Int) 0)=some r:=h
 clear h
 have H':=Aside0.mk H
 clear H
 go_enter Try.func16,Try.ntmps16
 go_wp2
 go_loopg [7,8] k (fun kq v7 v8 w'=>∃(x7_1:List Int) (x8_1:Int),v8=.int .i64 x8_1∧Aside0 (canopylaw1_Word.l0 kq l0 l1 a2 x7_1 x8_1=some r)∧Aside0 (kq≤k)∧Aside0 (Kd.R (Kd.int .i64) 3 w' w.heap.size (fun _=>True) v7 x7_1)∧Aside0 (Below w.heap.size w w'))
 case atStart=>exact⟨(([]:List Int)),(0),(by first|rfl|(simp;done)|(simp [*];done)),H',⟨Nat.le_refl _⟩,⟨by first|exact Kd.R_nil _ _ _ _ _|exact Kd.N_nil _ _ _ _ _|exact Kd.V_nil _ _ _ _ _|exact Kd.Q_nil _ _ _ _ _|exact Kd.S_nil _ _ _ _ _⟩,⟨by repeat (first|(with_reducible first|exact HB.out|apply below_alloc|apply pw_below_drewN|apply below_drew1)|exact HB.out)⟩⟩
 case' round=>skip
 clear H'
 try clear c1
 try clear p2
 obtain⟨x7_1,x8_1,rfl,HA,HK1,HO_7,HB⟩:=hrel
 cases gk with
 | zero=>exact absurd HA.out (by simp [canopylaw1_Word.l0])
 | succ k1=>
  have H:=HA.out
  clear HA
  simp only [canopylaw1_Word.l0] at H
  by_cases c4:x8_1 < (l1.length:Int)
  ·rw [if_pos c4] at H
   have c4b0:decide (x8_1 < (l1.length:Int))=true:=decide_eq_true c4
   clear c4
   by_cases c5:x8_1 < a2
   ·rw [if_pos c5] at H
    have c5b0:decide (x8_1 < a2)=true:=decide_eq_true c5
    clear c5
    by_cases c6:0≤x8_1
    ·rw [if_pos c6] at H
     have c6b0:decide (0≤x8_1)=true:=decide_eq_true c6
     clear c6
     replace H:=Option.bind_eq_some_iff.mp H
     obtain⟨t183,A70,H⟩:=H
     replace H:(if x7_1.length < 17592186044416 then (canopylaw1_Word.l0 k1 l0 l1 a2 (x7_1 ++ [t183]) (wrap64 (x8_1+1))) else (none))=some r:=H
     have A7:=Aside0.mk A70
     clear A70
     by_cases c8:x7_1.length < 17592186044416
     ·rw [if_pos c8] at H
      have LMc8:=Aside0.mk c8
      clear c8
      obtain⟨y184,hy184⟩:∃y_:List Int,y_=(x7_1 ++ [t183]):=⟨_,rfl⟩
      replace H:(canopylaw1_Word.l0 k1 l0 l1 a2 y184 (wrap64 (x8_1+1)))=some r:=by first|(rw [hy184];with_reducible exact H)|(have H2_:=(Option.bind_some _ _).symm.trans H;rw [hy184];with_reducible exact H2_)|(have H2_:=(Option.bind_some _ _).symm.trans H;with_reducible exact H2_)|with_reducible exact H|(rw [hy184];exact H)|exact H
      have Ny184:=Aside0.mk hy184
      clear hy184
      have H':=Aside0.mk H
      clear H
      have p182:0≤(x8_1:Int):=of_decide_eq_true (by first|(with_reducible assumption)|assumption)
      have q182:x8_1 < (l1.length:Int):=of_decide_eq_true (by first|(with_reducible assumption)|assumption)
      obtain⟨ad182,e182,hx182_0⟩:=Kd.at_int HR1.out x8_1 p182 q182
      cases e182
      replace hx182_0:=(HB.out.cell (World.block_lt_of_cell? w _ hx182_0)).trans hx182_0
      replace p182:=eq_true p182
      replace q182:=eq_true q182
      go_wp2_with (first|((with_reducible refine gate_callee (f:=30) rfl ?_);refine goesL_ (some 27) rfl rfl Try.func30 (by kernel_rfl) rfl #[.int .i64 (rd l1 x8_1),.int .i64 (l0.length:Int)] rfl (by(try simp only [List.map_toArray,List.map_cons,List.map_nil]);first|done|rfl|(simp only [List.length_drop,List.length_take];rfl)) ?_;(with_reducible refine(canopylaw1_within.calls (rd l1 x8_1) (l0.length:Int) t183 _ A7.out).mono ?_);rintro e w' ⟨rfl,⟨nd,rfl⟩⟩;refine⟨_,rfl,?_⟩)|((with_reducible refine gate_builtin (b:=.append) (xs:=#[.tmp 20,.tmp 28]) rfl ?_);at_builtin;refine Kd.R_append (Kd.int .i64) (w0:=w) w.heap.size rfl (.tmp 20) (.tmp 28) 22 3 (.int .i64 0) 8 rfl Try.underlying22 info3 rfl (by decide) (by omega) u7 x7_1 t183 [.int .i64 t183] (fun _=>True) (fun _=>False) rfl rfl ?aP (fun _ hk=>hk.elim) ?aF ?aO ?aB ?aS ?aL ?_;(case aP=>exact rfl);(case aB=>exact(by repeat (first|(with_reducible first|exact HB.out|apply below_alloc|apply pw_below_drewN|apply below_drew1)|exact HB.out)));(case aF=>exact(fun _ _=>trivial));(case aO=>exact(by(with_reducible repeat (first|apply Kd.R_alloc|apply Kd.R_drewN|apply Kd.R_drew));exact HO_7.out));(case aS=>exact(below_size (by repeat (first|(with_reducible first|exact HB.out|apply below_alloc|apply pw_below_drewN|apply below_drew1)|exact HB.out))));(case aL=>have:=LMc8.out;omega);intro v185 w9 ho hb hg hat;rw [←Ny184.out] at ho;have n0_:=Aside0.mk (hb);have n1_:=Aside0.mk (ho);clear HB;clear HO_7;have HB:=n0_;have HO186:=n1_;clear n0_ n1_;clear ho hb hg hat))
      go_roundg k1
      case measure=>have:=HK1.out;omega
      case rel=>exact⟨(y184),(wrap64 (x8_1+1)),(by first|rfl|(simp;done)|(simp [*];done)),H',⟨by have:=HK1.out;omega⟩,⟨by(with_reducible repeat (first|apply Kd.R_alloc|apply Kd.R_drewN|apply Kd.R_drew));exact HO186.out⟩,⟨by repeat (first|(with_reducible first|exact HB.out|apply below_alloc|apply pw_below_drewN|apply below_drew1)|exact HB.out)⟩⟩
     rw [if_neg c8] at H
     exact absurd H (by simp)
    rw [if_neg c6] at H
    exact absurd H (by simp)
   rw [if_neg c5] at H
   have c5b0:decide (x8_1 < a2)=false:=decide_eq_false c5
   clear c5
   obtain rfl:=Option.some.inj H
   go_wp2
   go_ret
   exact⟨_,by first|rfl|(simp [errW_none,errW_some]<;>rfl)|(simp [*,errW_none,errW_some]<;>rfl),by(with_reducible repeat (first|apply Kd.R_alloc|apply Kd.R_drewN|apply Kd.R_drew));exact HO_7.out,by repeat (first|(with_reducible first|exact HB.out|apply below_alloc|apply pw_below_drewN|apply below_drew1)|exact HB.out)⟩
  rw [if_neg c4] at H
  have c4b0:decide (x8_1 < (l1.length:Int))=false:=decide_eq_false c4
  clear c4
  obtain rfl:=Option.some.inj H
  go_wp2
  go_ret
  exact⟨_,by first|rfl|(simp [errW_none,errW_some]<;>rfl)|(simp [*,errW_none,errW_some]<;>rfl),by(with_reducible repeat (first|apply Kd.R_alloc|apply Kd.R_drewN|apply Kd.R_drew));exact HO_7.out,by repeat (first|(with_reducible first|exact HB.out|apply below_alloc|apply pw_below_drewN|apply below_drew1)|exact HB.out)⟩
end Go.Proofs.Ytjkhdldgmkkhjaa.P
end
section
namespace Go.Proofs.Ytjkhdldgmkkhjaa.P
open Go.RowKit Go.Proofs.YtjkhdldgmkkhjaaW.PrintWords Go.Proofs.YtjkhdldgmkkhjaaW.PrintLast Go.Proofs.YtjkhdldgmkkhjaaW.PrintMore
attribute [local go_sem] max2_int min2_int max_two min_two max_three min_three max_four min_four   -- for this text's walks alone
def canopylaw4_few.l0:Nat→List (S46)→List Int→Int→Int→Int→Option (List Int)
 | 0,_,_,_,_,_=>none
 | k+1,x0,x1,x2,x7,x8=>if x8 < (x1.length:Int) then (if 0≤x8 then (if 0≤(rd x1 x8) then (if (rd x1 x8) < (x0.length:Int) then (if ((rd_T46 x0 (rd x1 x8)).f1)=1 then (if (wrap64 (x7+1)) > x2 then (if x8≤(x1.length:Int) then (some (x1.take (x8:Int).toNat)) else (none)) else (canopylaw4_few.l0 k x0 x1 x2 (wrap64 (x7+1)) (wrap64 (x8+1)))) else (if x7 > x2 then (if x8≤(x1.length:Int) then (some (x1.take (x8:Int).toNat)) else (none)) else (canopylaw4_few.l0 k x0 x1 x2 x7 (wrap64 (x8+1))))) else (none)) else (none)) else (none)) else (some x1)
def canopylaw4_few.f (k:Nat) (l0:List (S46)) (l1:List Int) (a2:Int):Option (List Int):=canopylaw4_few.l0 k l0 l1 a2 0 0
theorem canopylaw4_few.mono_l:∀k,(∀y0 y1 y2 y3 y4,LeO (canopylaw4_few.l0 k y0 y1 y2 y3 y4) (canopylaw4_few.l0 (k+1) y0 y1 y2 y3 y4))
 | 0=>fun _ _ _ _ _ r h=>by simp [canopylaw4_few.l0] at h
 | k+1=>by
  have ih0:=canopylaw4_few.mono_l k
  intro y0 y1 y2 y3 y4
  unfold canopylaw4_few.l0
  repeat' first
  | (with_reducible exact ih0 _ _ _ _ _)
  | (with_reducible exact LeO.refl _)
  | (with_reducible exact LeO.none _)
  | (with_reducible refine LeO.ite ?_ ?_)
  | (with_reducible refine LeO.bind ?_ (fun _=>?_))
  | exact ih0 _ _ _ _ _
  | exact LeO.none _
  | refine LeO.ite ?_ ?_
  | refine LeO.bind ?_ (fun _=>?_)
theorem canopylaw4_few.mono:∀a0 a1 a2 k,LeO (canopylaw4_few.f k a0 a1 a2) (canopylaw4_few.f (k+1) a0 a1 a2):=by
 intro a0 a1 a2 k
 have ih0:=canopylaw4_few.mono_l k
 unfold canopylaw4_few.f
 repeat' first
  | (with_reducible exact ih0 _ _ _ _ _)
  | (with_reducible exact LeO.refl _)
  | (with_reducible exact LeO.none _)
  | (with_reducible refine LeO.ite ?_ ?_)
  | (with_reducible refine LeO.bind ?_ (fun _=>?_))
  | exact ih0 _ _ _ _ _
  | exact LeO.none _
  | refine LeO.ite ?_ ?_
  | refine LeO.bind ?_ (fun _=>?_)
set_option maxHeartbeats 8000000 in
set_option maxRecDepth 100000 in
theorem canopylaw4_few.calls (k:Nat) (A0:Option Addr) (c0:Nat) (l0:List (S46)) (P1_:Nat→Prop) (u9000_:Value) (l1:List Int) (a2:Int) (r:List Int) (w0 w:World) (hB:Below w0.heap.size w0 w) (hr0:∀W_,Kept w W_ (fun k_=>P1_ k_)→Kd.C k46 W_ A0 l0.length l0) (hc0:l0.length≤c0) (ho1:Kd.R (Kd.int .i64) 3 w w0.heap.size P1_ u9000_ l1) (h:canopylaw4_few.f k l0 l1 a2=some r) :
 Calls Try.prog 15 #[.slice A0 l0.length c0,u9000_,.int .i64 a2] w fun e w'=>∃v0_:Value,e=.returned (v0_)∧Kd.R (Kd.int .i64) 3 w' w0.heap.size (fun k_=>(P1_ k_∨w.heap.size≤k_)) v0_ r∧Below w0.heap.size w0 w'∧Kept w w' (fun k_=>P1_ k_):=by
 have HR0:=Aside0.mk hr0
 have HC0:=Aside0.mk hc0
 clear hr0 hc0
 have HO1:=Aside0.mk (show Kd.R (Kd.int .i64) 3 w w0.heap.size (fun k_=>(P1_ k_∨w.heap.size≤k_)) u9000_ l1 from Kd.R_mono ho1 (fun k_ hk=>(.inl hk)))
 have HK:=Aside0.mk (Kept.refl w (fun k_=>P1_ k_))
 have HW0:=Aside0.mk hB.size
 have HB:=Aside0.mk hB
 clear hB
 have H:(canopylaw4_few.l0 k l0 l1 a2 0 0)=some r:=h
 clear h
 have H':=Aside0.mk H
 clear H
 go_enter Try.func15,Try.ntmps15
 go_wp2
 go_loopg [7,8] k (fun kq v7 v8 w'=>∃(x7_1:Int) (x8_1:Int),v7=.int .i64 x7_1∧v8=.int .i64 x8_1∧Aside0 (canopylaw4_few.l0 kq l0 l1 a2 x7_1 x8_1=some r)∧Aside0 (kq≤k)∧Aside0 (Kd.R (Kd.int .i64) 3 w' w0.heap.size (fun k_=>(P1_ k_∨w.heap.size≤k_)) u9000_ l1)∧Aside0 (Kept w w' (fun k_=>P1_ k_))∧Aside0 (Below w0.heap.size w0 w'))
 case atStart=>exact⟨(0),(0),(by first|rfl|(simp;done)|(simp [*];done)),(by first|rfl|(simp;done)|(simp [*];done)),H',⟨Nat.le_refl _⟩,⟨by(with_reducible repeat (first|apply Kd.R_alloc|apply Kd.R_drewN|apply Kd.R_drew));exact HO1.out⟩,⟨by repeat (first|(with_reducible first|exact HK.out|apply Kept.alloc|apply Kept.drewN|apply Kept.drew)|exact HK.out)⟩,⟨by repeat (first|(with_reducible first|exact HB.out|apply below_alloc|apply pw_below_drewN|apply below_drew1)|exact HB.out)⟩⟩
 case' round=>skip
 clear H'
 try clear c1
 try clear p2
 obtain⟨x7_1,x8_1,rfl,rfl,HA,HK1,HO_1,HK,HB⟩:=hrel
 cases gk with
 | zero=>exact absurd HA.out (by simp [canopylaw4_few.l0])
 | succ k1=>
  have H:=HA.out
  clear HA
  simp only [canopylaw4_few.l0] at H
  by_cases c4:x8_1 < (l1.length:Int)
  ·rw [if_pos c4] at H
   have c4b0:decide (x8_1 < (l1.length:Int))=true:=decide_eq_true c4
   clear c4
   by_cases c5:0≤x8_1
   ·rw [if_pos c5] at H
    have c5b0:decide (0≤x8_1)=true:=decide_eq_true c5
    clear c5
    by_cases c6:0≤(rd l1 x8_1)
    ·rw [if_pos c6] at H
     have c6b0:decide (0≤(rd l1 x8_1))=true:=decide_eq_true c6
     clear c6
     by_cases c7:(rd l1 x8_1) < (l0.length:Int)
     ·rw [if_pos c7] at H
      have c7b0:decide ((rd l1 x8_1) < (l0.length:Int))=true:=decide_eq_true c7
      clear c7
      by_cases c8:((rd_T46 l0 (rd l1 x8_1)).f1)=1
      ·rw [if_pos c8] at H
       have c8b0:(((rd_T46 l0 (rd l1 x8_1)).f1) == 1)=true:=beq_iff_eq.mpr c8
       have c8b1:(((rd_T46 l0 (rd l1 x8_1)).f1) != 1)=false:=bne_eq_false_iff_eq.mpr c8
       clear c8
       by_cases c9:(wrap64 (x7_1+1)) > a2
       ·rw [if_pos c9] at H
        have c9b0:decide (a2 < (wrap64 (x7_1+1)))=true:=decide_eq_true c9
        clear c9
        by_cases c10:x8_1≤(l1.length:Int)
        ·rw [if_pos c10] at H
         have c10b0:=eq_true c10
         have c10b1:decide (x8_1≤(l1.length:Int))=true:=decide_eq_true c10
         clear c10
         obtain⟨y176,hy176⟩:∃y_:List Int,y_=(l1.take (x8_1:Int).toNat):=⟨_,rfl⟩
         replace H:(some y176)=some r:=by first|(rw [hy176];with_reducible exact H)|(have H2_:=(Option.bind_some _ _).symm.trans H;rw [hy176];with_reducible exact H2_)|(have H2_:=(Option.bind_some _ _).symm.trans H;with_reducible exact H2_)|with_reducible exact H|(rw [hy176];exact H)|exact H
         have Ny176:=Aside0.mk hy176
         clear hy176
         obtain rfl:=Option.some.inj H
         obtain⟨Ao11,co11,eo11⟩:=Kd.R_slice HO_1.out
         subst eo11
         have p174:0≤(x8_1:Int):=of_decide_eq_true (by first|(with_reducible assumption)|assumption)
         have q174:x8_1 < (l1.length:Int):=of_decide_eq_true (by first|(with_reducible assumption)|assumption)
         obtain⟨ad174,e174,hx174_0⟩:=Kd.at_int (Kd.R_reads' HO_1.out).2.2 x8_1 p174 q174
         cases e174
         replace p174:=eq_true p174
         replace q174:=eq_true q174
         have p175:0≤((rd l1 x8_1):Int):=of_decide_eq_true (by first|(with_reducible assumption)|assumption)
         have q175:(rd l1 x8_1) < (l0.length:Int):=of_decide_eq_true (by first|(with_reducible assumption)|assumption)
         obtain⟨ad175,e175,hx175_0,hx175_1⟩:=at_T46 (Kd.C_kept_now HR0.out HK.out) (rd l1 x8_1) p175 q175
         cases e175
         replace p175:=eq_true p175
         replace q175:=eq_true q175
         have q12:(x8_1:Int)≤((l1.length:Int):Int):=of_decide_eq_true (by first|(with_reducible assumption)|assumption)
         obtain⟨i012,hi012,_,hsz12,_⟩:=info_parts info3
         have hcut12:=cut_to (P:=Try.prog) 22 3 .i64 Try.underlying22 hi012 (some ad174) l1.length co11 x8_1 (of_decide_eq_true (by first|(with_reducible assumption)|assumption)) q12 (Kd.R_reads' HO_1.out).2.1
         have hr12:=Kd.R_take (m:=(x8_1:Int).toNat) HO_1.out (by omega)
         have hy12:y176.length=(x8_1:Int).toNat:=(by rw [Ny176.out,List.length_take];omega)
         rw [←Ny176.out] at hr12
         rw [←hy12] at hr12 hcut12
         clear hy12 hi012 hsz12 HO_1
         have HO178:=Aside0.mk hr12
         clear hr12
         replace q12:=eq_true q12
         go_wp2
         go_ret
         exact⟨_,by first|rfl|(simp [errW_none,errW_some]<;>rfl)|(simp [*,errW_none,errW_some]<;>rfl),by(with_reducible repeat (first|apply Kd.R_alloc|apply Kd.R_drewN|apply Kd.R_drew));exact HO178.out,by repeat (first|(with_reducible first|exact HB.out|apply below_alloc|apply pw_below_drewN|apply below_drew1)|exact HB.out),by repeat (first|(with_reducible first|exact HK.out|apply Kept.alloc|apply Kept.drewN|apply Kept.drew)|exact HK.out)⟩
        rw [if_neg c10] at H
        exact absurd H (by simp)
       rw [if_neg c9] at H
       have c9b0:decide (a2 < (wrap64 (x7_1+1)))=false:=decide_eq_false c9
       clear c9
       have H':=Aside0.mk H
       clear H
       obtain⟨Ao13,co13,eo13⟩:=Kd.R_slice HO_1.out
       subst eo13
       have p174:0≤(x8_1:Int):=of_decide_eq_true (by first|(with_reducible assumption)|assumption)
       have q174:x8_1 < (l1.length:Int):=of_decide_eq_true (by first|(with_reducible assumption)|assumption)
       obtain⟨ad174,e174,hx174_0⟩:=Kd.at_int (Kd.R_reads' HO_1.out).2.2 x8_1 p174 q174
       cases e174
       replace p174:=eq_true p174
       replace q174:=eq_true q174
       have p175:0≤((rd l1 x8_1):Int):=of_decide_eq_true (by first|(with_reducible assumption)|assumption)
       have q175:(rd l1 x8_1) < (l0.length:Int):=of_decide_eq_true (by first|(with_reducible assumption)|assumption)
       obtain⟨ad175,e175,hx175_0,hx175_1⟩:=at_T46 (Kd.C_kept_now HR0.out HK.out) (rd l1 x8_1) p175 q175
       cases e175
       replace p175:=eq_true p175
       replace q175:=eq_true q175
       go_wp2
       go_roundg k1
       case measure=>have:=HK1.out;omega
       case rel=>exact⟨(wrap64 (x7_1+1)),(wrap64 (x8_1+1)),(by first|rfl|(simp;done)|(simp [*];done)),(by first|rfl|(simp;done)|(simp [*];done)),H',⟨by have:=HK1.out;omega⟩,⟨by(with_reducible repeat (first|apply Kd.R_alloc|apply Kd.R_drewN|apply Kd.R_drew));exact HO_1.out⟩,⟨by repeat (first|(with_reducible first|exact HK.out|apply Kept.alloc|apply Kept.drewN|apply Kept.drew)|exact HK.out)⟩,⟨by repeat (first|(with_reducible first|exact HB.out|apply below_alloc|apply pw_below_drewN|apply below_drew1)|exact HB.out)⟩⟩
      rw [if_neg c8] at H
      have c8b0:(((rd_T46 l0 (rd l1 x8_1)).f1) == 1)=false:=beq_eq_false_iff_ne.mpr c8
      have c8b1:(((rd_T46 l0 (rd l1 x8_1)).f1) != 1)=true:=bne_iff_ne.mpr c8
      by_cases c14:x7_1 > a2
      ·rw [if_pos c14] at H
       have c14b0:decide (a2 < x7_1)=true:=decide_eq_true c14
       clear c14
       by_cases c15:x8_1≤(l1.length:Int)
       ·rw [if_pos c15] at H
        have c15b0:=eq_true c15
        have c15b1:decide (x8_1≤(l1.length:Int))=true:=decide_eq_true c15
        clear c15
        obtain⟨y179,hy179⟩:∃y_:List Int,y_=(l1.take (x8_1:Int).toNat):=⟨_,rfl⟩
        replace H:(some y179)=some r:=by first|(rw [hy179];with_reducible exact H)|(have H2_:=(Option.bind_some _ _).symm.trans H;rw [hy179];with_reducible exact H2_)|(have H2_:=(Option.bind_some _ _).symm.trans H;with_reducible exact H2_)|with_reducible exact H|(rw [hy179];exact H)|exact H
        have Ny179:=Aside0.mk hy179
        clear hy179
        obtain rfl:=Option.some.inj H
        obtain⟨Ao16,co16,eo16⟩:=Kd.R_slice HO_1.out
        subst eo16
        have p174:0≤(x8_1:Int):=of_decide_eq_true (by first|(with_reducible assumption)|assumption)
        have q174:x8_1 < (l1.length:Int):=of_decide_eq_true (by first|(with_reducible assumption)|assumption)
        obtain⟨ad174,e174,hx174_0⟩:=Kd.at_int (Kd.R_reads' HO_1.out).2.2 x8_1 p174 q174
        cases e174
        replace p174:=eq_true p174
        replace q174:=eq_true q174
        have p175:0≤((rd l1 x8_1):Int):=of_decide_eq_true (by first|(with_reducible assumption)|assumption)
        have q175:(rd l1 x8_1) < (l0.length:Int):=of_decide_eq_true (by first|(with_reducible assumption)|assumption)
        obtain⟨ad175,e175,hx175_0,hx175_1⟩:=at_T46 (Kd.C_kept_now HR0.out HK.out) (rd l1 x8_1) p175 q175
        cases e175
        replace p175:=eq_true p175
        replace q175:=eq_true q175
        have q17:(x8_1:Int)≤((l1.length:Int):Int):=of_decide_eq_true (by first|(with_reducible assumption)|assumption)
        obtain⟨i017,hi017,_,hsz17,_⟩:=info_parts info3
        have hcut17:=cut_to (P:=Try.prog) 22 3 .i64 Try.underlying22 hi017 (some ad174) l1.length co16 x8_1 (of_decide_eq_true (by first|(with_reducible assumption)|assumption)) q17 (Kd.R_reads' HO_1.out).2.1
        have hr17:=Kd.R_take (m:=(x8_1:Int).toNat) HO_1.out (by omega)
        have hy17:y179.length=(x8_1:Int).toNat:=(by rw [Ny179.out,List.length_take];omega)
        rw [←Ny179.out] at hr17
        rw [←hy17] at hr17 hcut17
        clear hy17 hi017 hsz17 HO_1
        have HO181:=Aside0.mk hr17
        clear hr17
        replace q17:=eq_true q17
        go_wp2
        go_ret
        exact⟨_,by first|rfl|(simp [errW_none,errW_some]<;>rfl)|(simp [*,errW_none,errW_some]<;>rfl),by(with_reducible repeat (first|apply Kd.R_alloc|apply Kd.R_drewN|apply Kd.R_drew));exact HO181.out,by repeat (first|(with_reducible first|exact HB.out|apply below_alloc|apply pw_below_drewN|apply below_drew1)|exact HB.out),by repeat (first|(with_reducible first|exact HK.out|apply Kept.alloc|apply Kept.drewN|apply Kept.drew)|exact HK.out)⟩
       rw [if_neg c15] at H
       exact absurd H (by simp)
      rw [if_neg c14] at H
      have c14b0:decide (a2 < x7_1)=false:=decide_eq_false c14
      clear c14
      have H':=Aside0.mk H
      clear H
      obtain⟨Ao18,co18,eo18⟩:=Kd.R_slice HO_1.out
      subst eo18
      have p174:0≤(x8_1:Int):=of_decide_eq_true (by first|(with_reducible assumption)|assumption)
      have q174:x8_1 < (l1.length:Int):=of_decide_eq_true (by first|(with_reducible assumption)|assumption)
      obtain⟨ad174,e174,hx174_0⟩:=Kd.at_int (Kd.R_reads' HO_1.out).2.2 x8_1 p174 q174
      cases e174
      replace p174:=eq_true p174
      replace q174:=eq_true q174
      have p175:0≤((rd l1 x8_1):Int):=of_decide_eq_true (by first|(with_reducible assumption)|assumption)
      have q175:(rd l1 x8_1) < (l0.length:Int):=of_decide_eq_true (by first|(with_reducible assumption)|assumption)
      obtain⟨ad175,e175,hx175_0,hx175_1⟩:=at_T46 (Kd.C_kept_now HR0.out HK.out) (rd l1 x8_1) p175 q175
      cases e175
      replace p175:=eq_true p175
      replace q175:=eq_true q175
      go_wp2
      go_roundg k1
      case measure=>have:=HK1.out;omega
      case rel=>exact⟨(x7_1),(wrap64 (x8_1+1)),(by first|rfl|(simp;done)|(simp [*];done)),(by first|rfl|(simp;done)|(simp [*];done)),H',⟨by have:=HK1.out;omega⟩,⟨by(with_reducible repeat (first|apply Kd.R_alloc|apply Kd.R_drewN|apply Kd.R_drew));exact HO_1.out⟩,⟨by repeat (first|(with_reducible first|exact HK.out|apply Kept.alloc|apply Kept.drewN|apply Kept.drew)|exact HK.out)⟩,⟨by repeat (first|(with_reducible first|exact HB.out|apply below_alloc|apply pw_below_drewN|apply below_drew1)|exact HB.out)⟩⟩
     rw [if_neg c7] at H
     exact absurd H (by simp)
    rw [if_neg c6] at H
    exact absurd H (by simp)
   rw [if_neg c5] at H
   exact absurd H (by simp)
  rw [if_neg c4] at H
  have c4b0:decide (x8_1 < (l1.length:Int))=false:=decide_eq_false c4
  clear c4
  obtain rfl:=Option.some.inj H
  obtain⟨Ao19,co19,eo19⟩:=Kd.R_slice HO_1.out
  subst eo19
  go_wp2
  go_ret
  exact⟨_,by first|rfl|(simp [errW_none,errW_some]<;>rfl)|(simp [*,errW_none,errW_some]<;>rfl),by(with_reducible repeat (first|apply Kd.R_alloc|apply Kd.R_drewN|apply Kd.R_drew));exact HO_1.out,by repeat (first|(with_reducible first|exact HB.out|apply below_alloc|apply pw_below_drewN|apply below_drew1)|exact HB.out),by repeat (first|(with_reducible first|exact HK.out|apply Kept.alloc|apply Kept.drewN|apply Kept.drew)|exact HK.out)⟩
end Go.Proofs.Ytjkhdldgmkkhjaa.P
end
section
namespace Go.Proofs.Ytjkhdldgmkkhjaa.P
open Go.RowKit Go.Proofs.YtjkhdldgmkkhjaaW.PrintWords Go.Proofs.YtjkhdldgmkkhjaaW.PrintLast Go.Proofs.YtjkhdldgmkkhjaaW.PrintMore
attribute [local go_sem] max2_int min2_int max_two min_two max_three min_three max_four min_four   -- for this text's walks alone
def canopylaw4_within.f (a0:Int) (a1:Int):Option (Int):=if a1=0 then (none) else (if (Int.tmod a0 a1) < 0 then (some (wrap64 ((Int.tmod a0 a1)+a1))) else (some (Int.tmod a0 a1)))
set_option maxHeartbeats 8000000 in
set_option maxRecDepth 100000 in
theorem canopylaw4_within.calls (a0:Int) (a1:Int) (r:Int) (w:World) (h:canopylaw4_within.f a0 a1=some r) :
 Calls Try.prog 26 #[.int .i64 a0,.int .i64 a1] w fun e w'=>e=.returned (.int .i64 r)∧Drawn0 w w':=by
 have H:(if a1=0 then (none) else (if (Int.tmod a0 a1) < 0 then (some (wrap64 ((Int.tmod a0 a1)+a1))) else (some (Int.tmod a0 a1))))=some r:=h
 clear h
 by_cases c3:a1=0
 ·rw [if_pos c3] at H
  exact absurd H (by simp)
 rw [if_neg c3] at H
 have c3b0:(a1 == 0)=false:=beq_eq_false_iff_ne.mpr c3
 have c3b1:(a1 != 0)=true:=bne_iff_ne.mpr c3
 by_cases c4:(Int.tmod a0 a1) < 0
 ·rw [if_pos c4] at H
  have c4b0:decide ((Int.tmod a0 a1) < 0)=true:=decide_eq_true c4
  clear c4
  obtain rfl:=Option.some.inj H
  go_enter Try.func26,Try.ntmps26
  go_wp2
  go_ret
  exact⟨by first|rfl|(simp;done)|(simp [*];done),by repeat (first|exact Drawn0.refl _|apply Drawn0.step)⟩
 rw [if_neg c4] at H
 have c4b0:decide ((Int.tmod a0 a1) < 0)=false:=decide_eq_false c4
 clear c4
 obtain rfl:=Option.some.inj H
 go_enter Try.func26,Try.ntmps26
 go_wp2
 go_ret
 exact⟨by first|rfl|(simp;done)|(simp [*];done),by repeat (first|exact Drawn0.refl _|apply Drawn0.step)⟩
end Go.Proofs.Ytjkhdldgmkkhjaa.P
end
section
namespace Go.Proofs.Ytjkhdldgmkkhjaa.P
open Go.RowKit Go.Proofs.YtjkhdldgmkkhjaaW.PrintWords Go.Proofs.YtjkhdldgmkkhjaaW.PrintLast Go.Proofs.YtjkhdldgmkkhjaaW.PrintMore
attribute [local go_sem] max2_int min2_int max_two min_two max_three min_three max_four min_four   -- for this text's walks alone
def canopylaw3_pick.l0:Nat→List (S46)→Int→Int→List Int→Int→Option (Int)
 | 0,_,_,_,_,_=>none
 | k+1,x0,x1,x2,x7,x8=>if x8 < (x0.length:Int) then (if 0≤x8 then (if ((rd_T46 x0 x8).f1)=x1 then (if x7.length < 17592186044416 then (canopylaw3_pick.l0 k x0 x1 x2 (x7 ++ [x8]) (wrap64 (x8+1))) else (none)) else (canopylaw3_pick.l0 k x0 x1 x2 x7 (wrap64 (x8+1)))) else (none)) else (if (x7.length:Int)=0 then (some (-1)) else (if 0≤(Int.tmod x2 (x7.length:Int)) then (if (Int.tmod x2 (x7.length:Int)) < (x7.length:Int) then (some (rd x7 (Int.tmod x2 (x7.length:Int)))) else (none)) else (none)))
def canopylaw3_pick.f (k:Nat) (l0:List (S46)) (a1:Int) (a2:Int):Option (Int):=canopylaw3_pick.l0 k l0 a1 a2 ([]:List Int) 0
theorem canopylaw3_pick.mono_l:∀k,(∀y0 y1 y2 y3 y4,LeO (canopylaw3_pick.l0 k y0 y1 y2 y3 y4) (canopylaw3_pick.l0 (k+1) y0 y1 y2 y3 y4))
 | 0=>fun _ _ _ _ _ r h=>by simp [canopylaw3_pick.l0] at h
 | k+1=>by
  have ih0:=canopylaw3_pick.mono_l k
  intro y0 y1 y2 y3 y4
  unfold canopylaw3_pick.l0
  repeat' first
  | (with_reducible exact ih0 _ _ _ _ _)
  | (with_reducible exact LeO.refl _)
  | (with_reducible exact LeO.none _)
  | (with_reducible refine LeO.ite ?_ ?_)
  | (with_reducible refine LeO.bind ?_ (fun _=>?_))
  | exact ih0 _ _ _ _ _
  | exact LeO.none _
  | refine LeO.ite ?_ ?_
  | refine LeO.bind ?_ (fun _=>?_)
theorem canopylaw3_pick.mono:∀a0 a1 a2 k,LeO (canopylaw3_pick.f k a0 a1 a2) (canopylaw3_pick.f (k+1) a0 a1 a2):=by
 intro a0 a1 a2 k
 have ih0:=canopylaw3_pick.mono_l k
 unfold canopylaw3_pick.f
 repeat' first
  | (with_reducible exact ih0 _ _ _ _ _)
  | (with_reducible exact LeO.refl _)
  | (with_reducible exact LeO.none _)
  | (with_reducible refine LeO.ite ?_ ?_)
  | (with_reducible refine LeO.bind ?_ (fun _=>?_))
  | exact ih0 _ _ _ _ _
  | exact LeO.none _
  | refine LeO.ite ?_ ?_
  | refine LeO.bind ?_ (fun _=>?_)
set_option maxHeartbeats 8000000 in
set_option maxRecDepth 100000 in
theorem canopylaw3_pick.calls (k:Nat) (A0:Option Addr) (c0:Nat) (l0:List (S46)) (a1:Int) (a2:Int) (r:Int) (w:World) (hr0:Kd.C k46 w A0 l0.length l0) (hc0:l0.length≤c0) (h:canopylaw3_pick.f k l0 a1 a2=some r) :
 Calls Try.prog 32 #[.slice A0 l0.length c0,.int .i64 a1,.int .i64 a2] w fun e w'=>e=.returned (.int .i64 r)∧Below w.heap.size w w':=by
 have HR0:=Aside0.mk hr0
 have HC0:=Aside0.mk hc0
 clear hr0 hc0
 have HB:=Aside0.mk (Below.refl w.heap.size w)
 have H:(canopylaw3_pick.l0 k l0 a1 a2 ([]:List Int) 0)=some r:=h
 clear h
 have H':=Aside0.mk H
 clear H
 go_enter Try.func32,Try.ntmps32
 go_wp2
 go_loopg [7,8] k (fun kq v7 v8 w'=>∃(x7_1:List Int) (x8_1:Int),v8=.int .i64 x8_1∧Aside0 (canopylaw3_pick.l0 kq l0 a1 a2 x7_1 x8_1=some r)∧Aside0 (kq≤k)∧Aside0 (Kd.R (Kd.int .i64) 3 w' w.heap.size (fun _=>True) v7 x7_1)∧Aside0 (Below w.heap.size w w'))
 case atStart=>exact⟨(([]:List Int)),(0),(by first|rfl|(simp;done)|(simp [*];done)),H',⟨Nat.le_refl _⟩,⟨by first|exact Kd.R_nil _ _ _ _ _|exact Kd.N_nil _ _ _ _ _|exact Kd.V_nil _ _ _ _ _|exact Kd.Q_nil _ _ _ _ _|exact Kd.S_nil _ _ _ _ _⟩,⟨by repeat (first|(with_reducible first|exact HB.out|apply below_alloc|apply pw_below_drewN|apply below_drew1)|exact HB.out)⟩⟩
 case' round=>skip
 clear H'
 try clear p2
 try clear c3
 obtain⟨x7_1,x8_1,rfl,HA,HK1,HO_7,HB⟩:=hrel
 cases gk with
 | zero=>exact absurd HA.out (by simp [canopylaw3_pick.l0])
 | succ k1=>
  have H:=HA.out
  clear HA
  simp only [canopylaw3_pick.l0] at H
  by_cases c4:x8_1 < (l0.length:Int)
  ·rw [if_pos c4] at H
   have c4b0:decide (x8_1 < (l0.length:Int))=true:=decide_eq_true c4
   clear c4
   by_cases c5:0≤x8_1
   ·rw [if_pos c5] at H
    have c5b0:decide (0≤x8_1)=true:=decide_eq_true c5
    clear c5
    by_cases c6:((rd_T46 l0 x8_1).f1)=a1
    ·rw [if_pos c6] at H
     have c6b0:(((rd_T46 l0 x8_1).f1) == a1)=true:=beq_iff_eq.mpr c6
     have c6b1:(((rd_T46 l0 x8_1).f1) != a1)=false:=bne_eq_false_iff_eq.mpr c6
     clear c6
     by_cases c7:x7_1.length < 17592186044416
     ·rw [if_pos c7] at H
      have LMc7:=Aside0.mk c7
      clear c7
      obtain⟨y143,hy143⟩:∃y_:List Int,y_=(x7_1 ++ [x8_1]):=⟨_,rfl⟩
      replace H:(canopylaw3_pick.l0 k1 l0 a1 a2 y143 (wrap64 (x8_1+1)))=some r:=by first|(rw [hy143];with_reducible exact H)|(have H2_:=(Option.bind_some _ _).symm.trans H;rw [hy143];with_reducible exact H2_)|(have H2_:=(Option.bind_some _ _).symm.trans H;with_reducible exact H2_)|with_reducible exact H|(rw [hy143];exact H)|exact H
      have Ny143:=Aside0.mk hy143
      clear hy143
      have H':=Aside0.mk H
      clear H
      have p142:0≤(x8_1:Int):=of_decide_eq_true (by first|(with_reducible assumption)|assumption)
      have q142:x8_1 < (l0.length:Int):=of_decide_eq_true (by first|(with_reducible assumption)|assumption)
      obtain⟨ad142,e142,hx142_0,hx142_1⟩:=at_T46 HR0.out x8_1 p142 q142
      cases e142
      replace hx142_0:=(HB.out.cell (World.block_lt_of_cell? w _ hx142_0)).trans hx142_0
      replace hx142_1:=(HB.out.cell (World.block_lt_of_cell? w _ hx142_1)).trans hx142_1
      replace p142:=eq_true p142
      replace q142:=eq_true q142
      go_wp2_with (first|((with_reducible refine gate_builtin (b:=.append) (xs:=#[.tmp 22,.tmp 24]) rfl ?_);at_builtin;refine Kd.R_append (Kd.int .i64) (w0:=w) w.heap.size rfl (.tmp 22) (.tmp 24) 22 3 (.int .i64 0) 8 rfl Try.underlying22 info3 rfl (by decide) (by omega) u7 x7_1 x8_1 [.int .i64 x8_1] (fun _=>True) (fun _=>False) rfl rfl ?aP (fun _ hk=>hk.elim) ?aF ?aO ?aB ?aS ?aL ?_;(case aP=>exact rfl);(case aB=>exact(by repeat (first|(with_reducible first|exact HB.out|apply below_alloc|apply pw_below_drewN|apply below_drew1)|exact HB.out)));(case aF=>exact(fun _ _=>trivial));(case aO=>exact(by(with_reducible repeat (first|apply Kd.R_alloc|apply Kd.R_drewN|apply Kd.R_drew));exact HO_7.out));(case aS=>exact(below_size (by repeat (first|(with_reducible first|exact HB.out|apply below_alloc|apply pw_below_drewN|apply below_drew1)|exact HB.out))));(case aL=>have:=LMc7.out;omega);intro v144 w8 ho hb hg hat;rw [←Ny143.out] at ho;have n0_:=Aside0.mk (hb);have n1_:=Aside0.mk (ho);clear HB;clear HO_7;have HB:=n0_;have HO145:=n1_;clear n0_ n1_;clear ho hb hg hat))
      go_roundg k1
      case measure=>have:=HK1.out;omega
      case rel=>exact⟨(y143),(wrap64 (x8_1+1)),(by first|rfl|(simp;done)|(simp [*];done)),H',⟨by have:=HK1.out;omega⟩,⟨by(with_reducible repeat (first|apply Kd.R_alloc|apply Kd.R_drewN|apply Kd.R_drew));exact HO145.out⟩,⟨by repeat (first|(with_reducible first|exact HB.out|apply below_alloc|apply pw_below_drewN|apply below_drew1)|exact HB.out)⟩⟩
     rw [if_neg c7] at H
     exact absurd H (by simp)
    rw [if_neg c6] at H
    have c6b0:(((rd_T46 l0 x8_1).f1) == a1)=false:=beq_eq_false_iff_ne.mpr c6
    have c6b1:(((rd_T46 l0 x8_1).f1) != a1)=true:=bne_iff_ne.mpr c6
    have H':=Aside0.mk H
    clear H
    have p142:0≤(x8_1:Int):=of_decide_eq_true (by first|(with_reducible assumption)|assumption)
    have q142:x8_1 < (l0.length:Int):=of_decide_eq_true (by first|(with_reducible assumption)|assumption)
    obtain⟨ad142,e142,hx142_0,hx142_1⟩:=at_T46 HR0.out x8_1 p142 q142
    cases e142
    replace hx142_0:=(HB.out.cell (World.block_lt_of_cell? w _ hx142_0)).trans hx142_0
    replace hx142_1:=(HB.out.cell (World.block_lt_of_cell? w _ hx142_1)).trans hx142_1
    replace p142:=eq_true p142
    replace q142:=eq_true q142
    go_wp2
    go_roundg k1
    case measure=>have:=HK1.out;omega
    case rel=>exact⟨(x7_1),(wrap64 (x8_1+1)),(by first|rfl|(simp;done)|(simp [*];done)),H',⟨by have:=HK1.out;omega⟩,⟨by(with_reducible repeat (first|apply Kd.R_alloc|apply Kd.R_drewN|apply Kd.R_drew));exact HO_7.out⟩,⟨by repeat (first|(with_reducible first|exact HB.out|apply below_alloc|apply pw_below_drewN|apply below_drew1)|exact HB.out)⟩⟩
   rw [if_neg c5] at H
   exact absurd H (by simp)
  rw [if_neg c4] at H
  have c4b0:decide (x8_1 < (l0.length:Int))=false:=decide_eq_false c4
  clear c4
  by_cases c9:(x7_1.length:Int)=0
  ·rw [if_pos c9] at H
   have c9b0:((x7_1.length:Int) == 0)=true:=beq_iff_eq.mpr c9
   have c9b1:((x7_1.length:Int) != 0)=false:=bne_eq_false_iff_eq.mpr c9
   clear c9
   obtain rfl:=Option.some.inj H
   obtain⟨Ao10,co10,eo10⟩:=Kd.R_slice HO_7.out
   subst eo10
   go_wp2
   go_ret
   exact⟨by first|rfl|(simp [errW_none,errW_some]<;>rfl)|(simp [*,errW_none,errW_some]<;>rfl),by repeat (first|(with_reducible first|exact HB.out|apply below_alloc|apply pw_below_drewN|apply below_drew1)|exact HB.out)⟩
  rw [if_neg c9] at H
  have c9b0:((x7_1.length:Int) == 0)=false:=beq_eq_false_iff_ne.mpr c9
  have c9b1:((x7_1.length:Int) != 0)=true:=bne_iff_ne.mpr c9
  have c9b2:¬(x7_1 = []):=fun h_=>c9 (by rw [h_];rfl)
  obtain⟨ji11,hji11⟩:∃j_:Int,(Int.tmod a2 (x7_1.length:Int))=j_:=⟨_,rfl⟩
  replace H:(if 0≤(ji11) then (if (ji11) < (x7_1.length:Int) then (some (rd x7_1 (ji11))) else (none)) else (none))=some r:=by first|(rw [hji11] at H;exact H)|(simp only [hji11] at H ⊢;exact H)
  by_cases c12:0≤(ji11)
  ·rw [if_pos c12] at H
   have c12b0:decide (0≤(ji11))=true:=decide_eq_true c12
   clear c12
   by_cases c13:(ji11) < (x7_1.length:Int)
   ·rw [if_pos c13] at H
    have c13b0:decide ((ji11) < (x7_1.length:Int))=true:=decide_eq_true c13
    clear c13
    obtain rfl:=Option.some.inj H
    obtain⟨Ao14,co14,eo14⟩:=Kd.R_slice HO_7.out
    subst eo14
    have p146:0≤((ji11):Int):=of_decide_eq_true (by first|(with_reducible assumption)|assumption)
    have q146:(ji11) < (x7_1.length:Int):=of_decide_eq_true (by first|(with_reducible assumption)|assumption)
    obtain⟨ad146,e146,hx146_0⟩:=Kd.at_int (Kd.R_reads' HO_7.out).2.2 (ji11) p146 q146
    cases e146
    replace p146:=eq_true p146
    replace q146:=eq_true q146
    go_wp2
    go_ret
    exact⟨by first|rfl|(simp [errW_none,errW_some]<;>rfl)|(simp only [←hji11];first|rfl|(simp [errW_none,errW_some]<;>rfl))|(simp [*,errW_none,errW_some]<;>rfl),by repeat (first|(with_reducible first|exact HB.out|apply below_alloc|apply pw_below_drewN|apply below_drew1)|exact HB.out)⟩
   rw [if_neg c13] at H
   exact absurd H (by simp)
  rw [if_neg c12] at H
  exact absurd H (by simp)
end Go.Proofs.Ytjkhdldgmkkhjaa.P
end
section
namespace Go.Proofs.Ytjkhdldgmkkhjaa.P
open Go.RowKit Go.Proofs.YtjkhdldgmkkhjaaW.PrintWords Go.Proofs.YtjkhdldgmkkhjaaW.PrintLast Go.Proofs.YtjkhdldgmkkhjaaW.PrintMore
attribute [local go_sem] max2_int min2_int max_two min_two max_three min_three max_four min_four   -- for this text's walks alone
def canopylaw3_within.f (a0:Int) (a1:Int):Option (Int):=if a1=0 then (none) else (if (Int.tmod a0 a1) < 0 then (some (wrap64 ((Int.tmod a0 a1)+a1))) else (some (Int.tmod a0 a1)))
set_option maxHeartbeats 8000000 in
set_option maxRecDepth 100000 in
theorem canopylaw3_within.calls (a0:Int) (a1:Int) (r:Int) (w:World) (h:canopylaw3_within.f a0 a1=some r) :
 Calls Try.prog 31 #[.int .i64 a0,.int .i64 a1] w fun e w'=>e=.returned (.int .i64 r)∧Drawn0 w w':=by
 have H:(if a1=0 then (none) else (if (Int.tmod a0 a1) < 0 then (some (wrap64 ((Int.tmod a0 a1)+a1))) else (some (Int.tmod a0 a1))))=some r:=h
 clear h
 by_cases c3:a1=0
 ·rw [if_pos c3] at H
  exact absurd H (by simp)
 rw [if_neg c3] at H
 have c3b0:(a1 == 0)=false:=beq_eq_false_iff_ne.mpr c3
 have c3b1:(a1 != 0)=true:=bne_iff_ne.mpr c3
 by_cases c4:(Int.tmod a0 a1) < 0
 ·rw [if_pos c4] at H
  have c4b0:decide ((Int.tmod a0 a1) < 0)=true:=decide_eq_true c4
  clear c4
  obtain rfl:=Option.some.inj H
  go_enter Try.func31,Try.ntmps31
  go_wp2
  go_ret
  exact⟨by first|rfl|(simp;done)|(simp [*];done),by repeat (first|exact Drawn0.refl _|apply Drawn0.step)⟩
 rw [if_neg c4] at H
 have c4b0:decide ((Int.tmod a0 a1) < 0)=false:=decide_eq_false c4
 clear c4
 obtain rfl:=Option.some.inj H
 go_enter Try.func31,Try.ntmps31
 go_wp2
 go_ret
 exact⟨by first|rfl|(simp;done)|(simp [*];done),by repeat (first|exact Drawn0.refl _|apply Drawn0.step)⟩
end Go.Proofs.Ytjkhdldgmkkhjaa.P
end
section
namespace Go.Proofs.Ytjkhdldgmkkhjaa.P
open Go.RowKit Go.Proofs.YtjkhdldgmkkhjaaW.PrintWords Go.Proofs.YtjkhdldgmkkhjaaW.PrintLast Go.Proofs.YtjkhdldgmkkhjaaW.PrintMore
attribute [local go_sem] max2_int min2_int max_two min_two max_three min_three max_four min_four   -- for this text's walks alone
def canopylaw4_as.l0:Nat→List (S48)→List (S67)→Int→Option ((List (S67)))
 | 0,_,_,_=>none
 | k+1,x0,x3,x4=>if x4 < (x0.length:Int) then (if 0≤x4 then (if x3.length < 4398046511104 then (canopylaw4_as.l0 k x0 (x3 ++ [(⟨(rd_T48 x0 x4).f0,(rd_T48 x0 x4).f1⟩:S67)]) (wrap64 (x4+1))) else (none)) else (none)) else (some x3)
def canopylaw4_as.f (k:Nat) (l0:List (S48)):Option ((List (S67))):=canopylaw4_as.l0 k l0 ([]:List (S67)) 0
theorem canopylaw4_as.mono_l:∀k,(∀y0 y1 y2,LeO (canopylaw4_as.l0 k y0 y1 y2) (canopylaw4_as.l0 (k+1) y0 y1 y2))
 | 0=>fun _ _ _ r h=>by simp [canopylaw4_as.l0] at h
 | k+1=>by
  have ih0:=canopylaw4_as.mono_l k
  intro y0 y1 y2
  unfold canopylaw4_as.l0
  repeat' first
  | (with_reducible exact ih0 _ _ _)
  | (with_reducible exact LeO.refl _)
  | (with_reducible exact LeO.none _)
  | (with_reducible refine LeO.ite ?_ ?_)
  | (with_reducible refine LeO.bind ?_ (fun _=>?_))
  | exact ih0 _ _ _
  | exact LeO.none _
  | refine LeO.ite ?_ ?_
  | refine LeO.bind ?_ (fun _=>?_)
theorem canopylaw4_as.mono:∀a0 k,LeO (canopylaw4_as.f k a0) (canopylaw4_as.f (k+1) a0):=by
 intro a0 k
 have ih0:=canopylaw4_as.mono_l k
 unfold canopylaw4_as.f
 repeat' first
  | (with_reducible exact ih0 _ _ _)
  | (with_reducible exact LeO.refl _)
  | (with_reducible exact LeO.none _)
  | (with_reducible refine LeO.ite ?_ ?_)
  | (with_reducible refine LeO.bind ?_ (fun _=>?_))
  | exact ih0 _ _ _
  | exact LeO.none _
  | refine LeO.ite ?_ ?_
  | refine LeO.bind ?_ (fun _=>?_)
set_option maxHeartbeats 8000000 in
set_option maxRecDepth 100000 in
theorem canopylaw4_as.calls (k:Nat) (P0_:Nat→Prop) (A0:Option Addr) (c0:Nat) (l0:List (S48)) (r:List (S67)) (w:World) (hs0:Kd.V k48 48 w w.heap.size (fun k_=>P0_ k_) (.slice A0 l0.length c0) l0) (h:canopylaw4_as.f k l0=some r) :
 Calls Try.prog 20 #[.slice A0 l0.length c0] w fun e w'=>∃v0_:Value,e=.returned (v0_)∧Kd.N k67 67 w' w.heap.size (fun k_=>(P0_ k_∨w.heap.size≤k_)) v0_ r∧Below w.heap.size w w':=by
 have hu48:=Try.underlying48
 have HO0:=Aside0.mk (show Kd.V k48 48 w w.heap.size (fun k_=>(P0_ k_∨w.heap.size≤k_)) (.slice A0 l0.length c0) l0 from Kd.V_mono hs0 (fun k_ hk=>.inl hk))
 have HB:=Aside0.mk (Below.refl w.heap.size w)
 have H:(canopylaw4_as.l0 k l0 ([]:List (S67)) 0)=some r:=h
 clear h
 have H':=Aside0.mk H
 clear H
 go_enter Try.func20,Try.ntmps20
 go_wp2
 go_loopg [3,4] k (fun kq v3 v4 w'=>∃(x3_1:List (S67)) (x4_1:Int),v4=.int .i64 x4_1∧Aside0 (canopylaw4_as.l0 kq l0 x3_1 x4_1=some r)∧Aside0 (kq≤k)∧Aside0 (Kd.V k48 48 w' w.heap.size (fun k_=>(P0_ k_∨w.heap.size≤k_)∧some k_≠(v3:Value).ownBlock) (.slice A0 l0.length c0) l0)∧Aside0 (Kd.N k67 67 w' w.heap.size (fun k_=>(P0_ k_∨w.heap.size≤k_)) v3 x3_1)∧Aside0 (Below w.heap.size w w'))
 case atStart=>exact⟨(([]:List (S67))),(0),(by first|rfl|(simp;done)|(simp [*];done)),H',⟨Nat.le_refl _⟩,⟨by(with_reducible repeat (first|apply Kd.V_alloc|apply Kd.V_drewN|apply Kd.V_drew));exact Kd.V_mono HO0.out (fun _ hk=>⟨hk,(by simp [Value.ownBlock])⟩)⟩,⟨by first|exact Kd.S_nil _ _ _ _ _|exact Kd.N_nil _ _ _ _ _|exact Kd.V_nil _ _ _ _ _|exact Kd.Q_nil _ _ _ _ _|exact Kd.R_nil _ _ _ _ _⟩,⟨by repeat (first|(with_reducible first|exact HB.out|apply below_alloc|apply pw_below_drewN|apply below_drew1)|exact HB.out)⟩⟩
 case' round=>skip
 clear H'
 obtain⟨x3_1,x4_1,rfl,HA,HK1,HO_0,HO_3,HB⟩:=hrel
 cases gk with
 | zero=>exact absurd HA.out (by simp [canopylaw4_as.l0])
 | succ k1=>
  have H:=HA.out
  clear HA
  simp only [canopylaw4_as.l0] at H
  by_cases c2:x4_1 < (l0.length:Int)
  ·rw [if_pos c2] at H
   have c2b0:decide (x4_1 < (l0.length:Int))=true:=decide_eq_true c2
   clear c2
   by_cases c3:0≤x4_1
   ·rw [if_pos c3] at H
    have c3b0:decide (0≤x4_1)=true:=decide_eq_true c3
    clear c3
    by_cases c4:x3_1.length < 4398046511104
    ·rw [if_pos c4] at H
     have LMc4:=Aside0.mk c4
     clear c4
     obtain⟨y203,hy203⟩:∃y_:List (S67),y_=(x3_1 ++ [(⟨(rd_T48 l0 x4_1).f0,(rd_T48 l0 x4_1).f1⟩:S67)]):=⟨_,rfl⟩
     replace H:(canopylaw4_as.l0 k1 l0 y203 (wrap64 (x4_1+1)))=some r:=by first|(rw [hy203];with_reducible exact H)|(have H2_:=(Option.bind_some _ _).symm.trans H;rw [hy203];with_reducible exact H2_)|(have H2_:=(Option.bind_some _ _).symm.trans H;with_reducible exact H2_)|with_reducible exact H|(rw [hy203];exact H)|exact H
     have Ny203:=Aside0.mk hy203
     clear hy203
     have H':=Aside0.mk H
     clear H
     have p202:0≤(x4_1:Int):=of_decide_eq_true (by first|(with_reducible assumption)|assumption)
     have q202:x4_1 < (l0.length:Int):=of_decide_eq_true (by first|(with_reducible assumption)|assumption)
     obtain⟨ad202,A202_1,c202_1,e202,hx202_0,hx202_1,hl202_1,hi202_1⟩:=at_T48 (Kd.V_reads' HO_0.out).2.2 x4_1 p202 q202
     cases e202
     obtain⟨ce202,hce202,hMe202,hcc202⟩:=Kd.V_get HO_0.out z48 x4_1 p202 (by first|exact q202|exact of_decide_eq_true (by first|(with_reducible assumption)|assumption)|(have e_:=(Kd.V_reads' HO_0.out).1;omega))
     obtain⟨ua202_1,uc202_1,rfl,ul202_1,ge202_1⟩:=k48_openF hMe202
     have hv202_1:=hcc202 1 _ rfl
     rw [add_field _ _ 1 (by omega)] at hv202_1
     replace hv202_1:=Option.some.inj (hv202_1.symm.trans hx202_1)
     injection hv202_1 with hva_ hvn_ hvc_
     rw [hva_] at ge202_1
     rw [hvc_] at ul202_1
     have HL202_1:=Aside0.mk (show Kd.V (Kd.int .i64) 3 _ w.heap.size _ _ ((rd_T48 l0 x4_1).f1) from Kd.V_mk ul202_1 ge202_1)
     clear hva_ hvn_ hvc_ ge202_1 ul202_1
     clear hcc202 hce202
     have HR202_1:=Aside0.mk hi202_1
     have HC202_1:=Aside0.mk hl202_1
     clear hi202_1 hl202_1
     replace p202:=eq_true p202
     replace q202:=eq_true q202
     go_wp2_with (first|((with_reducible refine gate_builtin (b:=.append) (xs:=#[.tmp 11,.tmp 16]) rfl ?_);at_builtin;refine Kd.N_append k67 (w0:=w) w.heap.size rfl (.tmp 11) (.tmp 16) 35 67 (.agg #[(.int .i64 0),(.slice none 0 0)]) 32 rfl Try.underlying35 info67 rfl (by decide) (by omega) u3 x3_1 (⟨(rd_T48 l0 x4_1).f0,(rd_T48 l0 x4_1).f1⟩:S67) [.int .i64 ((rd_T48 l0 x4_1).f0),.slice A202_1 ((rd_T48 l0 x4_1).f1).length c202_1] (fun k_=>(P0_ k_∨w.heap.size≤k_)) (fun k_=>((fun k_=>(P0_ k_∨w.heap.size≤k_))) k_∧some k_≠(u3:Value).ownBlock) rfl rfl ?aP (fun _ hk=>hk) ?aF ?aO ?aB ?aS ?aL ?_;(case aP=>exact(k67_mkF _ _ (⟨(rd_T48 l0 x4_1).f0,(rd_T48 l0 x4_1).f1⟩:S67) (Kd.V_reads' (Kd.V_mono (ok':=(fun k_=>((fun k_=>(P0_ k_∨w.heap.size≤k_))) k_∧some k_≠(u3:Value).ownBlock)) (HL202_1.out) (fun k_ hk=>⟨hk.1,hk.2⟩))).2.1 (Kd.V_F (Kd.V_mono (ok':=(fun k_=>((fun k_=>(P0_ k_∨w.heap.size≤k_))) k_∧some k_≠(u3:Value).ownBlock)) (HL202_1.out) (fun k_ hk=>⟨hk.1,hk.2⟩)))));(case aB=>exact(by repeat (first|(with_reducible first|exact HB.out|apply below_alloc|apply pw_below_drewN|apply below_drew1)|exact HB.out)));(case aF=>exact(fun k_ hk=>(.inr (Nat.le_trans (below_size (by repeat (first|(with_reducible first|exact HB.out|apply below_alloc|apply pw_below_drewN|apply below_drew1)|exact HB.out))) hk))));(case aO=>exact(by(with_reducible repeat (first|apply Kd.N_alloc|apply Kd.N_drewN|apply Kd.N_drew));exact HO_3.out));(case aS=>exact(below_size (by repeat (first|(with_reducible first|exact HB.out|apply below_alloc|apply pw_below_drewN|apply below_drew1)|exact HB.out))));(case aL=>have:=LMc4.out;omega);intro v204 w5 ho hb hg hat;rw [←Ny203.out] at ho;have n0_:=Aside0.mk (Kd.V_afterv (ok:=(fun k_=>(P0_ k_∨w.heap.size≤k_))) (by(with_reducible repeat (first|apply Kd.V_alloc|apply Kd.V_drewN|apply Kd.V_drew));exact HO_0.out) hg hat);have n1_:=Aside0.mk (Kd.V_afterv (ok:=(fun k_=>(P0_ k_∨w.heap.size≤k_))) (by(with_reducible repeat (first|apply Kd.V_alloc|apply Kd.V_drewN|apply Kd.V_drew));exact HL202_1.out) hg hat);have n2_:=Aside0.mk (hb);have n3_:=Aside0.mk (ho);clear HO_0;clear HL202_1;clear HB;clear HO_3;have HO_0:=n0_;have HL202_1:=n1_;have HB:=n2_;have HO205:=n3_;clear n0_ n1_ n2_ n3_;clear ho hb hg hat))
     go_roundg k1
     case measure=>have:=HK1.out;omega
     case rel=>exact⟨(y203),(wrap64 (x4_1+1)),(by first|rfl|(simp;done)|(simp [*];done)),H',⟨by have:=HK1.out;omega⟩,⟨by(with_reducible repeat (first|apply Kd.V_alloc|apply Kd.V_drewN|apply Kd.V_drew));exact HO_0.out⟩,⟨by(with_reducible repeat (first|apply Kd.N_alloc|apply Kd.N_drewN|apply Kd.N_drew));exact HO205.out⟩,⟨by repeat (first|(with_reducible first|exact HB.out|apply below_alloc|apply pw_below_drewN|apply below_drew1)|exact HB.out)⟩⟩
    rw [if_neg c4] at H
    exact absurd H (by simp)
   rw [if_neg c3] at H
   exact absurd H (by simp)
  rw [if_neg c2] at H
  have c2b0:decide (x4_1 < (l0.length:Int))=false:=decide_eq_false c2
  clear c2
  obtain rfl:=Option.some.inj H
  go_wp2
  go_ret
  exact⟨_,by first|rfl|(simp [errW_none,errW_some]<;>rfl)|(simp [*,errW_none,errW_some]<;>rfl),by(with_reducible repeat (first|apply Kd.N_alloc|apply Kd.N_drewN|apply Kd.N_drew));exact HO_3.out,by repeat (first|(with_reducible first|exact HB.out|apply below_alloc|apply pw_below_drewN|apply below_drew1)|exact HB.out)⟩
end Go.Proofs.Ytjkhdldgmkkhjaa.P
end
section
namespace Go.Proofs.Ytjkhdldgmkkhjaa.P
open Go.RowKit Go.Proofs.YtjkhdldgmkkhjaaW.PrintWords Go.Proofs.YtjkhdldgmkkhjaaW.PrintLast Go.Proofs.YtjkhdldgmkkhjaaW.PrintMore
attribute [local go_sem] max2_int min2_int max_two min_two max_three min_three max_four min_four   -- for this text's walks alone
def canopyref1_Ints.l0:Nat→List Int→List Int→Int→Option (Bool)
 | 0,_,_,_=>none
 | k+1,x0,x1,x5=>if x5 < (x0.length:Int) then (if 0≤x5 then (if x5 < (x1.length:Int) then (if (rd x0 x5)=(rd x1 x5) then (canopyref1_Ints.l0 k x0 x1 (wrap64 (x5+1))) else (some false)) else (none)) else (none)) else (some true)
def canopyref1_Ints.f (k:Nat) (l0:List Int) (l1:List Int):Option (Bool):=if (l0.length:Int)=(l1.length:Int) then (canopyref1_Ints.l0 k l0 l1 0) else (some false)
theorem canopyref1_Ints.mono_l:∀k,(∀y0 y1 y2,LeO (canopyref1_Ints.l0 k y0 y1 y2) (canopyref1_Ints.l0 (k+1) y0 y1 y2))
 | 0=>fun _ _ _ r h=>by simp [canopyref1_Ints.l0] at h
 | k+1=>by
  have ih0:=canopyref1_Ints.mono_l k
  intro y0 y1 y2
  unfold canopyref1_Ints.l0
  repeat' first
  | (with_reducible exact ih0 _ _ _)
  | (with_reducible exact LeO.refl _)
  | (with_reducible exact LeO.none _)
  | (with_reducible refine LeO.ite ?_ ?_)
  | (with_reducible refine LeO.bind ?_ (fun _=>?_))
  | exact ih0 _ _ _
  | exact LeO.none _
  | refine LeO.ite ?_ ?_
  | refine LeO.bind ?_ (fun _=>?_)
theorem canopyref1_Ints.mono:∀a0 a1 k,LeO (canopyref1_Ints.f k a0 a1) (canopyref1_Ints.f (k+1) a0 a1):=by
 intro a0 a1 k
 have ih0:=canopyref1_Ints.mono_l k
 unfold canopyref1_Ints.f
 repeat' first
  | (with_reducible exact ih0 _ _ _)
  | (with_reducible exact LeO.refl _)
  | (with_reducible exact LeO.none _)
  | (with_reducible refine LeO.ite ?_ ?_)
  | (with_reducible refine LeO.bind ?_ (fun _=>?_))
  | exact ih0 _ _ _
  | exact LeO.none _
  | refine LeO.ite ?_ ?_
  | refine LeO.bind ?_ (fun _=>?_)
set_option maxHeartbeats 8000000 in
set_option maxRecDepth 100000 in
theorem canopyref1_Ints.calls (k:Nat) (A0:Option Addr) (c0:Nat) (l0:List Int) (A1:Option Addr) (c1:Nat) (l1:List Int) (r:Bool) (w:World) (hr0:Kd.C (Kd.int .i64) w A0 l0.length l0) (hc0:l0.length≤c0) (hr1:Kd.C (Kd.int .i64) w A1 l1.length l1) (hc1:l1.length≤c1) (h:canopyref1_Ints.f k l0 l1=some r) :
 Calls Try.prog 29 #[.slice A0 l0.length c0,.slice A1 l1.length c1] w fun e w'=>e=.returned (.bool r)∧Drawn0 w w':=by
 have HR0:=Aside0.mk hr0
 have HC0:=Aside0.mk hc0
 clear hr0 hc0
 have HR1:=Aside0.mk hr1
 have HC1:=Aside0.mk hc1
 clear hr1 hc1
 have H:(if (l0.length:Int)=(l1.length:Int) then (canopyref1_Ints.l0 k l0 l1 0) else (some false))=some r:=h
 clear h
 by_cases c3:(l0.length:Int)=(l1.length:Int)
 ·rw [if_pos c3] at H
  have c3b0:((l0.length:Int) == (l1.length:Int))=true:=beq_iff_eq.mpr c3
  have c3b1:((l0.length:Int) != (l1.length:Int))=false:=bne_eq_false_iff_eq.mpr c3
  have c3b2:(l0.length == l1.length)=true:=by first|simpa using c3|(simp at c3 ⊢;omega)
  clear c3
  have H':=Aside0.mk H
  clear H
  go_enter Try.func29,Try.ntmps29
  go_wp2
  repeat (go_quiet (fail);try go_wp2)
  go_loopg [5] k (fun kq v5 w'=>∃(x5_1:Int),v5=.int .i64 x5_1∧Aside0 (canopyref1_Ints.l0 kq l0 l1 x5_1=some r)∧Aside0 (kq≤k)∧Drawn0 w w')
  case atStart=>exact⟨(0),(by first|rfl|(simp;done)|(simp [*];done)),H',⟨Nat.le_refl _⟩,by repeat (first|exact Drawn0.refl _|apply Drawn0.step)⟩
  case' round=>skip
  clear H'
  try clear c1
  try clear c2
  try clear p2
  try clear c3
  try clear c3b0
  try clear c3b1
  try clear c3b2
  obtain⟨x5_1,rfl,HA,HK1,⟨m1,rfl⟩⟩:=hrel
  cases gk with
  | zero=>exact absurd HA.out (by simp [canopyref1_Ints.l0])
  | succ k1=>
   have H:=HA.out
   clear HA
   simp only [canopyref1_Ints.l0] at H
   by_cases c4:x5_1 < (l0.length:Int)
   ·rw [if_pos c4] at H
    have c4b0:decide (x5_1 < (l0.length:Int))=true:=decide_eq_true c4
    clear c4
    by_cases c5:0≤x5_1
    ·rw [if_pos c5] at H
     have c5b0:decide (0≤x5_1)=true:=decide_eq_true c5
     clear c5
     by_cases c6:x5_1 < (l1.length:Int)
     ·rw [if_pos c6] at H
      have c6b0:decide (x5_1 < (l1.length:Int))=true:=decide_eq_true c6
      clear c6
      by_cases c7:(rd l0 x5_1)=(rd l1 x5_1)
      ·rw [if_pos c7] at H
       have c7b0:((rd l0 x5_1) == (rd l1 x5_1))=true:=beq_iff_eq.mpr c7
       have c7b1:((rd l0 x5_1) != (rd l1 x5_1))=false:=bne_eq_false_iff_eq.mpr c7
       clear c7
       have H':=Aside0.mk H
       clear H
       have p195:0≤(x5_1:Int):=of_decide_eq_true (by first|(with_reducible assumption)|assumption)
       have q195:x5_1 < (l0.length:Int):=of_decide_eq_true (by first|(with_reducible assumption)|assumption)
       obtain⟨ad195,e195,hx195_0⟩:=Kd.at_int HR0.out x5_1 p195 q195
       cases e195
       replace p195:=eq_true p195
       replace q195:=eq_true q195
       have p196:0≤(x5_1:Int):=of_decide_eq_true (by first|(with_reducible assumption)|assumption)
       have q196:x5_1 < (l1.length:Int):=of_decide_eq_true (by first|(with_reducible assumption)|assumption)
       obtain⟨ad196,e196,hx196_0⟩:=Kd.at_int HR1.out x5_1 p196 q196
       cases e196
       replace p196:=eq_true p196
       replace q196:=eq_true q196
       go_wp2
       repeat (go_quiet (fail);try go_wp2)
       go_roundg k1
       case measure=>have:=HK1.out;omega
       case rel=>exact⟨(wrap64 (x5_1+1)),(by first|rfl|(simp;done)|(simp [*];done)),H',⟨by have:=HK1.out;omega⟩,by repeat (first|exact Drawn0.refl _|apply Drawn0.step)⟩
      rw [if_neg c7] at H
      have c7b0:((rd l0 x5_1) == (rd l1 x5_1))=false:=beq_eq_false_iff_ne.mpr c7
      have c7b1:((rd l0 x5_1) != (rd l1 x5_1))=true:=bne_iff_ne.mpr c7
      obtain rfl:=Option.some.inj H
      have p195:0≤(x5_1:Int):=of_decide_eq_true (by first|(with_reducible assumption)|assumption)
      have q195:x5_1 < (l0.length:Int):=of_decide_eq_true (by first|(with_reducible assumption)|assumption)
      obtain⟨ad195,e195,hx195_0⟩:=Kd.at_int HR0.out x5_1 p195 q195
      cases e195
      replace p195:=eq_true p195
      replace q195:=eq_true q195
      have p196:0≤(x5_1:Int):=of_decide_eq_true (by first|(with_reducible assumption)|assumption)
      have q196:x5_1 < (l1.length:Int):=of_decide_eq_true (by first|(with_reducible assumption)|assumption)
      obtain⟨ad196,e196,hx196_0⟩:=Kd.at_int HR1.out x5_1 p196 q196
      cases e196
      replace p196:=eq_true p196
      replace q196:=eq_true q196
      go_wp2
      repeat (go_quiet (fail);try go_wp2)
      go_ret
      exact⟨by first|rfl|(simp;done)|(simp [*];done),by repeat (first|exact Drawn0.refl _|apply Drawn0.step)⟩
     rw [if_neg c6] at H
     exact absurd H (by simp)
    rw [if_neg c5] at H
    exact absurd H (by simp)
   rw [if_neg c4] at H
   have c4b0:decide (x5_1 < (l0.length:Int))=false:=decide_eq_false c4
   clear c4
   obtain rfl:=Option.some.inj H
   go_wp2
   repeat (go_quiet (fail);try go_wp2)
   go_ret
   exact⟨by first|rfl|(simp;done)|(simp [*];done),by repeat (first|exact Drawn0.refl _|apply Drawn0.step)⟩
 rw [if_neg c3] at H
 have c3b0:((l0.length:Int) == (l1.length:Int))=false:=beq_eq_false_iff_ne.mpr c3
 have c3b1:((l0.length:Int) != (l1.length:Int))=true:=bne_iff_ne.mpr c3
 have c3b2:(l0.length == l1.length)=false:=by first|simpa using c3|(simp at c3 ⊢;omega)
 obtain rfl:=Option.some.inj H
 go_enter Try.func29,Try.ntmps29
 go_wp2
 repeat (go_quiet (fail);try go_wp2)
 go_ret
 exact⟨by first|rfl|(simp;done)|(simp [*];done),by repeat (first|exact Drawn0.refl _|apply Drawn0.step)⟩
end Go.Proofs.Ytjkhdldgmkkhjaa.P
end
section
namespace Go.Proofs.Ytjkhdldgmkkhjaa.P
open Go.RowKit Go.Proofs.YtjkhdldgmkkhjaaW.PrintWords Go.Proofs.YtjkhdldgmkkhjaaW.PrintLast Go.Proofs.YtjkhdldgmkkhjaaW.PrintMore
attribute [local go_sem] max2_int min2_int max_two min_two max_three min_three max_four min_four   -- for this text's walks alone
def canopyref4_Same.l0:Nat→List (S67)→List (S67)→Int→Option (Bool)
 | 0,_,_,_=>none
 | k+1,x0,x1,x5=>if x5 < (x0.length:Int) then (if 0≤x5 then (if x5 < (x1.length:Int) then (if ((rd_T67 x0 x5).f0)=((rd_T67 x1 x5).f0) then ((canopyref1_Ints.f k ((rd_T67 x0 x5).f1) ((rd_T67 x1 x5).f1)).bind fun t201=>(if t201=true then (canopyref4_Same.l0 k x0 x1 (wrap64 (x5+1))) else (some false))) else (some false)) else (none)) else (none)) else (some true)
def canopyref4_Same.f (k:Nat) (l0:List (S67)) (l1:List (S67)):Option (Bool):=if (l0.length:Int)=(l1.length:Int) then (canopyref4_Same.l0 k l0 l1 0) else (some false)
theorem canopyref4_Same.mono_l:∀k,(∀y0 y1 y2,LeO (canopyref4_Same.l0 k y0 y1 y2) (canopyref4_Same.l0 (k+1) y0 y1 y2))
 | 0=>fun _ _ _ r h=>by simp [canopyref4_Same.l0] at h
 | k+1=>by
  have ih0:=canopyref4_Same.mono_l k
  intro y0 y1 y2
  unfold canopyref4_Same.l0
  repeat' first
  | (with_reducible exact ih0 _ _ _)
  | (with_reducible exact canopyref1_Ints.mono _ _ _)
  | (with_reducible exact LeO.refl _)
  | (with_reducible exact LeO.none _)
  | (with_reducible refine LeO.ite ?_ ?_)
  | (with_reducible refine LeO.bind ?_ (fun _=>?_))
  | exact ih0 _ _ _
  | exact canopyref1_Ints.mono _ _ _
  | exact LeO.none _
  | refine LeO.ite ?_ ?_
  | refine LeO.bind ?_ (fun _=>?_)
theorem canopyref4_Same.mono:∀a0 a1 k,LeO (canopyref4_Same.f k a0 a1) (canopyref4_Same.f (k+1) a0 a1):=by
 intro a0 a1 k
 have ih0:=canopyref4_Same.mono_l k
 unfold canopyref4_Same.f
 repeat' first
  | (with_reducible exact ih0 _ _ _)
  | (with_reducible exact canopyref1_Ints.mono _ _ _)
  | (with_reducible exact LeO.refl _)
  | (with_reducible exact LeO.none _)
  | (with_reducible refine LeO.ite ?_ ?_)
  | (with_reducible refine LeO.bind ?_ (fun _=>?_))
  | exact ih0 _ _ _
  | exact canopyref1_Ints.mono _ _ _
  | exact LeO.none _
  | refine LeO.ite ?_ ?_
  | refine LeO.bind ?_ (fun _=>?_)
set_option maxHeartbeats 8000000 in
set_option maxRecDepth 100000 in
theorem canopyref4_Same.calls (k:Nat) (A0:Option Addr) (c0:Nat) (l0:List (S67)) (A1:Option Addr) (c1:Nat) (l1:List (S67)) (r:Bool) (w:World) (hr0:Kd.C k67 w A0 l0.length l0) (hc0:l0.length≤c0) (hr1:Kd.C k67 w A1 l1.length l1) (hc1:l1.length≤c1) (h:canopyref4_Same.f k l0 l1=some r) :
 Calls Try.prog 19 #[.slice A0 l0.length c0,.slice A1 l1.length c1] w fun e w'=>e=.returned (.bool r)∧Drawn0 w w':=by
 have HR0:=Aside0.mk hr0
 have HC0:=Aside0.mk hc0
 clear hr0 hc0
 have HR1:=Aside0.mk hr1
 have HC1:=Aside0.mk hc1
 clear hr1 hc1
 have H:(if (l0.length:Int)=(l1.length:Int) then (canopyref4_Same.l0 k l0 l1 0) else (some false))=some r:=h
 clear h
 by_cases c3:(l0.length:Int)=(l1.length:Int)
 ·rw [if_pos c3] at H
  have c3b0:((l0.length:Int) == (l1.length:Int))=true:=beq_iff_eq.mpr c3
  have c3b1:((l0.length:Int) != (l1.length:Int))=false:=bne_eq_false_iff_eq.mpr c3
  have c3b2:(l0.length == l1.length)=true:=by first|simpa using c3|(simp at c3 ⊢;omega)
  clear c3
  have H':=Aside0.mk H
  clear H
  go_enter Try.func19,Try.ntmps19
  go_wp2
  repeat (go_quiet (fail);try go_wp2)
  go_loopg [5] k (fun kq v5 w'=>∃(x5_1:Int),v5=.int .i64 x5_1∧Aside0 (canopyref4_Same.l0 kq l0 l1 x5_1=some r)∧Aside0 (kq≤k)∧Drawn0 w w')
  case atStart=>exact⟨(0),(by first|rfl|(simp;done)|(simp [*];done)),H',⟨Nat.le_refl _⟩,by repeat (first|exact Drawn0.refl _|apply Drawn0.step)⟩
  case' round=>skip
  clear H'
  try clear c1
  try clear p2
  try clear c3
  try clear c3b0
  try clear c3b1
  try clear c3b2
  obtain⟨x5_1,rfl,HA,HK1,⟨m1,rfl⟩⟩:=hrel
  cases gk with
  | zero=>exact absurd HA.out (by simp [canopyref4_Same.l0])
  | succ k1=>
   have H:=HA.out
   clear HA
   simp only [canopyref4_Same.l0] at H
   by_cases c4:x5_1 < (l0.length:Int)
   ·rw [if_pos c4] at H
    have c4b0:decide (x5_1 < (l0.length:Int))=true:=decide_eq_true c4
    clear c4
    by_cases c5:0≤x5_1
    ·rw [if_pos c5] at H
     have c5b0:decide (0≤x5_1)=true:=decide_eq_true c5
     clear c5
     by_cases c6:x5_1 < (l1.length:Int)
     ·rw [if_pos c6] at H
      have c6b0:decide (x5_1 < (l1.length:Int))=true:=decide_eq_true c6
      clear c6
      by_cases c7:((rd_T67 l0 x5_1).f0)=((rd_T67 l1 x5_1).f0)
      ·rw [if_pos c7] at H
       have c7b0:(((rd_T67 l0 x5_1).f0) == ((rd_T67 l1 x5_1).f0))=true:=beq_iff_eq.mpr c7
       have c7b1:(((rd_T67 l0 x5_1).f0) != ((rd_T67 l1 x5_1).f0))=false:=bne_eq_false_iff_eq.mpr c7
       clear c7
       replace H:=Option.bind_eq_some_iff.mp H
       obtain⟨t201,A80,H⟩:=H
       replace H:(if t201=true then (canopyref4_Same.l0 k1 l0 l1 (wrap64 (x5_1+1))) else (some false))=some r:=H
       have A8:=Aside0.mk A80
       clear A80
       by_cases c9:t201=true
       ·subst c9
        have H1:(canopyref4_Same.l0 k1 l0 l1 (wrap64 (x5_1+1)))=some r:=by rw [if_pos rfl] at H;exact H
        clear H
        have H:=H1
        clear H1
        have H':=Aside0.mk H
        clear H
        have p197:0≤(x5_1:Int):=of_decide_eq_true (by first|(with_reducible assumption)|assumption)
        have q197:x5_1 < (l0.length:Int):=of_decide_eq_true (by first|(with_reducible assumption)|assumption)
        obtain⟨ad197,A197_1,c197_1,e197,hx197_0,hx197_1,hl197_1,hi197_1⟩:=at_T67 HR0.out x5_1 p197 q197
        cases e197
        have HR197_1:=Aside0.mk hi197_1
        have HC197_1:=Aside0.mk hl197_1
        clear hi197_1 hl197_1
        replace p197:=eq_true p197
        replace q197:=eq_true q197
        have p198:0≤(x5_1:Int):=of_decide_eq_true (by first|(with_reducible assumption)|assumption)
        have q198:x5_1 < (l1.length:Int):=of_decide_eq_true (by first|(with_reducible assumption)|assumption)
        obtain⟨ad198,A198_1,c198_1,e198,hx198_0,hx198_1,hl198_1,hi198_1⟩:=at_T67 HR1.out x5_1 p198 q198
        cases e198
        have HR198_1:=Aside0.mk hi198_1
        have HC198_1:=Aside0.mk hl198_1
        clear hi198_1 hl198_1
        replace p198:=eq_true p198
        replace q198:=eq_true q198
        have p199:0≤(x5_1:Int):=of_decide_eq_true (by first|(with_reducible assumption)|assumption)
        have q199:x5_1 < (l0.length:Int):=of_decide_eq_true (by first|(with_reducible assumption)|assumption)
        obtain⟨ad199,A199_1,c199_1,e199,hx199_0,hx199_1,hl199_1,hi199_1⟩:=at_T67 HR0.out x5_1 p199 q199
        obtain rfl:ad197=ad199:=(by injection e199)
        have HR199_1:=Aside0.mk hi199_1
        have HC199_1:=Aside0.mk hl199_1
        clear hi199_1 hl199_1
        replace p199:=eq_true p199
        replace q199:=eq_true q199
        have ea_:=Option.some.inj (hx197_1.symm.trans hx199_1)
        injection ea_ with ea_ en_ ec_
        subst ea_
        subst ec_
        clear en_
        have p200:0≤(x5_1:Int):=of_decide_eq_true (by first|(with_reducible assumption)|assumption)
        have q200:x5_1 < (l1.length:Int):=of_decide_eq_true (by first|(with_reducible assumption)|assumption)
        obtain⟨ad200,A200_1,c200_1,e200,hx200_0,hx200_1,hl200_1,hi200_1⟩:=at_T67 HR1.out x5_1 p200 q200
        obtain rfl:ad198=ad200:=(by injection e200)
        have HR200_1:=Aside0.mk hi200_1
        have HC200_1:=Aside0.mk hl200_1
        clear hi200_1 hl200_1
        replace p200:=eq_true p200
        replace q200:=eq_true q200
        have ea_:=Option.some.inj (hx198_1.symm.trans hx200_1)
        injection ea_ with ea_ en_ ec_
        subst ea_
        subst ec_
        clear en_
        go_wp2_with (first|(go_at_call 29;(with_reducible refine(canopyref1_Ints.calls k1 _ _ ((rd_T67 l0 x5_1).f1) _ _ ((rd_T67 l1 x5_1).f1) true _ ?side1 ?side2 ?side3 ?side4 A8.out).mono ?_);(case side1=>repeat (first|exact HR199_1.out|(with_reducible refine Kd.C_alloc ?_ _)|(with_reducible refine Kd.C_drewN ?_ _)|(with_reducible refine Kd.C_drew ?_)));(case side2=>exact HC199_1.out);(case side3=>repeat (first|exact HR200_1.out|(with_reducible refine Kd.C_alloc ?_ _)|(with_reducible refine Kd.C_drewN ?_ _)|(with_reducible refine Kd.C_drew ?_)));(case side4=>exact HC200_1.out);rintro e w' ⟨rfl,⟨nd,rfl⟩⟩;(try first|exact⟨rfl,_,World.drewN_drewN _ _ _⟩|exact⟨rfl,_,Eq.trans (World.drewN_drewN _ _ _) (congrArg (World.drewN _) (Nat.add_assoc _ _ _))⟩)))
        repeat (go_quiet (first|(go_at_call 29;(with_reducible refine(canopyref1_Ints.calls k1 _ _ ((rd_T67 l0 x5_1).f1) _ _ ((rd_T67 l1 x5_1).f1) true _ ?side1 ?side2 ?side3 ?side4 A8.out).mono ?_);(case side1=>repeat (first|exact HR199_1.out|(with_reducible refine Kd.C_alloc ?_ _)|(with_reducible refine Kd.C_drewN ?_ _)|(with_reducible refine Kd.C_drew ?_)));(case side2=>exact HC199_1.out);(case side3=>repeat (first|exact HR200_1.out|(with_reducible refine Kd.C_alloc ?_ _)|(with_reducible refine Kd.C_drewN ?_ _)|(with_reducible refine Kd.C_drew ?_)));(case side4=>exact HC200_1.out);rintro e w' ⟨rfl,⟨nd,rfl⟩⟩;(try first|exact⟨rfl,_,World.drewN_drewN _ _ _⟩|exact⟨rfl,_,Eq.trans (World.drewN_drewN _ _ _) (congrArg (World.drewN _) (Nat.add_assoc _ _ _))⟩)));try go_wp2_with (first|(go_at_call 29;(with_reducible refine(canopyref1_Ints.calls k1 _ _ ((rd_T67 l0 x5_1).f1) _ _ ((rd_T67 l1 x5_1).f1) true _ ?side1 ?side2 ?side3 ?side4 A8.out).mono ?_);(case side1=>repeat (first|exact HR199_1.out|(with_reducible refine Kd.C_alloc ?_ _)|(with_reducible refine Kd.C_drewN ?_ _)|(with_reducible refine Kd.C_drew ?_)));(case side2=>exact HC199_1.out);(case side3=>repeat (first|exact HR200_1.out|(with_reducible refine Kd.C_alloc ?_ _)|(with_reducible refine Kd.C_drewN ?_ _)|(with_reducible refine Kd.C_drew ?_)));(case side4=>exact HC200_1.out);rintro e w' ⟨rfl,⟨nd,rfl⟩⟩;(try first|exact⟨rfl,_,World.drewN_drewN _ _ _⟩|exact⟨rfl,_,Eq.trans (World.drewN_drewN _ _ _) (congrArg (World.drewN _) (Nat.add_assoc _ _ _))⟩))))
        go_roundg k1
        case measure=>have:=HK1.out;omega
        case rel=>exact⟨(wrap64 (x5_1+1)),(by first|rfl|(simp;done)|(simp [*];done)),H',⟨by have:=HK1.out;omega⟩,by repeat (first|exact Drawn0.refl _|apply Drawn0.step)⟩
       replace c9 := Bool.eq_false_iff.mpr c9
       subst c9
       have H1:(some false)=some r:=by rw [if_neg (show ¬(false=true) by decide)] at H;exact H
       clear H
       have H:=H1
       clear H1
       obtain rfl:=Option.some.inj H
       have p197:0≤(x5_1:Int):=of_decide_eq_true (by first|(with_reducible assumption)|assumption)
       have q197:x5_1 < (l0.length:Int):=of_decide_eq_true (by first|(with_reducible assumption)|assumption)
       obtain⟨ad197,A197_1,c197_1,e197,hx197_0,hx197_1,hl197_1,hi197_1⟩:=at_T67 HR0.out x5_1 p197 q197
       cases e197
       have HR197_1:=Aside0.mk hi197_1
       have HC197_1:=Aside0.mk hl197_1
       clear hi197_1 hl197_1
       replace p197:=eq_true p197
       replace q197:=eq_true q197
       have p198:0≤(x5_1:Int):=of_decide_eq_true (by first|(with_reducible assumption)|assumption)
       have q198:x5_1 < (l1.length:Int):=of_decide_eq_true (by first|(with_reducible assumption)|assumption)
       obtain⟨ad198,A198_1,c198_1,e198,hx198_0,hx198_1,hl198_1,hi198_1⟩:=at_T67 HR1.out x5_1 p198 q198
       cases e198
       have HR198_1:=Aside0.mk hi198_1
       have HC198_1:=Aside0.mk hl198_1
       clear hi198_1 hl198_1
       replace p198:=eq_true p198
       replace q198:=eq_true q198
       have p199:0≤(x5_1:Int):=of_decide_eq_true (by first|(with_reducible assumption)|assumption)
       have q199:x5_1 < (l0.length:Int):=of_decide_eq_true (by first|(with_reducible assumption)|assumption)
       obtain⟨ad199,A199_1,c199_1,e199,hx199_0,hx199_1,hl199_1,hi199_1⟩:=at_T67 HR0.out x5_1 p199 q199
       obtain rfl:ad197=ad199:=(by injection e199)
       have HR199_1:=Aside0.mk hi199_1
       have HC199_1:=Aside0.mk hl199_1
       clear hi199_1 hl199_1
       replace p199:=eq_true p199
       replace q199:=eq_true q199
       have ea_:=Option.some.inj (hx197_1.symm.trans hx199_1)
       injection ea_ with ea_ en_ ec_
       subst ea_
       subst ec_
       clear en_
       have p200:0≤(x5_1:Int):=of_decide_eq_true (by first|(with_reducible assumption)|assumption)
       have q200:x5_1 < (l1.length:Int):=of_decide_eq_true (by first|(with_reducible assumption)|assumption)
       obtain⟨ad200,A200_1,c200_1,e200,hx200_0,hx200_1,hl200_1,hi200_1⟩:=at_T67 HR1.out x5_1 p200 q200
       obtain rfl:ad198=ad200:=(by injection e200)
       have HR200_1:=Aside0.mk hi200_1
       have HC200_1:=Aside0.mk hl200_1
       clear hi200_1 hl200_1
       replace p200:=eq_true p200
       replace q200:=eq_true q200
       have ea_:=Option.some.inj (hx198_1.symm.trans hx200_1)
       injection ea_ with ea_ en_ ec_
       subst ea_
       subst ec_
       clear en_
       go_wp2_with (first|(go_at_call 29;(with_reducible refine(canopyref1_Ints.calls k1 _ _ ((rd_T67 l0 x5_1).f1) _ _ ((rd_T67 l1 x5_1).f1) false _ ?side1 ?side2 ?side3 ?side4 A8.out).mono ?_);(case side1=>repeat (first|exact HR199_1.out|(with_reducible refine Kd.C_alloc ?_ _)|(with_reducible refine Kd.C_drewN ?_ _)|(with_reducible refine Kd.C_drew ?_)));(case side2=>exact HC199_1.out);(case side3=>repeat (first|exact HR200_1.out|(with_reducible refine Kd.C_alloc ?_ _)|(with_reducible refine Kd.C_drewN ?_ _)|(with_reducible refine Kd.C_drew ?_)));(case side4=>exact HC200_1.out);rintro e w' ⟨rfl,⟨nd,rfl⟩⟩;(try first|exact⟨rfl,_,World.drewN_drewN _ _ _⟩|exact⟨rfl,_,Eq.trans (World.drewN_drewN _ _ _) (congrArg (World.drewN _) (Nat.add_assoc _ _ _))⟩)))
       repeat (go_quiet (first|(go_at_call 29;(with_reducible refine(canopyref1_Ints.calls k1 _ _ ((rd_T67 l0 x5_1).f1) _ _ ((rd_T67 l1 x5_1).f1) false _ ?side1 ?side2 ?side3 ?side4 A8.out).mono ?_);(case side1=>repeat (first|exact HR199_1.out|(with_reducible refine Kd.C_alloc ?_ _)|(with_reducible refine Kd.C_drewN ?_ _)|(with_reducible refine Kd.C_drew ?_)));(case side2=>exact HC199_1.out);(case side3=>repeat (first|exact HR200_1.out|(with_reducible refine Kd.C_alloc ?_ _)|(with_reducible refine Kd.C_drewN ?_ _)|(with_reducible refine Kd.C_drew ?_)));(case side4=>exact HC200_1.out);rintro e w' ⟨rfl,⟨nd,rfl⟩⟩;(try first|exact⟨rfl,_,World.drewN_drewN _ _ _⟩|exact⟨rfl,_,Eq.trans (World.drewN_drewN _ _ _) (congrArg (World.drewN _) (Nat.add_assoc _ _ _))⟩)));try go_wp2_with (first|(go_at_call 29;(with_reducible refine(canopyref1_Ints.calls k1 _ _ ((rd_T67 l0 x5_1).f1) _ _ ((rd_T67 l1 x5_1).f1) false _ ?side1 ?side2 ?side3 ?side4 A8.out).mono ?_);(case side1=>repeat (first|exact HR199_1.out|(with_reducible refine Kd.C_alloc ?_ _)|(with_reducible refine Kd.C_drewN ?_ _)|(with_reducible refine Kd.C_drew ?_)));(case side2=>exact HC199_1.out);(case side3=>repeat (first|exact HR200_1.out|(with_reducible refine Kd.C_alloc ?_ _)|(with_reducible refine Kd.C_drewN ?_ _)|(with_reducible refine Kd.C_drew ?_)));(case side4=>exact HC200_1.out);rintro e w' ⟨rfl,⟨nd,rfl⟩⟩;(try first|exact⟨rfl,_,World.drewN_drewN _ _ _⟩|exact⟨rfl,_,Eq.trans (World.drewN_drewN _ _ _) (congrArg (World.drewN _) (Nat.add_assoc _ _ _))⟩))))
       go_ret
       exact⟨by first|rfl|(simp;done)|(simp [*];done),by repeat (first|exact Drawn0.refl _|apply Drawn0.step)⟩
      rw [if_neg c7] at H
      have c7b0:(((rd_T67 l0 x5_1).f0) == ((rd_T67 l1 x5_1).f0))=false:=beq_eq_false_iff_ne.mpr c7
      have c7b1:(((rd_T67 l0 x5_1).f0) != ((rd_T67 l1 x5_1).f0))=true:=bne_iff_ne.mpr c7
      obtain rfl:=Option.some.inj H
      have p197:0≤(x5_1:Int):=of_decide_eq_true (by first|(with_reducible assumption)|assumption)
      have q197:x5_1 < (l0.length:Int):=of_decide_eq_true (by first|(with_reducible assumption)|assumption)
      obtain⟨ad197,A197_1,c197_1,e197,hx197_0,hx197_1,hl197_1,hi197_1⟩:=at_T67 HR0.out x5_1 p197 q197
      cases e197
      have HR197_1:=Aside0.mk hi197_1
      have HC197_1:=Aside0.mk hl197_1
      clear hi197_1 hl197_1
      replace p197:=eq_true p197
      replace q197:=eq_true q197
      have p198:0≤(x5_1:Int):=of_decide_eq_true (by first|(with_reducible assumption)|assumption)
      have q198:x5_1 < (l1.length:Int):=of_decide_eq_true (by first|(with_reducible assumption)|assumption)
      obtain⟨ad198,A198_1,c198_1,e198,hx198_0,hx198_1,hl198_1,hi198_1⟩:=at_T67 HR1.out x5_1 p198 q198
      cases e198
      have HR198_1:=Aside0.mk hi198_1
      have HC198_1:=Aside0.mk hl198_1
      clear hi198_1 hl198_1
      replace p198:=eq_true p198
      replace q198:=eq_true q198
      go_wp2
      repeat (go_quiet (fail);try go_wp2)
      go_ret
      exact⟨by first|rfl|(simp;done)|(simp [*];done),by repeat (first|exact Drawn0.refl _|apply Drawn0.step)⟩
     rw [if_neg c6] at H
     exact absurd H (by simp)
    rw [if_neg c5] at H
    exact absurd H (by simp)
   rw [if_neg c4] at H
   have c4b0:decide (x5_1 < (l0.length:Int))=false:=decide_eq_false c4
   clear c4
   obtain rfl:=Option.some.inj H
   go_wp2
   repeat (go_quiet (fail);try go_wp2)
   go_ret
   exact⟨by first|rfl|(simp;done)|(simp [*];done),by repeat (first|exact Drawn0.refl _|apply Drawn0.step)⟩
 rw [if_neg c3] at H
 have c3b0:((l0.length:Int) == (l1.length:Int))=false:=beq_eq_false_iff_ne.mpr c3
 have c3b1:((l0.length:Int) != (l1.length:Int))=true:=bne_iff_ne.mpr c3
 have c3b2:(l0.length == l1.length)=false:=by first|simpa using c3|(simp at c3 ⊢;omega)
 obtain rfl:=Option.some.inj H
 go_enter Try.func19,Try.ntmps19
 go_wp2
 repeat (go_quiet (fail);try go_wp2)
 go_ret
 exact⟨by first|rfl|(simp;done)|(simp [*];done),by repeat (first|exact Drawn0.refl _|apply Drawn0.step)⟩
end Go.Proofs.Ytjkhdldgmkkhjaa.P
end
section
namespace Go.Proofs.Ytjkhdldgmkkhjaa.P
open Go.RowKit Go.Proofs.YtjkhdldgmkkhjaaW.PrintWords Go.Proofs.YtjkhdldgmkkhjaaW.PrintLast Go.Proofs.YtjkhdldgmkkhjaaW.PrintMore
attribute [local go_sem] max2_int min2_int max_two min_two max_three min_three max_four min_four   -- for this text's walks alone
mutual
def canopyref4_Ends.l0:Nat→List (S67)→Int→Int→Int→List Int→List Int→List (S52)→List (S54)→List (S56)→Option (Bool)
 | 0,_,_,_,_,_,_,_,_,_=>none
 | k+1,x1,x5,x278000,x278001,x278002,x278003,x278004,x278005,x278006=>if x5 < (x1.length:Int) then (canopyref4_Ends.l1 k x1 x5 0 x278000 x278001 x278002 x278003 x278004 x278005 x278006) else (some false)
def canopyref4_Ends.l1:Nat→List (S67)→Int→Int→Int→Int→List Int→List Int→List (S52)→List (S54)→List (S56)→Option (Bool)
 | 0,_,_,_,_,_,_,_,_,_,_=>none
 | k+1,x1,x5,x6,x278000,x278001,x278002,x278003,x278004,x278005,x278006=>if x6 < (x278003.length:Int) then (if 0≤x6 then (if 0≤x5 then (if x5 < (x1.length:Int) then (if (rd x278003 x6)=((rd_T67 x1 x5).f0) then (some true) else (canopyref4_Ends.l1 k x1 x5 (wrap64 (x6+1)) x278000 x278001 x278002 x278003 x278004 x278005 x278006)) else (none)) else (none)) else (none)) else (canopyref4_Ends.l0 k x1 (wrap64 (x5+1)) x278000 x278001 x278002 x278003 x278004 x278005 x278006)
end
def canopyref4_Ends.f (k:Nat) (a0_0:Int) (a0_1:Int) (l0_2:List Int) (l0_3:List Int) (l0_4:List (S52)) (l0_5:List (S54)) (l0_6:List (S56)) (l1:List (S67)):Option (Bool):=canopyref4_Ends.l0 k l1 0 a0_0 a0_1 l0_2 l0_3 l0_4 l0_5 l0_6
theorem canopyref4_Ends.mono_l:∀k,(∀y0 y1 y2 y3 y4 y5 y6 y7 y8,LeO (canopyref4_Ends.l0 k y0 y1 y2 y3 y4 y5 y6 y7 y8) (canopyref4_Ends.l0 (k+1) y0 y1 y2 y3 y4 y5 y6 y7 y8))∧(∀y0 y1 y2 y3 y4 y5 y6 y7 y8 y9,LeO (canopyref4_Ends.l1 k y0 y1 y2 y3 y4 y5 y6 y7 y8 y9) (canopyref4_Ends.l1 (k+1) y0 y1 y2 y3 y4 y5 y6 y7 y8 y9))
 | 0=>⟨fun _ _ _ _ _ _ _ _ _ r h=>by simp [canopyref4_Ends.l0] at h,fun _ _ _ _ _ _ _ _ _ _ r h=>by simp [canopyref4_Ends.l1] at h⟩
 | k+1=>by
  obtain⟨ih0,ih1⟩:=canopyref4_Ends.mono_l k
  refine⟨?_,?_⟩
  ·intro y0 y1 y2 y3 y4 y5 y6 y7 y8
   unfold canopyref4_Ends.l0
   repeat' first
   | (with_reducible exact ih0 _ _ _ _ _ _ _ _ _)
   | (with_reducible exact ih1 _ _ _ _ _ _ _ _ _ _)
   | (with_reducible exact LeO.refl _)
   | (with_reducible exact LeO.none _)
   | (with_reducible refine LeO.ite ?_ ?_)
   | (with_reducible refine LeO.bind ?_ (fun _=>?_))
   | exact ih0 _ _ _ _ _ _ _ _ _
   | exact ih1 _ _ _ _ _ _ _ _ _ _
   | exact LeO.none _
   | refine LeO.ite ?_ ?_
   | refine LeO.bind ?_ (fun _=>?_)
  intro y0 y1 y2 y3 y4 y5 y6 y7 y8 y9
  unfold canopyref4_Ends.l1
  repeat' first
  | (with_reducible exact ih0 _ _ _ _ _ _ _ _ _)
  | (with_reducible exact ih1 _ _ _ _ _ _ _ _ _ _)
  | (with_reducible exact LeO.refl _)
  | (with_reducible exact LeO.none _)
  | (with_reducible refine LeO.ite ?_ ?_)
  | (with_reducible refine LeO.bind ?_ (fun _=>?_))
  | exact ih0 _ _ _ _ _ _ _ _ _
  | exact ih1 _ _ _ _ _ _ _ _ _ _
  | exact LeO.none _
  | refine LeO.ite ?_ ?_
  | refine LeO.bind ?_ (fun _=>?_)
theorem canopyref4_Ends.mono:∀a0 a1 a2 a3 a4 a5 a6 a7 k,LeO (canopyref4_Ends.f k a0 a1 a2 a3 a4 a5 a6 a7) (canopyref4_Ends.f (k+1) a0 a1 a2 a3 a4 a5 a6 a7):=by
 intro a0 a1 a2 a3 a4 a5 a6 a7 k
 obtain⟨ih0,ih1⟩:=canopyref4_Ends.mono_l k
 unfold canopyref4_Ends.f
 repeat' first
  | (with_reducible exact ih0 _ _ _ _ _ _ _ _ _)
  | (with_reducible exact ih1 _ _ _ _ _ _ _ _ _ _)
  | (with_reducible exact LeO.refl _)
  | (with_reducible exact LeO.none _)
  | (with_reducible refine LeO.ite ?_ ?_)
  | (with_reducible refine LeO.bind ?_ (fun _=>?_))
  | exact ih0 _ _ _ _ _ _ _ _ _
  | exact ih1 _ _ _ _ _ _ _ _ _ _
  | exact LeO.none _
  | refine LeO.ite ?_ ?_
  | refine LeO.bind ?_ (fun _=>?_)
set_option maxHeartbeats 8000000 in
set_option maxRecDepth 100000 in
theorem canopyref4_Ends.calls (k:Nat) (a0_0:Int) (a0_1:Int) (A0_2:Option Addr) (c0_2:Nat) (l0_2:List Int) (A0_3:Option Addr) (c0_3:Nat) (l0_3:List Int) (A0_4:Option Addr) (c0_4:Nat) (l0_4:List (S52)) (A0_5:Option Addr) (c0_5:Nat) (l0_5:List (S54)) (A0_6:Option Addr) (c0_6:Nat) (l0_6:List (S56)) (A1:Option Addr) (c1:Nat) (l1:List (S67)) (r:Bool) (w:World) (hr0_2:Kd.C (Kd.int .i64) w A0_2 l0_2.length l0_2) (hc0_2:l0_2.length≤c0_2) (hr0_3:Kd.C (Kd.int .i64) w A0_3 l0_3.length l0_3) (hc0_3:l0_3.length≤c0_3) (hr0_4:Kd.C k52 w A0_4 l0_4.length l0_4) (hc0_4:l0_4.length≤c0_4) (hr0_5:Kd.C k54 w A0_5 l0_5.length l0_5) (hc0_5:l0_5.length≤c0_5) (hr0_6:Kd.C k56 w A0_6 l0_6.length l0_6) (hc0_6:l0_6.length≤c0_6) (hr1:Kd.C k67 w A1 l1.length l1) (hc1:l1.length≤c1) (h:canopyref4_Ends.f k a0_0 a0_1 l0_2 l0_3 l0_4 l0_5 l0_6 l1=some r) :
 Calls Try.prog 24 #[.agg #[.int .i64 a0_0,.int .i64 a0_1,.slice A0_2 l0_2.length c0_2,.slice A0_3 l0_3.length c0_3,.slice A0_4 l0_4.length c0_4,.slice A0_5 l0_5.length c0_5,.slice A0_6 l0_6.length c0_6],.slice A1 l1.length c1] w fun e w'=>e=.returned (.bool r)∧Below w.heap.size w w':=by
 have hu30:=Try.underlying30
 have HR0_2:=Aside0.mk hr0_2
 have HC0_2:=Aside0.mk hc0_2
 clear hr0_2 hc0_2
 have HR0_3:=Aside0.mk hr0_3
 have HC0_3:=Aside0.mk hc0_3
 clear hr0_3 hc0_3
 have HR0_4:=Aside0.mk hr0_4
 have HC0_4:=Aside0.mk hc0_4
 clear hr0_4 hc0_4
 have HR0_5:=Aside0.mk hr0_5
 have HC0_5:=Aside0.mk hc0_5
 clear hr0_5 hc0_5
 have HR0_6:=Aside0.mk hr0_6
 have HC0_6:=Aside0.mk hc0_6
 clear hr0_6 hc0_6
 have HR1:=Aside0.mk hr1
 have HC1:=Aside0.mk hc1
 clear hr1 hc1
 have HB:=Aside0.mk (Below.refl w.heap.size w)
 have H:(canopyref4_Ends.l0 k l1 0 a0_0 a0_1 l0_2 l0_3 l0_4 l0_5 l0_6)=some r:=h
 clear h
 have H':=Aside0.mk H
 clear H
 go_enter Try.func24,Try.ntmps24
 go_wp2_with (first|((with_reducible refine gate_dst (N:=2) rfl ?_);refine box_event ?hg (N:=2) ?hd (cs:=#[.int .i64 a0_0,.int .i64 a0_1,.slice A0_2 l0_2.length c0_2,.slice A0_3 l0_3.length c0_3,.slice A0_4 l0_4.length c0_4,.slice A0_5 l0_5.length c0_5,.slice A0_6 l0_6.length c0_6]) (t:=30) ?hr ?_;(case hd=>rfl);(case hg=>rfl);(case hr=>first|(go_simp;done)|(go_simp;rfl));intro gb277 hg w3 hbox hb;have n0_:=Aside0.mk (below_step (by repeat (first|(with_reducible first|exact HB.out|apply below_alloc|apply pw_below_drewN|apply below_drew1)|exact HB.out)) hb);have n1_:=Aside0.mk (hbox);have n2_:=Aside0.mk ((by rw [hg];exact(below_size (by repeat (first|(with_reducible first|exact HB.out|apply below_alloc|apply pw_below_drewN|apply below_drew1)|exact HB.out))):w.heap.size≤gb277));have n3_:=Aside0.mk ((by rw [hg];exact(below_size (by repeat (first|(with_reducible first|exact HB.out|apply below_alloc|apply pw_below_drewN|apply below_drew1)|exact HB.out))):w.heap.size≤gb277));clear HB;have HB:=n0_;have BK277:=n1_;have GW277:=n2_;have GE277:=n3_;clear n0_ n1_ n2_ n3_;clear hb hbox hg))
 repeat (go_quiet (first|((with_reducible refine gate_dst (N:=2) rfl ?_);refine box_event ?hg (N:=2) ?hd (cs:=#[.int .i64 a0_0,.int .i64 a0_1,.slice A0_2 l0_2.length c0_2,.slice A0_3 l0_3.length c0_3,.slice A0_4 l0_4.length c0_4,.slice A0_5 l0_5.length c0_5,.slice A0_6 l0_6.length c0_6]) (t:=30) ?hr ?_;(case hd=>rfl);(case hg=>rfl);(case hr=>first|(go_simp;done)|(go_simp;rfl));intro gb277 hg w3 hbox hb;have n0_:=Aside0.mk (below_step (by repeat (first|(with_reducible first|exact HB.out|apply below_alloc|apply pw_below_drewN|apply below_drew1)|exact HB.out)) hb);have n1_:=Aside0.mk (hbox);have n2_:=Aside0.mk ((by rw [hg];exact(below_size (by repeat (first|(with_reducible first|exact HB.out|apply below_alloc|apply pw_below_drewN|apply below_drew1)|exact HB.out))):w.heap.size≤gb277));have n3_:=Aside0.mk ((by rw [hg];exact(below_size (by repeat (first|(with_reducible first|exact HB.out|apply below_alloc|apply pw_below_drewN|apply below_drew1)|exact HB.out))):w.heap.size≤gb277));clear HB;have HB:=n0_;have BK277:=n1_;have GW277:=n2_;have GE277:=n3_;clear n0_ n1_ n2_ n3_;clear hb hbox hg));try go_wp2_with (first|((with_reducible refine gate_dst (N:=2) rfl ?_);refine box_event ?hg (N:=2) ?hd (cs:=#[.int .i64 a0_0,.int .i64 a0_1,.slice A0_2 l0_2.length c0_2,.slice A0_3 l0_3.length c0_3,.slice A0_4 l0_4.length c0_4,.slice A0_5 l0_5.length c0_5,.slice A0_6 l0_6.length c0_6]) (t:=30) ?hr ?_;(case hd=>rfl);(case hg=>rfl);(case hr=>first|(go_simp;done)|(go_simp;rfl));intro gb277 hg w3 hbox hb;have n0_:=Aside0.mk (below_step (by repeat (first|(with_reducible first|exact HB.out|apply below_alloc|apply pw_below_drewN|apply below_drew1)|exact HB.out)) hb);have n1_:=Aside0.mk (hbox);have n2_:=Aside0.mk ((by rw [hg];exact(below_size (by repeat (first|(with_reducible first|exact HB.out|apply below_alloc|apply pw_below_drewN|apply below_drew1)|exact HB.out))):w.heap.size≤gb277));have n3_:=Aside0.mk ((by rw [hg];exact(below_size (by repeat (first|(with_reducible first|exact HB.out|apply below_alloc|apply pw_below_drewN|apply below_drew1)|exact HB.out))):w.heap.size≤gb277));clear HB;have HB:=n0_;have BK277:=n1_;have GW277:=n2_;have GE277:=n3_;clear n0_ n1_ n2_ n3_;clear hb hbox hg)))
 go_loopg [5] k (fun kq v5 w'=>∃(x5_1:Int),v5=.int .i64 x5_1∧Aside0 (canopyref4_Ends.l0 kq l1 x5_1 a0_0 a0_1 l0_2 l0_3 l0_4 l0_5 l0_6=some r)∧Aside0 (kq≤k)∧Aside0 (w'.heap[gb277]? = some (.cells #[.int .i64 a0_0,.int .i64 a0_1,(.slice A0_2 l0_2.length c0_2),(.slice A0_3 l0_3.length c0_3),(.slice A0_4 l0_4.length c0_4),(.slice A0_5 l0_5.length c0_5),(.slice A0_6 l0_6.length c0_6)] 30 (0,0)))∧Aside0 (Below w.heap.size w w'))
 case atStart=>exact⟨(0),(by first|rfl|(simp;done)|(simp [*];done)),H',⟨Nat.le_refl _⟩,⟨by(with_reducible repeat (first|refine blk_drewN ?_ _|refine blk_drew ?_|refine blk_alloc ?_ _));exact BK277.out⟩,⟨by repeat (first|(with_reducible first|exact HB.out|apply below_alloc|apply pw_below_drewN|apply below_drew1|refine below_set ?_ GE277.out)|exact HB.out)⟩⟩
 case' round=>skip
 clear H'
 try clear c1
 try clear c2
 try clear p2
 obtain⟨x5_1,rfl,HA,HK1,BK277,HB⟩:=hrel
 cases gk with
 | zero=>exact absurd HA.out (by simp [canopyref4_Ends.l0])
 | succ k1=>
  have H:=HA.out
  clear HA
  simp only [canopyref4_Ends.l0] at H
  by_cases c4:x5_1 < (l1.length:Int)
  ·rw [if_pos c4] at H
   have c4b0:decide (x5_1 < (l1.length:Int))=true:=decide_eq_true c4
   clear c4
   have H':=Aside0.mk H
   clear H
   go_wp2
   repeat (go_quiet (fail);try go_wp2)
   go_loopg [6] k1 (fun kq v6 w'=>∃(x6_2:Int),v6=.int .i64 x6_2∧Aside0 (canopyref4_Ends.l1 kq l1 x5_1 x6_2 a0_0 a0_1 l0_2 l0_3 l0_4 l0_5 l0_6=some r)∧Aside0 (kq≤k1)∧Aside0 (w'.heap[gb277]? = some (.cells #[.int .i64 a0_0,.int .i64 a0_1,(.slice A0_2 l0_2.length c0_2),(.slice A0_3 l0_3.length c0_3),(.slice A0_4 l0_4.length c0_4),(.slice A0_5 l0_5.length c0_5),(.slice A0_6 l0_6.length c0_6)] 30 (0,0)))∧Aside0 (Below w.heap.size w w'))
   case atStart=>exact⟨(0),(by first|rfl|(simp;done)|(simp [*];done)),H',⟨Nat.le_refl _⟩,⟨by(with_reducible repeat (first|refine blk_drewN ?_ _|refine blk_drew ?_|refine blk_alloc ?_ _));exact BK277.out⟩,⟨by repeat (first|(with_reducible first|exact HB.out|apply below_alloc|apply pw_below_drewN|apply below_drew1|refine below_set ?_ GE277.out)|exact HB.out)⟩⟩
   case' round=>skip
   clear H'
   try clear c1
   try clear c2
   try clear p2
   try clear c4
   try clear c4b0
   try clear p2
   obtain⟨x6_2,rfl,HA,HK2,BK277,HB⟩:=hrel
   cases gk with
   | zero=>exact absurd HA.out (by simp [canopyref4_Ends.l1])
   | succ k2=>
    have H:=HA.out
    clear HA
    simp only [canopyref4_Ends.l1] at H
    by_cases c5:x6_2 < (l0_3.length:Int)
    ·rw [if_pos c5] at H
     have c5b0:decide (x6_2 < (l0_3.length:Int))=true:=decide_eq_true c5
     clear c5
     by_cases c6:0≤x6_2
     ·rw [if_pos c6] at H
      have c6b0:decide (0≤x6_2)=true:=decide_eq_true c6
      clear c6
      by_cases c7:0≤x5_1
      ·rw [if_pos c7] at H
       have c7b0:decide (0≤x5_1)=true:=decide_eq_true c7
       clear c7
       by_cases c8:x5_1 < (l1.length:Int)
       ·rw [if_pos c8] at H
        have c8b0:decide (x5_1 < (l1.length:Int))=true:=decide_eq_true c8
        clear c8
        by_cases c9:(rd l0_3 x6_2)=((rd_T67 l1 x5_1).f0)
        ·rw [if_pos c9] at H
         have c9b0:((rd l0_3 x6_2) == ((rd_T67 l1 x5_1).f0))=true:=beq_iff_eq.mpr c9
         have c9b1:((rd l0_3 x6_2) != ((rd_T67 l1 x5_1).f0))=false:=bne_eq_false_iff_eq.mpr c9
         clear c9
         obtain rfl:=Option.some.inj H
         have hcz10_0:wr.cell? ⟨gb277,0,none⟩=some (.int .i64 a0_0):=(blk_cell BK277.out 0).trans rfl
         have hcz10_1:wr.cell? ⟨gb277,1,none⟩=some (.int .i64 a0_1):=(blk_cell BK277.out 1).trans rfl
         have hcz10_2:wr.cell? ⟨gb277,2,none⟩=some (.slice A0_2 l0_2.length c0_2):=(blk_cell BK277.out 2).trans rfl
         have hcz10_3:wr.cell? ⟨gb277,3,none⟩=some (.slice A0_3 l0_3.length c0_3):=(blk_cell BK277.out 3).trans rfl
         have hcz10_4:wr.cell? ⟨gb277,4,none⟩=some (.slice A0_4 l0_4.length c0_4):=(blk_cell BK277.out 4).trans rfl
         have hcz10_5:wr.cell? ⟨gb277,5,none⟩=some (.slice A0_5 l0_5.length c0_5):=(blk_cell BK277.out 5).trans rfl
         have hcz10_6:wr.cell? ⟨gb277,6,none⟩=some (.slice A0_6 l0_6.length c0_6):=(blk_cell BK277.out 6).trans rfl
         have hfz10_0:=blk_frozen BK277.out 0
         have hfz10_1:=blk_frozen BK277.out 1
         have hfz10_2:=blk_frozen BK277.out 2
         have hfz10_3:=blk_frozen BK277.out 3
         have hfz10_4:=blk_frozen BK277.out 4
         have hfz10_5:=blk_frozen BK277.out 5
         have hfz10_6:=blk_frozen BK277.out 6
         have p278:0≤(x6_2:Int):=of_decide_eq_true (by first|(with_reducible assumption)|assumption)
         have q278:x6_2 < (l0_3.length:Int):=of_decide_eq_true (by first|(with_reducible assumption)|assumption)
         obtain⟨ad278,e278,hx278_0⟩:=Kd.at_int HR0_3.out x6_2 p278 q278
         cases e278
         replace hx278_0:=(HB.out.cell (World.block_lt_of_cell? w _ hx278_0)).trans hx278_0
         replace p278:=eq_true p278
         replace q278:=eq_true q278
         have p279:0≤(x5_1:Int):=of_decide_eq_true (by first|(with_reducible assumption)|assumption)
         have q279:x5_1 < (l1.length:Int):=of_decide_eq_true (by first|(with_reducible assumption)|assumption)
         obtain⟨ad279,A279_1,c279_1,e279,hx279_0,hx279_1,hl279_1,hi279_1⟩:=at_T67 HR1.out x5_1 p279 q279
         cases e279
         replace hx279_0:=(HB.out.cell (World.block_lt_of_cell? w _ hx279_0)).trans hx279_0
         replace hx279_1:=(HB.out.cell (World.block_lt_of_cell? w _ hx279_1)).trans hx279_1
         have HR279_1:=Aside0.mk hi279_1
         have HC279_1:=Aside0.mk hl279_1
         clear hi279_1 hl279_1
         replace p279:=eq_true p279
         replace q279:=eq_true q279
         go_wp2
         repeat (go_quiet (fail);try go_wp2)
         go_ret
         exact⟨by first|rfl|(simp [errW_none,errW_some]<;>rfl)|(simp [*,errW_none,errW_some]<;>rfl),by repeat (first|(with_reducible first|exact HB.out|apply below_alloc|apply pw_below_drewN|apply below_drew1|refine below_set ?_ GE277.out)|exact HB.out)⟩
        rw [if_neg c9] at H
        have c9b0:((rd l0_3 x6_2) == ((rd_T67 l1 x5_1).f0))=false:=beq_eq_false_iff_ne.mpr c9
        have c9b1:((rd l0_3 x6_2) != ((rd_T67 l1 x5_1).f0))=true:=bne_iff_ne.mpr c9
        have H':=Aside0.mk H
        clear H
        have hcz11_0:wr.cell? ⟨gb277,0,none⟩=some (.int .i64 a0_0):=(blk_cell BK277.out 0).trans rfl
        have hcz11_1:wr.cell? ⟨gb277,1,none⟩=some (.int .i64 a0_1):=(blk_cell BK277.out 1).trans rfl
        have hcz11_2:wr.cell? ⟨gb277,2,none⟩=some (.slice A0_2 l0_2.length c0_2):=(blk_cell BK277.out 2).trans rfl
        have hcz11_3:wr.cell? ⟨gb277,3,none⟩=some (.slice A0_3 l0_3.length c0_3):=(blk_cell BK277.out 3).trans rfl
        have hcz11_4:wr.cell? ⟨gb277,4,none⟩=some (.slice A0_4 l0_4.length c0_4):=(blk_cell BK277.out 4).trans rfl
        have hcz11_5:wr.cell? ⟨gb277,5,none⟩=some (.slice A0_5 l0_5.length c0_5):=(blk_cell BK277.out 5).trans rfl
        have hcz11_6:wr.cell? ⟨gb277,6,none⟩=some (.slice A0_6 l0_6.length c0_6):=(blk_cell BK277.out 6).trans rfl
        have hfz11_0:=blk_frozen BK277.out 0
        have hfz11_1:=blk_frozen BK277.out 1
        have hfz11_2:=blk_frozen BK277.out 2
        have hfz11_3:=blk_frozen BK277.out 3
        have hfz11_4:=blk_frozen BK277.out 4
        have hfz11_5:=blk_frozen BK277.out 5
        have hfz11_6:=blk_frozen BK277.out 6
        have p278:0≤(x6_2:Int):=of_decide_eq_true (by first|(with_reducible assumption)|assumption)
        have q278:x6_2 < (l0_3.length:Int):=of_decide_eq_true (by first|(with_reducible assumption)|assumption)
        obtain⟨ad278,e278,hx278_0⟩:=Kd.at_int HR0_3.out x6_2 p278 q278
        cases e278
        replace hx278_0:=(HB.out.cell (World.block_lt_of_cell? w _ hx278_0)).trans hx278_0
        replace p278:=eq_true p278
        replace q278:=eq_true q278
        have p279:0≤(x5_1:Int):=of_decide_eq_true (by first|(with_reducible assumption)|assumption)
        have q279:x5_1 < (l1.length:Int):=of_decide_eq_true (by first|(with_reducible assumption)|assumption)
        obtain⟨ad279,A279_1,c279_1,e279,hx279_0,hx279_1,hl279_1,hi279_1⟩:=at_T67 HR1.out x5_1 p279 q279
        cases e279
        replace hx279_0:=(HB.out.cell (World.block_lt_of_cell? w _ hx279_0)).trans hx279_0
        replace hx279_1:=(HB.out.cell (World.block_lt_of_cell? w _ hx279_1)).trans hx279_1
        have HR279_1:=Aside0.mk hi279_1
        have HC279_1:=Aside0.mk hl279_1
        clear hi279_1 hl279_1
        replace p279:=eq_true p279
        replace q279:=eq_true q279
        go_wp2
        repeat (go_quiet (fail);try go_wp2)
        go_roundg k2
        case measure=>have:=HK1.out;have:=HK2.out;omega
        case rel=>exact⟨(wrap64 (x6_2+1)),(by first|rfl|(simp;done)|(simp [*];done)),H',⟨by have:=HK1.out;have:=HK2.out;omega⟩,⟨by(with_reducible repeat (first|refine blk_drewN ?_ _|refine blk_drew ?_|refine blk_alloc ?_ _));exact BK277.out⟩,⟨by repeat (first|(with_reducible first|exact HB.out|apply below_alloc|apply pw_below_drewN|apply below_drew1|refine below_set ?_ GE277.out)|exact HB.out)⟩⟩
       rw [if_neg c8] at H
       exact absurd H (by simp)
      rw [if_neg c7] at H
      exact absurd H (by simp)
     rw [if_neg c6] at H
     exact absurd H (by simp)
    rw [if_neg c5] at H
    have c5b0:decide (x6_2 < (l0_3.length:Int))=false:=decide_eq_false c5
    clear c5
    have H':=Aside0.mk H
    clear H
    have hcz12_0:wr.cell? ⟨gb277,0,none⟩=some (.int .i64 a0_0):=(blk_cell BK277.out 0).trans rfl
    have hcz12_1:wr.cell? ⟨gb277,1,none⟩=some (.int .i64 a0_1):=(blk_cell BK277.out 1).trans rfl
    have hcz12_2:wr.cell? ⟨gb277,2,none⟩=some (.slice A0_2 l0_2.length c0_2):=(blk_cell BK277.out 2).trans rfl
    have hcz12_3:wr.cell? ⟨gb277,3,none⟩=some (.slice A0_3 l0_3.length c0_3):=(blk_cell BK277.out 3).trans rfl
    have hcz12_4:wr.cell? ⟨gb277,4,none⟩=some (.slice A0_4 l0_4.length c0_4):=(blk_cell BK277.out 4).trans rfl
    have hcz12_5:wr.cell? ⟨gb277,5,none⟩=some (.slice A0_5 l0_5.length c0_5):=(blk_cell BK277.out 5).trans rfl
    have hcz12_6:wr.cell? ⟨gb277,6,none⟩=some (.slice A0_6 l0_6.length c0_6):=(blk_cell BK277.out 6).trans rfl
    have hfz12_0:=blk_frozen BK277.out 0
    have hfz12_1:=blk_frozen BK277.out 1
    have hfz12_2:=blk_frozen BK277.out 2
    have hfz12_3:=blk_frozen BK277.out 3
    have hfz12_4:=blk_frozen BK277.out 4
    have hfz12_5:=blk_frozen BK277.out 5
    have hfz12_6:=blk_frozen BK277.out 6
    go_wp2
    repeat (go_quiet (fail);try go_wp2)
    go_roundg k2
    case measure=>have:=HK1.out;have:=HK2.out;omega
    case rel=>exact⟨(wrap64 (x5_1+1)),(by first|rfl|(simp;done)|(simp [*];done)),H',⟨by have:=HK1.out;have:=HK2.out;omega⟩,⟨by(with_reducible repeat (first|refine blk_drewN ?_ _|refine blk_drew ?_|refine blk_alloc ?_ _));exact BK277.out⟩,⟨by repeat (first|(with_reducible first|exact HB.out|apply below_alloc|apply pw_below_drewN|apply below_drew1|refine below_set ?_ GE277.out)|exact HB.out)⟩⟩
  rw [if_neg c4] at H
  have c4b0:decide (x5_1 < (l1.length:Int))=false:=decide_eq_false c4
  clear c4
  obtain rfl:=Option.some.inj H
  go_wp2
  repeat (go_quiet (fail);try go_wp2)
  go_ret
  exact⟨by first|rfl|(simp [errW_none,errW_some]<;>rfl)|(simp [*,errW_none,errW_some]<;>rfl),by repeat (first|(with_reducible first|exact HB.out|apply below_alloc|apply pw_below_drewN|apply below_drew1|refine below_set ?_ GE277.out)|exact HB.out)⟩
end Go.Proofs.Ytjkhdldgmkkhjaa.P
end
