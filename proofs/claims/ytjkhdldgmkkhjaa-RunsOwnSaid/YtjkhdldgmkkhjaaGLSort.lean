/- Words and walks of this claim: LSort. -/
import Derived.Shelf.SlSortCmp.WholeK
import Derived.Ground.SlsfProg
import Derived.Ground.Names2Prog
import Derived.Shelf.Slices.Clone
import Derived.Test.YtjkhdldgmkkhjaaProg
set_option linter.unusedVariables false
set_option linter.unusedSimpArgs false
set_option linter.unnecessarySimpa false
namespace Go.Proofs
open Go.Shelf
def Try.sortAt_ren:Go.Shelf.Ren:=⟨fun|6=>46|15=>57|14=>56|28=>71|29=>72|20=>63|21=>64|22=>65|23=>66|24=>67|25=>68|26=>69|27=>70|46=>74|47=>75|48=>76|49=>77|50=>78|57=>79|n=>n,fun|22=>33|24=>48|25=>92|3=>3|39=>102|0=>0|53=>115|55=>117|4=>4|46=>108|45=>107|50=>112|5=>5|9=>9|66=>118|70=>122|76=>124|77=>125|n=>n,fun|n=>n⟩
theorem Try.sortAt:Go.Proofs.SlLaysF0.n6 Try.prog Try.sortAt_ren:={
 mixed:=by kernel_rfl
 f6:=⟨Try.f46.name,by decide,Try.func46.trans (congrArg some (by kernel_rfl))⟩
 f14:=⟨Try.f56.name,by decide,Try.func56.trans (congrArg some (by kernel_rfl))⟩
 f15:=Try.func57.trans (congrArg some (by kernel_rfl))
 f20:=⟨Try.f63.name,by decide,Try.func63.trans (congrArg some (by kernel_rfl))⟩
 f21:=⟨Try.f64.name,by decide,Try.func64.trans (congrArg some (by kernel_rfl))⟩
 f22:=⟨Try.f65.name,by decide,Try.func65.trans (congrArg some (by kernel_rfl))⟩
 f23:=⟨Try.f66.name,by decide,Try.func66.trans (congrArg some (by kernel_rfl))⟩
 f24:=⟨Try.f67.name,by decide,Try.func67.trans (congrArg some (by kernel_rfl))⟩
 f25:=⟨Try.f68.name,by decide,Try.func68.trans (congrArg some (by kernel_rfl))⟩
 f26:=⟨Try.f69.name,by decide,Try.func69.trans (congrArg some (by kernel_rfl))⟩
 f27:=⟨Try.f70.name,by decide,Try.func70.trans (congrArg some (by kernel_rfl))⟩
 f28:=Try.func71.trans (congrArg some (by kernel_rfl))
 f29:=Try.func72.trans (congrArg some (by kernel_rfl))
 f46:=⟨Try.f74.name,by decide,Try.func74.trans (congrArg some (by kernel_rfl))⟩
 f47:=Try.func75.trans (congrArg some (by kernel_rfl))
 f48:=Try.func76.trans (congrArg some (by kernel_rfl))
 f49:=⟨Try.f77.name,by decide,Try.func77.trans (congrArg some (by kernel_rfl))⟩
 f50:=⟨Try.f78.name,by decide,Try.func78.trans (congrArg some (by kernel_rfl))⟩
 f57:=⟨Try.f79.name,by decide,Try.func79.trans (congrArg some (by kernel_rfl))⟩
 t0:=Try.underlying0
 a0:=Try.isAgg0
 z0:=Try.sizeOf0
 v0:=Try.zeroValue0
 t3:=Try.underlying3
 a3:=Try.isAgg3
 z3:=Try.sizeOf3
 v3:=Try.zeroValue3
 t4:=Try.underlying4
 a4:=Try.isAgg4
 z4:=Try.sizeOf4
 v4:=Try.zeroValue4
 t5:=Try.underlying5
 a5:=Try.isAgg5
 z5:=Try.sizeOf5
 v5:=Try.zeroValue5
 t9:=Try.underlying9
 a9:=Try.isAgg9
 z9:=Try.sizeOf9
 v9:=Try.zeroValue9
 t22:=Try.underlying33
 a22:=Try.isAgg33
 z22:=Try.sizeOf33
 v22:=Try.zeroValue33
 t25:=Try.underlying92
 a25:=Try.isAgg92
 z25:=Try.sizeOf92
 v25:=Try.zeroValue92
 t39:=Try.underlying102
 a39:=Try.isAgg102
 z39:=Try.sizeOf102
 v39:=Try.zeroValue102
 t45:=Try.underlying107
 a45:=Try.isAgg107
 z45:=Try.sizeOf107
 v45:=Try.zeroValue107
 t46:=Try.underlying108
 a46:=Try.isAgg108
 z46:=Try.sizeOf108
 v46:=Try.zeroValue108
 t50:=Try.underlying112
 a50:=Try.isAgg112
 z50:=Try.sizeOf112
 v50:=Try.zeroValue112
 t53:=Try.underlying115
 a53:=Try.isAgg115
 z53:=Try.sizeOf115
 v53:=Try.zeroValue115
 t55:=Try.underlying117
 a55:=Try.isAgg117
 z55:=Try.sizeOf117
 v55:=Try.zeroValue117
 t66:=Try.underlying118
 a66:=Try.isAgg118
 z66:=Try.sizeOf118
 v66:=Try.zeroValue118
 t70:=Try.underlying122
 a70:=Try.isAgg122
 z70:=Try.sizeOf122
 v70:=Try.zeroValue122
 t76:=Try.underlying124
 a76:=Try.isAgg124
 z76:=Try.sizeOf124
 v76:=Try.zeroValue124
 t77:=Try.underlying125
 a77:=Try.isAgg125
 z77:=Try.sizeOf125
 v77:=Try.zeroValue125 }
end Go.Proofs
