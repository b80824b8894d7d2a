/- A part of the proof of ReplicaBare+ReplicaWindow. -/
import Derived.Shelf.Lays
import Derived.Shelf.Strings.Repeat
import Derived.Test.YtoondlebmacanaaGreatProg
set_option linter.unusedSimpArgs false
set_option linter.unusedVariables false
set_option maxHeartbeats 16000000
set_option maxRecDepth 100000
section
namespace Go.Proofs.YtoondlebmacanaaGreat
open Go.Shelf
def repLays_ren:Go.Shelf.Ren:=⟨fun|105=>312|212=>331|99=>332|165=>333|166=>252|170=>254|169=>255|263=>340|264=>341|206=>342|240=>314|241=>343|276=>334|277=>345|n=>n,fun|9=>9|3=>3|4=>4|20=>20|0=>0|46=>103|109=>426|5=>5|72=>371|76=>374|51=>25|146=>391|53=>24|148=>156|70=>369|37=>158|75=>373|127=>417|164=>429|80=>349|n=>n,fun|n=>n⟩
theorem repLays:Go.Proofs.Lays.n105 Tryz.prog repLays_ren:={
 mixed:=by kernel_rfl
 f99:=Tryz.func332.trans (congrArg some (by kernel_rfl))
 f105:=Tryz.func312.trans (congrArg some (by kernel_rfl))
 f165:=Tryz.func333.trans (congrArg some (by kernel_rfl))
 f166:=Tryz.func252.trans (congrArg some (by kernel_rfl))
 f169:=Tryz.func255.trans (congrArg some (by kernel_rfl))
 f170:=Tryz.func254.trans (congrArg some (by kernel_rfl))
 f206:=Tryz.func342.trans (congrArg some (by kernel_rfl))
 f212:=Tryz.func331.trans (congrArg some (by kernel_rfl))
 f240:=Tryz.func314.trans (congrArg some (by kernel_rfl))
 f241:=Tryz.func343.trans (congrArg some (by kernel_rfl))
 f263:=Tryz.func340.trans (congrArg some (by kernel_rfl))
 f264:=Tryz.func341.trans (congrArg some (by kernel_rfl))
 f276:=Tryz.func334.trans (congrArg some (by kernel_rfl))
 f277:=Tryz.func345.trans (congrArg some (by kernel_rfl))
 t0:=Tryz.underlying0
 a0:=Tryz.isAgg0
 z0:=Tryz.sizeOf0
 v0:=Tryz.zeroValue0
 t3:=Tryz.underlying3
 a3:=Tryz.isAgg3
 z3:=Tryz.sizeOf3
 v3:=Tryz.zeroValue3
 t4:=Tryz.underlying4
 a4:=Tryz.isAgg4
 z4:=Tryz.sizeOf4
 v4:=Tryz.zeroValue4
 t5:=Tryz.underlying5
 a5:=Tryz.isAgg5
 z5:=Tryz.sizeOf5
 v5:=Tryz.zeroValue5
 t9:=Tryz.underlying9
 a9:=Tryz.isAgg9
 z9:=Tryz.sizeOf9
 v9:=Tryz.zeroValue9
 t20:=Tryz.underlying20
 a20:=Tryz.isAgg20
 z20:=Tryz.sizeOf20
 v20:=Tryz.zeroValue20
 t37:=Tryz.underlying158
 a37:=Tryz.isAgg158
 z37:=Tryz.sizeOf158
 v37:=Tryz.zeroValue158
 t46:=Tryz.underlying103
 a46:=Tryz.isAgg103
 z46:=Tryz.sizeOf103
 v46:=Tryz.zeroValue103
 t51:=Tryz.underlying25
 a51:=Tryz.isAgg25
 z51:=Tryz.sizeOf25
 v51:=Tryz.zeroValue25
 t53:=Tryz.underlying24
 a53:=Tryz.isAgg24
 z53:=Tryz.sizeOf24
 v53:=Tryz.zeroValue24
 t70:=Tryz.underlying369
 a70:=Tryz.isAgg369
 z70:=Tryz.sizeOf369
 v70:=Tryz.zeroValue369
 t72:=Tryz.underlying371
 a72:=Tryz.isAgg371
 z72:=Tryz.sizeOf371
 v72:=Tryz.zeroValue371
 t75:=Tryz.underlying373
 a75:=Tryz.isAgg373
 z75:=Tryz.sizeOf373
 v75:=Tryz.zeroValue373
 t76:=Tryz.underlying374
 a76:=Tryz.isAgg374
 z76:=Tryz.sizeOf374
 v76:=Tryz.zeroValue374
 t109:=Tryz.underlying426
 a109:=Tryz.isAgg426
 z109:=Tryz.sizeOf426
 v109:=Tryz.zeroValue426
 t127:=Tryz.underlying417
 a127:=Tryz.isAgg417
 z127:=Tryz.sizeOf417
 v127:=Tryz.zeroValue417
 t146:=Tryz.underlying391
 a146:=Tryz.isAgg391
 z146:=Tryz.sizeOf391
 v146:=Tryz.zeroValue391
 t148:=Tryz.underlying156
 a148:=Tryz.isAgg156
 z148:=Tryz.sizeOf156
 v148:=Tryz.zeroValue156
 t164:=Tryz.underlying429
 a164:=Tryz.isAgg429
 z164:=Tryz.sizeOf429
 v164:=Tryz.zeroValue429}
end Go.Proofs.YtoondlebmacanaaGreat
end
