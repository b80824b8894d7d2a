/- A part of the proof of ReplicaHalts. -/
import Derived.Shelf.Lays
import Derived.Shelf.Strings.Repeat
import Derived.Test.YthjpcmecgjfilaaGreatProg
set_option linter.unusedSimpArgs false
set_option linter.unusedVariables false
set_option maxHeartbeats 16000000
set_option maxRecDepth 100000
section
namespace Go.Proofs.YthjpcmecgjfilaaGreat
open Go.Shelf
def repLays_ren:Go.Shelf.Ren:=⟨fun|105=>311|212=>330|99=>331|165=>332|166=>252|170=>254|169=>255|263=>339|264=>340|206=>341|240=>313|241=>342|276=>333|277=>344|n=>n,fun|9=>9|3=>3|4=>4|20=>20|0=>0|46=>107|109=>424|5=>5|72=>370|76=>373|51=>25|146=>397|53=>24|148=>157|70=>368|37=>159|75=>372|127=>415|164=>427|80=>315|n=>n,fun|n=>n⟩
theorem repLays:Go.Proofs.Lays.n105 Tryz.prog repLays_ren:={
 mixed:=by kernel_rfl
 f99:=Tryz.func331.trans (congrArg some (by kernel_rfl))
 f105:=Tryz.func311.trans (congrArg some (by kernel_rfl))
 f165:=Tryz.func332.trans (congrArg some (by kernel_rfl))
 f166:=Tryz.func252.trans (congrArg some (by kernel_rfl))
 f169:=Tryz.func255.trans (congrArg some (by kernel_rfl))
 f170:=Tryz.func254.trans (congrArg some (by kernel_rfl))
 f206:=Tryz.func341.trans (congrArg some (by kernel_rfl))
 f212:=Tryz.func330.trans (congrArg some (by kernel_rfl))
 f240:=Tryz.func313.trans (congrArg some (by kernel_rfl))
 f241:=Tryz.func342.trans (congrArg some (by kernel_rfl))
 f263:=Tryz.func339.trans (congrArg some (by kernel_rfl))
 f264:=Tryz.func340.trans (congrArg some (by kernel_rfl))
 f276:=Tryz.func333.trans (congrArg some (by kernel_rfl))
 f277:=Tryz.func344.trans (congrArg some (by kernel_rfl))
 t0:=Tryz.underlying0
 a0:=Tryz.isAgg0
 z0:=Tryz.sizeOf0
 v0:=Tryz.zeroValue0
 t3:=Tryz.underlying3
 a3:=Tryz.isAgg3
 z3:=Tryz.sizeOf3
 v3:=Tryz.zeroValue3
 t4:=Tryz.underlying4
 a4:=Tryz.isAgg4
 z4:=Tryz.sizeOf4
 v4:=Tryz.zeroValue4
 t5:=Tryz.underlying5
 a5:=Tryz.isAgg5
 z5:=Tryz.sizeOf5
 v5:=Tryz.zeroValue5
 t9:=Tryz.underlying9
 a9:=Tryz.isAgg9
 z9:=Tryz.sizeOf9
 v9:=Tryz.zeroValue9
 t20:=Tryz.underlying20
 a20:=Tryz.isAgg20
 z20:=Tryz.sizeOf20
 v20:=Tryz.zeroValue20
 t37:=Tryz.underlying159
 a37:=Tryz.isAgg159
 z37:=Tryz.sizeOf159
 v37:=Tryz.zeroValue159
 t46:=Tryz.underlying107
 a46:=Tryz.isAgg107
 z46:=Tryz.sizeOf107
 v46:=Tryz.zeroValue107
 t51:=Tryz.underlying25
 a51:=Tryz.isAgg25
 z51:=Tryz.sizeOf25
 v51:=Tryz.zeroValue25
 t53:=Tryz.underlying24
 a53:=Tryz.isAgg24
 z53:=Tryz.sizeOf24
 v53:=Tryz.zeroValue24
 t70:=Tryz.underlying368
 a70:=Tryz.isAgg368
 z70:=Tryz.sizeOf368
 v70:=Tryz.zeroValue368
 t72:=Tryz.underlying370
 a72:=Tryz.isAgg370
 z72:=Tryz.sizeOf370
 v72:=Tryz.zeroValue370
 t75:=Tryz.underlying372
 a75:=Tryz.isAgg372
 z75:=Tryz.sizeOf372
 v75:=Tryz.zeroValue372
 t76:=Tryz.underlying373
 a76:=Tryz.isAgg373
 z76:=Tryz.sizeOf373
 v76:=Tryz.zeroValue373
 t109:=Tryz.underlying424
 a109:=Tryz.isAgg424
 z109:=Tryz.sizeOf424
 v109:=Tryz.zeroValue424
 t127:=Tryz.underlying415
 a127:=Tryz.isAgg415
 z127:=Tryz.sizeOf415
 v127:=Tryz.zeroValue415
 t146:=Tryz.underlying397
 a146:=Tryz.isAgg397
 z146:=Tryz.sizeOf397
 v146:=Tryz.zeroValue397
 t148:=Tryz.underlying157
 a148:=Tryz.isAgg157
 z148:=Tryz.sizeOf157
 v148:=Tryz.zeroValue157
 t164:=Tryz.underlying427
 a164:=Tryz.isAgg427
 z164:=Tryz.sizeOf427
 v164:=Tryz.zeroValue427}
end Go.Proofs.YthjpcmecgjfilaaGreat
end
