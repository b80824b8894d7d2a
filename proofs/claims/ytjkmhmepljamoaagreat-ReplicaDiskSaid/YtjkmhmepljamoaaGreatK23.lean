/- A part of the proof of ReplicaDisk. -/
import Derived.Shelf.Lays
import Derived.Shelf.Strings.Repeat
import Derived.Test.YtjkmhmepljamoaaGreatProg
set_option linter.all false
set_option maxHeartbeats 16000000
set_option maxRecDepth 100000
section
namespace Go.Proofs.YtjkmhmepljamoaaGreat
open Go.Shelf
def repLays_ren:Go.Shelf.Ren:=⟨fun|105=>312|212=>331|99=>332|165=>333|166=>252|170=>254|169=>255|263=>340|264=>341|206=>342|240=>314|241=>343|276=>334|277=>345|n=>n,fun|9=>9|3=>3|4=>4|20=>20|0=>0|46=>196|109=>422|5=>5|72=>367|76=>370|51=>25|146=>389|53=>24|148=>283|70=>365|37=>133|75=>369|127=>413|164=>425|80=>311|n=>n,fun|n=>n⟩
theorem repLays:Go.Proofs.Lays.n105 Tryz.prog repLays_ren:={
 mixed:=by kernel_rfl
 f99:=Tryz.func332.trans (congrArg some (by kernel_rfl))
 f105:=Tryz.func312.trans (congrArg some (by kernel_rfl))
 f165:=Tryz.func333.trans (congrArg some (by kernel_rfl))
 f166:=Tryz.func252.trans (congrArg some (by kernel_rfl))
 f169:=Tryz.func255.trans (congrArg some (by kernel_rfl))
 f170:=Tryz.func254.trans (congrArg some (by kernel_rfl))
 f206:=Tryz.func342.trans (congrArg some (by kernel_rfl))
 f212:=Tryz.func331.trans (congrArg some (by kernel_rfl))
 f240:=Tryz.func314.trans (congrArg some (by kernel_rfl))
 f241:=Tryz.func343.trans (congrArg some (by kernel_rfl))
 f263:=Tryz.func340.trans (congrArg some (by kernel_rfl))
 f264:=Tryz.func341.trans (congrArg some (by kernel_rfl))
 f276:=Tryz.func334.trans (congrArg some (by kernel_rfl))
 f277:=Tryz.func345.trans (congrArg some (by kernel_rfl))
 t0:=Tryz.underlying0
 a0:=Tryz.isAgg0
 z0:=Tryz.sizeOf0
 v0:=Tryz.zeroValue0
 t3:=Tryz.underlying3
 a3:=Tryz.isAgg3
 z3:=Tryz.sizeOf3
 v3:=Tryz.zeroValue3
 t4:=Tryz.underlying4
 a4:=Tryz.isAgg4
 z4:=Tryz.sizeOf4
 v4:=Tryz.zeroValue4
 t5:=Tryz.underlying5
 a5:=Tryz.isAgg5
 z5:=Tryz.sizeOf5
 v5:=Tryz.zeroValue5
 t9:=Tryz.underlying9
 a9:=Tryz.isAgg9
 z9:=Tryz.sizeOf9
 v9:=Tryz.zeroValue9
 t20:=Tryz.underlying20
 a20:=Tryz.isAgg20
 z20:=Tryz.sizeOf20
 v20:=Tryz.zeroValue20
 t37:=Tryz.underlying133
 a37:=Tryz.isAgg133
 z37:=Tryz.sizeOf133
 v37:=Tryz.zeroValue133
 t46:=Tryz.underlying196
 a46:=Tryz.isAgg196
 z46:=Tryz.sizeOf196
 v46:=Tryz.zeroValue196
 t51:=Tryz.underlying25
 a51:=Tryz.isAgg25
 z51:=Tryz.sizeOf25
 v51:=Tryz.zeroValue25
 t53:=Tryz.underlying24
 a53:=Tryz.isAgg24
 z53:=Tryz.sizeOf24
 v53:=Tryz.zeroValue24
 t70:=Tryz.underlying365
 a70:=Tryz.isAgg365
 z70:=Tryz.sizeOf365
 v70:=Tryz.zeroValue365
 t72:=Tryz.underlying367
 a72:=Tryz.isAgg367
 z72:=Tryz.sizeOf367
 v72:=Tryz.zeroValue367
 t75:=Tryz.underlying369
 a75:=Tryz.isAgg369
 z75:=Tryz.sizeOf369
 v75:=Tryz.zeroValue369
 t76:=Tryz.underlying370
 a76:=Tryz.isAgg370
 z76:=Tryz.sizeOf370
 v76:=Tryz.zeroValue370
 t109:=Tryz.underlying422
 a109:=Tryz.isAgg422
 z109:=Tryz.sizeOf422
 v109:=Tryz.zeroValue422
 t127:=Tryz.underlying413
 a127:=Tryz.isAgg413
 z127:=Tryz.sizeOf413
 v127:=Tryz.zeroValue413
 t146:=Tryz.underlying389
 a146:=Tryz.isAgg389
 z146:=Tryz.sizeOf389
 v146:=Tryz.zeroValue389
 t148:=Tryz.underlying283
 a148:=Tryz.isAgg283
 z148:=Tryz.sizeOf283
 v148:=Tryz.zeroValue283
 t164:=Tryz.underlying425
 a164:=Tryz.isAgg425
 z164:=Tryz.sizeOf425
 v164:=Tryz.zeroValue425}
end Go.Proofs.YtjkmhmepljamoaaGreat
end
