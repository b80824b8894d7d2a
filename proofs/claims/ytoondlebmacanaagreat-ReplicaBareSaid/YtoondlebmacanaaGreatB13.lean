/- A part of the proof of ReplicaBare+ReplicaWindow. -/
import Derived.Test.YtoondlebmacanaaGreatB03
import Derived.Test.YtoondlebmacanaaGreatB12
set_option linter.unusedSimpArgs false
set_option linter.unusedVariables false
set_option maxHeartbeats 16000000
set_option maxRecDepth 100000
section
namespace Go.Proofs.YtoondlebmacanaaGreat.Fx
open Go.Ab Go.RowKit
theorem zSf:zAD Tryz.prog 22 [iv 0,.st (mk 1 0 0).row,lv 1,iv 2] (.tup [.st (wA 1 0 0 0).row,.bool true]):=by
 have h:=zK2 0 (mk 1 0 0) 1 2 (by decide) (by decide) (lenM _ _ _)
 simp only [zSh,show zBR 0 (mk 1 0 0) 1 2=true by kernel_rfl,if_true] at h
 exact h
theorem zRN:zAD Tryz.prog 26 [iv 1,.st (mk 1 0 0).row,lv 1,iv 2] (.tup [.st (wB 1 0 0 0 1 0).row,.bool true]):=by
 have h:=zOG 1 (mk 1 0 0) 1 2 (by decide) (by decide) (lenM _ _ _)
 simp only [zUT,show zBR 1 (mk 1 0 0) 1 2=true by kernel_rfl,if_true] at h
 exact h
theorem zSg:zAD Tryz.prog 22 [iv 2,.st zMch.row,lv 1,iv 2] (.tup [.st zRep.row,.bool false]):=by
 have h:=zK2 2 zMch 1 2 (by decide) (by decide) (by decide)
 simp only [zSh,show zBR 2 zMch 1 2=false by kernel_rfl,if_false,zWv] at h
 exact h
noncomputable abbrev wW:List V:=(wA 1 0 0 0).row++((wB 1 0 0 0 1 0).row++[.sl 0 true [],.sl 0 true [],.sl 1 false (strs zAx),lv 1,iv 0])
theorem zET:zAD Tryz.prog 6 [iv 2,.sl 1 false [[iv 0]],iv 2] (.tup [.st wW,.bool true]):=by
 refine sX Tryz.func6 Tryz.ntmps6 ?_;(repeat intro K hK);apply wr
 (refine af ?_;(repeat intro K hK);apply wr)
 repeat' ((first|(refine zAC rfl (fun h=>?_) (fun h=>?_)<;>(first|(simp at h;done)|(simp at h)|skip)<;>(first|(exfalso;omega)|skip))|refine cc (zVJ) ?_|refine cc (zI9) ?_|refine cc (zMn) ?_|refine cc (zLb) ?_|refine cc (zSf) ?_|refine cc (zRN) ?_|(refine zAG 6 [0,0,1,5,15,31] [(4,([[],[],[0],[0,2]],[(1,3)])),(1,([],[])),(1,([],[]))] ?_)|exact rt|fail)<;>(refine af ?_;(repeat intro K hK);apply wr))
 refine zI1 [6,9,11,13,15] (by simp;rfl) ?_
 refine zHQ [51,0] (by simp only [zKn,lookO,Nat.reduceEqDiff,reduceIte];rfl) ?_
 refine zAk (by kernel_rfl) ?_
 simp (maxSteps:=2000000);refine hK _ ?_;refine zAA ?_;simp (maxSteps:=2000000)
theorem zSF:zAD Tryz.prog 19 [.st (wA 1 0 0 0).row] (.bool true):=zEe (wA 1 0 0 0)
theorem zSG:zAD Tryz.prog 19 [.st (wB 1 0 0 0 1 0).row] (.bool false):=zEe (wB 1 0 0 0 1 0)
theorem zCV:zAD Tryz.prog 5 [] (.bool true):=by
 refine sX Tryz.func5 Tryz.ntmps5 ?_;intros;apply wr
 (refine afB1 (kX2 @segs.eq_1 @mk.eq_1) ?_;intros;apply wr)
 repeat' ((first|(refine zAC rfl (fun h=>?_) (fun h=>?_)<;>(first|(simp [segs,mk] at h;done)|(simp [segs,mk] at h)|skip)<;>(first|(exfalso;omega)|skip))|refine ccB1 (zET) (kX2 @segs.eq_1 @mk.eq_1) ?_|refine ccB1 (zSF) (kX2 @segs.eq_1 @mk.eq_1) ?_|refine ccB1 (zSG) (kX2 @segs.eq_1 @mk.eq_1) ?_|refine ccB1 (zVp) (kX2 @segs.eq_1 @mk.eq_1) ?_|refine ccB1 (pks_ok) (kX2 @segs.eq_1 @mk.eq_1) ?_|refine ccB1 (zS1) (kX2 @segs.eq_1 @mk.eq_1) ?_|refine ccB1 (zVq) (kX2 @segs.eq_1 @mk.eq_1) ?_|refine ccB1 (zSg) (kX2 @segs.eq_1 @mk.eq_1) ?_|refine ccB1 (zSI) (kX2 @segs.eq_1 @mk.eq_1) ?_|refine ccB1 (zSJ) (kX2 @segs.eq_1 @mk.eq_1) ?_|refine ccB1 (zIm (mk 9 1 3) (lenM _ _ _)) (kX2 @segs.eq_1 @mk.eq_1) ?_|(refine zAv (rid:=8) (.node 5 9 (.leaf [0,1,2,3,4,5,6,7,8,9,10,11] (bN [0,1,0,4,12,31,63,127,127,63,767,2047]) [(5,([[],[0],[],[2],[2,3]],[])),(1,([],[])),(5,([[],[0],[0],[],[0,1,3]],[])),(1,([],[]))]) (.leaf [0,1,2,3,4,9,5,6,7,8,10,11] (bN [0,1,0,4,12,0,63,127,255,255,511,2047]) [(6,([[],[0],[],[2],[2,3],[]],[(1,5),(3,5),(4,5)])),(1,([],[])),(1,([],[])),(3,([[],[],[0]],[])),(1,([],[]))])) (by kernel_rfl) (by kernel_rfl) ?_;simp only [PT.run];repeat' (with_reducible apply And.intro);all_goals (simp only [zBZ,zWq,List.map_nil,zWi,zWn]))|(refine zAG (rid:=11) 26 [0,1,3,7,15,31,63,127,255,511,1023,2047,4095,8191,16383,8191,65535,131071,262143,524287,1048575,2097151,4194303,8388607,16777215,33554431] [(1,([],[])),(1,([],[])),(1,([],[])),(1,([],[])),(1,([],[])),(1,([],[])),(1,([],[])),(1,([],[])),(1,([],[])),(1,([],[])),(1,([],[])),(1,([],[])),(1,([],[])),(3,([[],[0],[]],[(2,1)])),(1,([],[])),(1,([],[])),(1,([],[])),(1,([],[])),(1,([],[])),(1,([],[])),(1,([],[])),(1,([],[])),(1,([],[])),(1,([],[]))] ?_)|exact rtB1 (kX2 @segs.eq_1 @mk.eq_1)|fail)<;>(refine afB1 (kX2 @segs.eq_1 @mk.eq_1) ?_;intros;apply wr))
end Go.Proofs.YtoondlebmacanaaGreat.Fx
end
