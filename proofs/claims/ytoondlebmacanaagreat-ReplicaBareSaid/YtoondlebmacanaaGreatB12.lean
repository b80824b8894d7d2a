/- A part of the proof of ReplicaBare+ReplicaWindow. -/
import Derived.Test.YtoondlebmacanaaGreatB11
set_option linter.unusedSimpArgs false
set_option linter.unusedVariables false
set_option maxHeartbeats 16000000
set_option maxRecDepth 100000
section
namespace Go.Proofs.YtoondlebmacanaaGreat.Fx
open Go.Ab Go.RowKit
theorem zLN {C D G:Prop} (c:C) (d:D) (t:C→D→G:=by intro c d;(refine af ?_;intros;apply wr);repeat' ((first|(refine zAC rfl (fun h=>?_) (fun h=>?_)<;>(first|(simp at h;done)|(simp at h)|skip)<;>(first|(exfalso;omega)|skip))|((first|refine .inl ⟨1,_,d.1,?_⟩|refine ⟨1,_,d.1,?_⟩);simp [aftC,aftE,noX,noXc,noX1];first|refine And.intro zAP ?_|skip)|((first|refine .inl ⟨1,_,d.2.1,?_⟩|refine ⟨1,_,d.2.1,?_⟩);simp [aftC,aftE,noX,noXc,noX1];first|refine And.intro zAP ?_|skip)|refine cc c.1 ?_|refine cc c.2.1 ?_|refine cc c.2.2.1 ?_|refine cc c.2.2.2.1 ?_|refine cc c.2.2.2.2.1 ?_|refine cc c.2.2.2.2.2.1 ?_|(refine zAG 15 [0,1,3,0,8,24,56,24,152,408,1016,2040,31,4127,16383] [(14,([[],[0],[0,1],[],[3],[3,4],[3,4,5],[3,4],[3,4,7],[3,4,7,8],[3,4,5,6,7,8,9],[3,4,5,6,7,8,9,10],[0,1,2,3,4],[0,1,2,3,4,12]],[])),(1,([],[]))] ?_)|exact rt|fail)<;>(refine af ?_;intros;apply wr))):G:=t c d
theorem zSw:zAD Tryz.prog 127 [.st (rplR 1 0 0 3).row] (.tup [uv 0,.bool false,.bool true]):=by
 refine sZ Tryz.func127 Tryz.ntmps127 ?_;exact zLN (qX1 (zJ2)) trivial
theorem zSx:zAD Tryz.prog 127 [.st (rplR 9 1 1 3).row] (.tup [uv 0,.bool false,.bool true]):=by
 refine sZ Tryz.func127 Tryz.ntmps127 ?_;exact zLN (qX1 (zJ3)) trivial
theorem zSy:zAD Tryz.prog 127 [.st (rplR 9 1 2 3).row] (.tup [uv 0,.bool false,.bool true]):=by
 refine sZ Tryz.func127 Tryz.ntmps127 ?_;exact zLN (qX1 (zJ4)) trivial
theorem zVc:zAD Tryz.prog 78 [.st (rplR 1 0 0 3).row,iv 3] (.tup [.st (rplR 9 1 3 3).row,.sl 4 false []]):=by
 refine sX Tryz.func78 Tryz.ntmps78 ?_;(repeat intro K hK);apply wr
 (refine au1 @mk.eq_1 ?_;(repeat intro K hK);apply wr)
 repeat' ((first|(refine zAC rfl (fun h=>?_) (fun h=>?_)<;>(first|(simp [mk] at h;done)|(simp [mk] at h)|skip)<;>(first|(exfalso;omega)|skip))|((first|refine .inr ((zQA 0 _ _ _).mono fun r nx' ob' hp=>?_)|refine (zQA 0 _ _ _).mono fun r nx' ob' hp=>?_);obtain ⟨rfl,rfl,rfl⟩:=hp;simp [aftI,mk])|refine cc1 (zGz (rplR 1 0 0 3) (lenM _ _ _) (by simp)) @mk.eq_1 ?_|refine cc1 (zKt) @mk.eq_1 ?_|refine cc1 (zII) @mk.eq_1 ?_|refine cc1 (zIJ) @mk.eq_1 ?_|refine cc1 (zIK) @mk.eq_1 ?_|refine cc1 (zSw) @mk.eq_1 ?_|refine cc1 (zSx) @mk.eq_1 ?_|refine cc1 (zSy) @mk.eq_1 ?_|refine cc1 (zMh _) @mk.eq_1 ?_|refine cc1 (zMi _) @mk.eq_1 ?_|refine cc1 (zMj _) @mk.eq_1 ?_|(refine zM5 rfl ?_;refine (zUg _ _ 0 _ _ _ _ (by rfl) (by rfl) (by rfl) (by rfl) (by decide)).mono fun r nx' ob' hp=>?_;obtain ⟨rfl,rfl,rfl⟩:=hp;simp [mk])|refine zAL 4 ?_|refine zAH fun K hK=>?_|exact rt1 @mk.eq_1|fail)<;>(refine au1 @mk.eq_1 ?_;(repeat intro K hK);apply wr))
theorem zO1:zAD Tryz.prog 32 [.st (wB 1 0 0 3 2 3).row,iv 3] (.st (wB 9 1 3 3 2 3).row):=by
 refine sZ Tryz.func32 Tryz.ntmps32 ?_;exact wx (qX3 (zVc) (zLv 0 0) (zVi 0 0 0 (by decide))) trivial
theorem zVq:zAD Tryz.prog 9 [.st (wB 1 0 0 3 2 3).row,iv 3,uv 0] (.st (wB 9 1 3 3 2 3).row):=by
 refine sZ Tryz.func9 Tryz.ntmps9 ?_;exact wx (qX2 (zJG 1 0 0 3 2 3) (zO1)) trivial
theorem zSI:zAD Tryz.prog 11 [.st (rA 1).row] (.st (mk 9 1 3).row):=by
 refine sZ Tryz.func11 Tryz.ntmps11 ?_;exact wx1 (qX1 (zCL (mk 9 1 3) (lenM _ _ _))) trivial @segs.eq_1
theorem zSJ:zAD Tryz.prog 11 [.st (wB 9 1 3 3 2 3).row] (.st (mk 9 1 3).row):=by
 refine sZ Tryz.func11 Tryz.ntmps11 ?_;exact wx (qX1 (zCL (mk 9 1 3) (lenM _ _ _))) trivial
end Go.Proofs.YtoondlebmacanaaGreat.Fx
end
