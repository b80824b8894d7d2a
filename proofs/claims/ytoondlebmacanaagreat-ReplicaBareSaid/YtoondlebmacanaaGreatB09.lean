/- A part of the proof of ReplicaBare+ReplicaWindow. -/
import Derived.Test.YtoondlebmacanaaGreatB08
set_option linter.unusedSimpArgs false
set_option linter.unusedVariables false
set_option maxHeartbeats 16000000
set_option maxRecDepth 100000
section
namespace Go.Proofs.YtoondlebmacanaaGreat.Fx
open Go.Ab Go.RowKit
theorem zOh (k:Int):zAD Tryz.prog 118 [.st zTim.row,uv k] (.bool false):=by
 refine sZ Tryz.func118 Tryz.ntmps118 ?_;exact wx trivial trivial
theorem zKt:zAD Tryz.prog 113 [.st (mk 1 0 0).row] (.bool true):=by
 have h:=zFx (mk 1 0 0) (by decide) (by decide)
 rwa [show mayD (mk 1 0 0)=true by kernel_rfl] at h
theorem zII:zAD Tryz.prog 119 [.st (mk 1 0 0).row] (.bool false):=by
 refine sZ Tryz.func119 Tryz.ntmps119 ?_;refine aum1 @mk.eq_1 ?_;intros;apply wr;exact wx1 trivial trivial @mk.eq_1
theorem zMZ:zAD Tryz.prog 177 [.st (mk 1 0 0).row] (.bool true):=by
 refine sZ Tryz.func177 Tryz.ntmps177 ?_;exact wx1 (qX2 (zKt) (zII)) trivial @mk.eq_1
theorem zI5:zAD Tryz.prog 178 [.st (mk 1 0 0).row] (.st (mk 1 0 0).row):=by
 refine sZ Tryz.func178 Tryz.ntmps178 ?_;exact wx1 trivial trivial (kX5 @mk.eq_1 @iand.eq_1 @ior.eq_1 @zAV.eq_1 @zAR)
theorem zJ2:zAD Tryz.prog 120 [.st (mk 1 0 0).row] (.bool false):=by
 refine sZ Tryz.func120 Tryz.ntmps120 ?_;exact wx1 (qX3 (zMZ) (zI5) (zLk)) trivial (kX2 @mk.eq_1 @cpA.eq_1)
theorem zMh (k:Int):zAD Tryz.prog 121 [.st (mk 1 0 0).row,uv k] (.tup [.st (mk 9 1 1).row,.sl 4 false []]):=by
 refine sZ Tryz.func121 Tryz.ntmps121 ?_;exact wx1 (qX4 (zBi (ints .u32 mem0) false 1 (.inl rfl) (by rw [zC4];decide)) (zMZ) (zI5) (zLk)) trivial (kX2 @mk.eq_1 @cpA.eq_1)
theorem zVK:zAD Tryz.prog 113 [.st (mk 9 1 1).row] (.bool true):=by
 have h:=zFx (mk 9 1 1) (by decide) (by decide)
 rwa [show mayD (mk 9 1 1)=true by kernel_rfl] at h
theorem zIJ:zAD Tryz.prog 119 [.st (mk 9 1 1).row] (.bool false):=by
 refine sZ Tryz.func119 Tryz.ntmps119 ?_;refine aum1 @mk.eq_1 ?_;intros;apply wr;exact wx1 trivial trivial @mk.eq_1
theorem zMa:zAD Tryz.prog 177 [.st (mk 9 1 1).row] (.bool true):=by
 refine sZ Tryz.func177 Tryz.ntmps177 ?_;exact wx1 (qX2 (zVK) (zIJ)) trivial @mk.eq_1
theorem zI6:zAD Tryz.prog 178 [.st (mk 9 1 1).row] (.st (mk 9 1 1).row):=by
 refine sZ Tryz.func178 Tryz.ntmps178 ?_;exact wx1 trivial trivial (kX5 @mk.eq_1 @iand.eq_1 @ior.eq_1 @zAV.eq_1 @zAR)
theorem zJ3:zAD Tryz.prog 120 [.st (mk 9 1 1).row] (.bool false):=by
 refine sZ Tryz.func120 Tryz.ntmps120 ?_;exact wx1 (qX3 (zMa) (zI6) (zGI)) trivial (kX2 @mk.eq_1 @cpA.eq_1)
theorem zMi (k:Int):zAD Tryz.prog 121 [.st (mk 9 1 1).row,uv k] (.tup [.st (mk 9 1 2).row,.sl 4 false []]):=by
 refine sZ Tryz.func121 Tryz.ntmps121 ?_;exact wx1 (qX4 (zBi (ints .u32 mem0) false 1 (.inl rfl) (by rw [zC4];decide)) (zMa) (zI6) (zGI)) trivial (kX2 @mk.eq_1 @cpA.eq_1)
theorem zVL:zAD Tryz.prog 113 [.st (mk 9 1 2).row] (.bool true):=by
 have h:=zFx (mk 9 1 2) (by decide) (by decide)
 rwa [show mayD (mk 9 1 2)=true by kernel_rfl] at h
theorem zIK:zAD Tryz.prog 119 [.st (mk 9 1 2).row] (.bool false):=by
 refine sZ Tryz.func119 Tryz.ntmps119 ?_;refine aum1 @mk.eq_1 ?_;intros;apply wr;exact wx1 trivial trivial @mk.eq_1
theorem zMb:zAD Tryz.prog 177 [.st (mk 9 1 2).row] (.bool true):=by
 refine sZ Tryz.func177 Tryz.ntmps177 ?_;exact wx1 (qX2 (zVL) (zIK)) trivial @mk.eq_1
theorem zI7:zAD Tryz.prog 178 [.st (mk 9 1 2).row] (.st (mk 9 1 2).row):=by
 refine sZ Tryz.func178 Tryz.ntmps178 ?_;exact wx1 trivial trivial (kX5 @mk.eq_1 @iand.eq_1 @ior.eq_1 @zAV.eq_1 @zAR)
theorem zJ4:zAD Tryz.prog 120 [.st (mk 9 1 2).row] (.bool false):=by
 refine sZ Tryz.func120 Tryz.ntmps120 ?_;exact wx1 (qX3 (zMb) (zI7) (zGI)) trivial (kX2 @mk.eq_1 @cpA.eq_1)
theorem zMj (k:Int):zAD Tryz.prog 121 [.st (mk 9 1 2).row,uv k] (.tup [.st (mk 9 1 3).row,.sl 4 false []]):=by
 refine sZ Tryz.func121 Tryz.ntmps121 ?_;exact wx1 (qX4 (zBi (ints .u32 mem0) false 1 (.inl rfl) (by rw [zC4];decide)) (zMb) (zI7) (zGI)) trivial (kX2 @mk.eq_1 @cpA.eq_1)
theorem lenM (s c n:Int):(mk s c n).mem.length≤100000:=by rw [mk_mem,zSL];decide
abbrev recR (s c n k:Int):RecD:=⟨mk s c n,k,[],[]⟩
theorem zOA:zAD Tryz.prog 73 [.st (recR 1 0 0 0).row,iv 3,uv 0] (.tup [.st (recR 9 1 3 3).row,.sl 4 false []]):=by
 refine sX Tryz.func73 Tryz.ntmps73 ?_;(repeat intro K hK);apply wr
 (refine au1 @mk.eq_1 ?_;(repeat intro K hK);apply wr)
 repeat' ((first|(refine zAC rfl (fun h=>?_) (fun h=>?_)<;>(first|(simp [mk] at h;done)|(simp [mk] at h)|skip)<;>(first|(exfalso;omega)|skip))|refine cc1 (zE8 (recR 1 0 0 0) (lenM _ _ _) (by simp) (by simp)) @mk.eq_1 ?_|refine cc1 (zKt) @mk.eq_1 ?_|refine cc1 (zOh _) @mk.eq_1 ?_|refine cc1 (zII) @mk.eq_1 ?_|refine cc1 (zIJ) @mk.eq_1 ?_|refine cc1 (zIK) @mk.eq_1 ?_|refine cc1 (zJ2) @mk.eq_1 ?_|refine cc1 (zJ3) @mk.eq_1 ?_|refine cc1 (zJ4) @mk.eq_1 ?_|refine cc1 (zMh _) @mk.eq_1 ?_|refine cc1 (zMi _) @mk.eq_1 ?_|refine cc1 (zMj _) @mk.eq_1 ?_|refine zAL 5 ?_|refine zAH fun K hK=>?_|exact rt1 @mk.eq_1|fail)<;>(refine au1 @mk.eq_1 ?_;(repeat intro K hK);apply wr))
end Go.Proofs.YtoondlebmacanaaGreat.Fx
end
