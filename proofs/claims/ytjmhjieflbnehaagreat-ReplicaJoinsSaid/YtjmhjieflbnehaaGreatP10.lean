/- A part of the proof of ReplicaJoins. -/
import Derived.Test.YtjmhjieflbnehaaGreatP04
import Derived.Test.YtjmhjieflbnehaaGreatP09
set_option linter.unusedSimpArgs false
set_option linter.unusedVariables false
set_option maxHeartbeats 16000000
set_option maxRecDepth 100000
section
namespace Go.Proofs.YtjmhjieflbnehaaGreat.Fx
open Go.Ab Go.RowKit
theorem zRD : zAD Tryz.prog 23 [iv 0, .st (mk 1 0 0).row, lv 1, iv 2] (.tup [.st (wA 1 0 0 0).row, .bool true]) := by
 have h := zJW 0 (mk 1 0 0) 1 2 (by decide) (by decide) (lenM _ _ _)
 simp only [zPf, show zA7 0 (mk 1 0 0) 1 2 = true by kernel_rfl, if_true] at h
 exact h
theorem zP8 : zAD Tryz.prog 27 [iv 1, .st (mk 1 0 0).row, lv 1, iv 2] (.tup [.st (wB 1 0 0 0 1 0).row, .bool true]) := by
 have h := zN5 1 (mk 1 0 0) 1 2 (by decide) (by decide) (lenM _ _ _)
 simp only [zSU, show zA7 1 (mk 1 0 0) 1 2 = true by kernel_rfl, if_true] at h
 exact h
theorem zQJ : zAD Tryz.prog 23 [iv 2, .st zMch.row, lv 1, iv 2] (.tup [.st zRep.row, .bool false]) := by
 have h := zJW 2 zMch 1 2 (by decide) (by decide) (by decide)
 simp only [zPf, show zA7 2 zMch 1 2 = false by kernel_rfl, if_false, Bool.false_eq_true] at h
 exact h
noncomputable abbrev wW : List V := (wA 1 0 0 0).row ++ ((wB 1 0 0 0 1 0).row ++ [.sl 0 true [], .sl 0 true [], .sl 1 false (strs zAu), lv 1, iv 0])
theorem zEs : zAD Tryz.prog 6 [iv 2, .sl 1 false [[iv 0]], iv 2] (.tup [.st wW, .bool true]) := by
 refine sX Tryz.func6 Tryz.ntmps6 ?_;(repeat intro K hK);refine wr ?_
 (refine af ?_; (repeat intro K hK); refine wr ?_)
 repeat' ((first | (refine zAA rfl (fun h => ?_) (fun h => ?_) <;> (first | (simp at h; done) | (simp at h) | skip) <;> (first | (exfalso; omega) | skip)) | refine cc (zSN) ?_ | refine cc (zI1) ?_ | refine cc (zKZ) ?_ | refine cc (zKH) ?_ | refine cc (zRD) ?_ | refine cc (zP8) ?_ | (refine zAE ([0, 1, 2, 3, 4, 5] : List Nat) ([[], [], [0], [0, 2], [0, 1, 2, 3], [0, 1, 2, 3, 4]] : List (List Nat)) ([(4, ([[], [], [0], [0, 2]], [(1, 3)])), (1, ([], [])), (1, ([], []))] : List (Nat × List (List Nat) × List (Nat × Nat))) (by kernel_rfl) (by kernel_rfl) (by kernel_rfl) ?_) | exact rt | fail) <;> (refine af ?_; (repeat intro K hK); refine wr ?_))
 refine zIZ [6, 9, 11, 13, 15] (by simp; rfl) ?_
 refine zGp [51, 0] (by simp only [zJ1, lookO, Nat.reduceEqDiff, reduceIte]; rfl) ?_
 refine zAV (by kernel_rfl) ?_
 simp (maxSteps := 2000000)
 refine hK _ ?_
 refine zAB ?_
 simp (maxSteps := 2000000)
theorem zQG : zAD Tryz.prog 20 [.st (wA 1 0 0 0).row] (.bool true) := zEf (wA 1 0 0 0)
theorem zPt : zAD Tryz.prog 20 [.st (wB 1 0 0 0 1 0).row] (.bool false) := zEf (wB 1 0 0 0 1 0)
theorem zFP : zAD Tryz.prog 5 [] (.bool true) := by
 refine sX Tryz.func5 Tryz.ntmps5 ?_;(repeat intro K hK);refine wr ?_
 (refine afB1 (kX2 @segs.eq_1 @mk.eq_1) ?_; (repeat intro K hK); refine wr ?_)
 repeat' ((first | (refine zAA rfl (fun h => ?_) (fun h => ?_) <;> (first | (simp [segs, mk] at h; done) | (simp [segs, mk] at h) | skip) <;> (first | (exfalso; omega) | skip)) | refine ccB1 (zEs) (kX2 @segs.eq_1 @mk.eq_1) ?_ | refine ccB1 (zQG) (kX2 @segs.eq_1 @mk.eq_1) ?_ | refine ccB1 (zPt) (kX2 @segs.eq_1 @mk.eq_1) ?_ | refine ccB1 (zSM) (kX2 @segs.eq_1 @mk.eq_1) ?_ | refine ccB1 (pks_ok) (kX2 @segs.eq_1 @mk.eq_1) ?_ | refine ccB1 (zQF) (kX2 @segs.eq_1 @mk.eq_1) ?_ | refine ccB1 (zTV) (kX2 @segs.eq_1 @mk.eq_1) ?_ | refine ccB1 (zQJ) (kX2 @segs.eq_1 @mk.eq_1) ?_ | refine ccB1 (zQu) (kX2 @segs.eq_1 @mk.eq_1) ?_ | refine ccB1 (zPN) (kX2 @segs.eq_1 @mk.eq_1) ?_ | refine ccB1 (zHO (mk 9 1 3) (lenM _ _ _)) (kX2 @segs.eq_1 @mk.eq_1) ?_ | (refine zBe (rid := 8) (.node 5 9 (.leaf [0, 1, 2, 3, 4, 5, 6, 7, 8, 9, 10, 11] [[], [0], [], [2], [2, 3], [0, 1, 2, 3, 4], [0, 1, 2, 3, 4, 5], [0, 1, 2, 3, 4, 5, 6], [0, 1, 2, 3, 4, 5, 6], [0, 1, 2, 3, 4, 5], [0, 1, 2, 3, 4, 5, 6, 7, 9], [0, 1, 2, 3, 4, 5, 6, 7, 8, 9, 10]] [(5, ([[], [0], [], [2], [2, 3]], [])), (1, ([], [])), (5, ([[], [0], [0], [], [0, 1, 3]], [])), (1, ([], []))]) (.leaf [0, 1, 2, 3, 4, 9, 5, 6, 7, 8, 10, 11] [[], [0], [], [2], [2, 3], [], [0, 1, 2, 3, 4, 5], [0, 1, 2, 3, 4, 5, 6], [0, 1, 2, 3, 4, 5, 6, 7], [0, 1, 2, 3, 4, 5, 6, 7], [0, 1, 2, 3, 4, 5, 6, 7, 8], [0, 1, 2, 3, 4, 5, 6, 7, 8, 9, 10]] [(6, ([[], [0], [], [2], [2, 3], []], [(1, 5), (3, 5), (4, 5)])), (1, ([], [])), (1, ([], [])), (3, ([[], [], [0]], [])), (1, ([], []))])) (by kernel_rfl) (by kernel_rfl) ?_; simp only [PT.run]; repeat' (with_reducible apply And.intro); all_goals (simp only [zB0, List.map_cons, List.map_nil, List.getD_cons_zero, List.getD_cons_succ])) | (refine zAE (rid := 11) ([0, 1, 2, 3, 4, 5, 6, 7, 8, 9, 10, 11, 12, 13, 14, 15, 16, 17, 18, 19, 20, 21, 22, 23, 24, 25] : List Nat) ([[], [0], [0, 1], [0, 1, 2], [0, 1, 2, 3], [0, 1, 2, 3, 4], [0, 1, 2, 3, 4, 5], [0, 1, 2, 3, 4, 5, 6], [0, 1, 2, 3, 4, 5, 6, 7], [0, 1, 2, 3, 4, 5, 6, 7, 8], [0, 1, 2, 3, 4, 5, 6, 7, 8, 9], [0, 1, 2, 3, 4, 5, 6, 7, 8, 9, 10], [0, 1, 2, 3, 4, 5, 6, 7, 8, 9, 10, 11], [0, 1, 2, 3, 4, 5, 6, 7, 8, 9, 10, 11, 12], [0, 1, 2, 3, 4, 5, 6, 7, 8, 9, 10, 11, 12, 13], [0, 1, 2, 3, 4, 5, 6, 7, 8, 9, 10, 11, 12], [0, 1, 2, 3, 4, 5, 6, 7, 8, 9, 10, 11, 12, 13, 14, 15], [0, 1, 2, 3, 4, 5, 6, 7, 8, 9, 10, 11, 12, 13, 14, 15, 16], [0, 1, 2, 3, 4, 5, 6, 7, 8, 9, 10, 11, 12, 13, 14, 15, 16, 17], [0, 1, 2, 3, 4, 5, 6, 7, 8, 9, 10, 11, 12, 13, 14, 15, 16, 17, 18], [0, 1, 2, 3, 4, 5, 6, 7, 8, 9, 10, 11, 12, 13, 14, 15, 16, 17, 18, 19], [0, 1, 2, 3, 4, 5, 6, 7, 8, 9, 10, 11, 12, 13, 14, 15, 16, 17, 18, 19, 20], [0, 1, 2, 3, 4, 5, 6, 7, 8, 9, 10, 11, 12, 13, 14, 15, 16, 17, 18, 19, 20, 21], [0, 1, 2, 3, 4, 5, 6, 7, 8, 9, 10, 11, 12, 13, 14, 15, 16, 17, 18, 19, 20, 21, 22], [0, 1, 2, 3, 4, 5, 6, 7, 8, 9, 10, 11, 12, 13, 14, 15, 16, 17, 18, 19, 20, 21, 22, 23], [0, 1, 2, 3, 4, 5, 6, 7, 8, 9, 10, 11, 12, 13, 14, 15, 16, 17, 18, 19, 20, 21, 22, 23, 24]] : List (List Nat)) ([(1, ([], [])), (1, ([], [])), (1, ([], [])), (1, ([], [])), (1, ([], [])), (1, ([], [])), (1, ([], [])), (1, ([], [])), (1, ([], [])), (1, ([], [])), (1, ([], [])), (1, ([], [])), (1, ([], [])), (3, ([[], [0], []], [(2, 1)])), (1, ([], [])), (1, ([], [])), (1, ([], [])), (1, ([], [])), (1, ([], [])), (1, ([], [])), (1, ([], [])), (1, ([], [])), (1, ([], [])), (1, ([], []))] : List (Nat × List (List Nat) × List (Nat × Nat))) (by kernel_rfl) (by kernel_rfl) (by kernel_rfl) ?_) | exact rtB1 (kX2 @segs.eq_1 @mk.eq_1) | fail) <;> (refine afB1 (kX2 @segs.eq_1 @mk.eq_1) ?_; (repeat intro K hK); refine wr ?_))
end Go.Proofs.YtjmhjieflbnehaaGreat.Fx
end
