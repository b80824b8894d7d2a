/- Replicas: the fixed run is as it should be. -/
import Derived.Test.YtpifpdjefbehmaaGreatTc
import Derived.Test.YtpifpdjefbehmaaGreatBig
namespace Go.Proofs.YtpifpdjefbehmaaGreat
open Go.Ab Go.RowKit
set_option linter.unusedSimpArgs false
set_option maxRecDepth 100000
set_option maxHeartbeats 16000000
theorem primA_ok : Meets Tryz.prog 5 [iv 0, .st (mk 1 0 0).row, lv 1, iv 2] (.tup [.st (wA 1 0 0 0).row, .bool true]) := by
  have h := prim_ok 0 (mk 1 0 0) 1 2 (by decide) (by decide) (lenM _ _ _)
  simp only [primV, show freshOk 0 (mk 1 0 0) 1 2 = true by kernel_rfl, if_true] at h
  exact h
theorem backA_ok : Meets Tryz.prog 7 [iv 1, .st (mk 1 0 0).row, lv 1, iv 2] (.tup [.st (wB 1 0 0 0 1 0).row, .bool true]) := by
  have h := back_ok 1 (mk 1 0 0) 1 2 (by decide) (by decide) (lenM _ _ _)
  simp only [backV, show freshOk 1 (mk 1 0 0) 1 2 = true by kernel_rfl, if_true] at h
  exact h
theorem primN_ok : Meets Tryz.prog 5 [iv 2, .st zMch.row, lv 1, iv 2] (.tup [.st zRep.row, .bool false]) := by
  have h := prim_ok 2 zMch 1 2 (by decide) (by decide) (by decide)
  simp only [primV, show freshOk 2 zMch 1 2 = false by kernel_rfl, if_false, Bool.false_eq_true] at h
  exact h
/-- the world of the fixed run -/
noncomputable abbrev wW : List V := (wA 1 0 0 0).row ++ ((wB 1 0 0 0 1 0).row ++ [.sl 0 true [], .sl 0 true [], .sl 1 false (strs blocksA), lv 1, iv 0])
theorem started_ok : Meets Tryz.prog 10 [iv 2, .sl 1 false [[iv 0]], iv 2] (.tup [.st wW, .bool true]) := by
  refine Meets.of Tryz.func10 rfl (by kernel_rfl) rfl ?_
  simp only [Tryz.ntmps10, St.start, argT]
  refine au ?_
  repeat intro K hK
  refine wr ?_
  (refine af ?_; (repeat intro K hK); refine wr ?_)
  repeat' ((first | (refine awp_cond rfl (fun h => ?_) (fun h => ?_) <;> (first | (simp at h; done) | (simp at h) | skip) <;> (first | (exfalso; omega) | skip)) | refine cc (mach_ok) ?_ | refine cc (blocks_ok) ?_ | refine cc (store_ok) ?_ | refine cc (claim_ok) ?_ | refine cc (primA_ok) ?_ | refine cc (backA_ok) ?_ | (refine awp_planI ([0, 1, 2, 3, 4, 5] : List Nat) ([[], [], [0], [0, 2], [0, 1, 2, 3], [0, 1, 2, 3, 4]] : List (List Nat)) ([(4, ([[], [], [0], [0, 2]], [(1, 3)])), (1, ([], [])), (1, ([], []))] : List (Nat × List (List Nat) × List (Nat × Nat))) (by kernel_rfl) (by kernel_rfl) (by kernel_rfl) ?_) | exact rt | fail) <;> (refine af ?_; (repeat intro K hK); refine wr ?_))
  refine awp_keepT [6, 9, 11, 13, 15] (by simp; rfl) ?_
  refine awp_keepOb [51, 0] (by simp only [keepO, lookO, Nat.reduceEqDiff, reduceIte]; rfl) ?_
  refine awp_region (by kernel_rfl) ?_
  simp (maxSteps := 2000000)
  refine hK _ ?_
  refine awp_ret ?_
  simp (maxSteps := 2000000)
theorem liveA_ok : Meets Tryz.prog 11 [.st (wA 1 0 0 0).row] (.bool true) := live_ok (wA 1 0 0 0)
theorem liveB_ok : Meets Tryz.prog 11 [.st (wB 1 0 0 0 1 0).row] (.bool false) := live_ok (wB 1 0 0 0 1 0)
theorem awake_ok : Meets Tryz.prog 4 [] (.bool true) := by
  refine Meets.of Tryz.func4 rfl (by kernel_rfl) rfl ?_
  simp only [Tryz.ntmps4, St.start, argT]
  refine au ?_
  repeat intro K hK
  refine wr ?_
  (refine afB2 @segs.eq_1 @mk.eq_1 ?_; (repeat intro K hK); refine wr ?_)
  repeat' ((first | (refine awp_cond rfl (fun h => ?_) (fun h => ?_) <;> (first | (simp [segs, mk] at h; done) | (simp [segs, mk] at h) | skip) <;> (first | (exfalso; omega) | skip)) | refine ccB2 (started_ok) @segs.eq_1 @mk.eq_1 ?_ | refine ccB2 (liveA_ok) @segs.eq_1 @mk.eq_1 ?_ | refine ccB2 (liveB_ok) @segs.eq_1 @mk.eq_1 ?_ | refine ccB2 (runA_ok) @segs.eq_1 @mk.eq_1 ?_ | refine ccB2 (pks_ok) @segs.eq_1 @mk.eq_1 ?_ | refine ccB2 (recvB_ok) @segs.eq_1 @mk.eq_1 ?_ | refine ccB2 (runB_ok) @segs.eq_1 @mk.eq_1 ?_ | refine ccB2 (primN_ok) @segs.eq_1 @mk.eq_1 ?_ | refine ccB2 (machA_ok) @segs.eq_1 @mk.eq_1 ?_ | refine ccB2 (machB_ok) @segs.eq_1 @mk.eq_1 ?_ | refine ccB2 (same_ok (mk 9 1 3) (lenM _ _ _)) @segs.eq_1 @mk.eq_1 ?_ | (refine awp_tree (rid := 8) (.node 5 9 (.leaf [0, 1, 2, 3, 4, 5, 6, 7, 8, 9, 10, 11] [[], [0], [], [2], [2, 3], [0, 1, 2, 3, 4], [0, 1, 2, 3, 4, 5], [0, 1, 2, 3, 4, 5, 6], [0, 1, 2, 3, 4, 5, 6], [0, 1, 2, 3, 4, 5], [0, 1, 2, 3, 4, 5, 6, 7, 9], [0, 1, 2, 3, 4, 5, 6, 7, 8, 9, 10]] [(5, ([[], [0], [], [2], [2, 3]], [])), (1, ([], [])), (5, ([[], [0], [0], [], [0, 1, 3]], [])), (1, ([], []))]) (.leaf [0, 1, 2, 3, 4, 9, 5, 6, 7, 8, 10, 11] [[], [0], [], [2], [2, 3], [], [0, 1, 2, 3, 4, 5], [0, 1, 2, 3, 4, 5, 6], [0, 1, 2, 3, 4, 5, 6, 7], [0, 1, 2, 3, 4, 5, 6, 7], [0, 1, 2, 3, 4, 5, 6, 7, 8], [0, 1, 2, 3, 4, 5, 6, 7, 8, 9, 10]] [(6, ([[], [0], [], [2], [2, 3], []], [(1, 5), (3, 5), (4, 5)])), (1, ([], [])), (1, ([], [])), (3, ([[], [], [0]], [])), (1, ([], []))])) (by kernel_rfl) (by kernel_rfl) ?_; simp only [PT.run]; repeat' (with_reducible apply And.intro); all_goals (simp only [permL, List.map_cons, List.map_nil, List.getD_cons_zero, List.getD_cons_succ])) | (refine awp_planI (rid := 11) ([0, 1, 2, 3, 4, 5, 6, 7, 8, 9, 10, 11, 12, 13, 14, 15, 16, 17, 18, 19, 20, 21, 22, 23, 24, 25] : List Nat) ([[], [0], [0, 1], [0, 1, 2], [0, 1, 2, 3], [0, 1, 2, 3, 4], [0, 1, 2, 3, 4, 5], [0, 1, 2, 3, 4, 5, 6], [0, 1, 2, 3, 4, 5, 6, 7], [0, 1, 2, 3, 4, 5, 6, 7, 8], [0, 1, 2, 3, 4, 5, 6, 7, 8, 9], [0, 1, 2, 3, 4, 5, 6, 7, 8, 9, 10], [0, 1, 2, 3, 4, 5, 6, 7, 8, 9, 10, 11], [0, 1, 2, 3, 4, 5, 6, 7, 8, 9, 10, 11, 12], [0, 1, 2, 3, 4, 5, 6, 7, 8, 9, 10, 11, 12, 13], [0, 1, 2, 3, 4, 5, 6, 7, 8, 9, 10, 11, 12], [0, 1, 2, 3, 4, 5, 6, 7, 8, 9, 10, 11, 12, 13, 14, 15], [0, 1, 2, 3, 4, 5, 6, 7, 8, 9, 10, 11, 12, 13, 14, 15, 16], [0, 1, 2, 3, 4, 5, 6, 7, 8, 9, 10, 11, 12, 13, 14, 15, 16, 17], [0, 1, 2, 3, 4, 5, 6, 7, 8, 9, 10, 11, 12, 13, 14, 15, 16, 17, 18], [0, 1, 2, 3, 4, 5, 6, 7, 8, 9, 10, 11, 12, 13, 14, 15, 16, 17, 18, 19], [0, 1, 2, 3, 4, 5, 6, 7, 8, 9, 10, 11, 12, 13, 14, 15, 16, 17, 18, 19, 20], [0, 1, 2, 3, 4, 5, 6, 7, 8, 9, 10, 11, 12, 13, 14, 15, 16, 17, 18, 19, 20, 21], [0, 1, 2, 3, 4, 5, 6, 7, 8, 9, 10, 11, 12, 13, 14, 15, 16, 17, 18, 19, 20, 21, 22], [0, 1, 2, 3, 4, 5, 6, 7, 8, 9, 10, 11, 12, 13, 14, 15, 16, 17, 18, 19, 20, 21, 22, 23], [0, 1, 2, 3, 4, 5, 6, 7, 8, 9, 10, 11, 12, 13, 14, 15, 16, 17, 18, 19, 20, 21, 22, 23, 24]] : List (List Nat)) ([(1, ([], [])), (1, ([], [])), (1, ([], [])), (1, ([], [])), (1, ([], [])), (1, ([], [])), (1, ([], [])), (1, ([], [])), (1, ([], [])), (1, ([], [])), (1, ([], [])), (1, ([], [])), (1, ([], [])), (3, ([[], [0], []], [(2, 1)])), (1, ([], [])), (1, ([], [])), (1, ([], [])), (1, ([], [])), (1, ([], [])), (1, ([], [])), (1, ([], [])), (1, ([], [])), (1, ([], [])), (1, ([], []))] : List (Nat × List (List Nat) × List (Nat × Nat))) (by kernel_rfl) (by kernel_rfl) (by kernel_rfl) ?_) | exact rtB2 @segs.eq_1 @mk.eq_1 | fail) <;> (refine afB2 @segs.eq_1 @mk.eq_1 ?_; (repeat intro K hK); refine wr ?_))
end Go.Proofs.YtpifpdjefbehmaaGreat
