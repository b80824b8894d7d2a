/- Replicas, the fixed run: a segment without entries is encoded. -/
import Derived.Test.YtpifpdjefbehmaaGreatRo
import Derived.Test.YtpifpdjefbehmaaGreatBld3
namespace Go.Proofs.YtpifpdjefbehmaaGreat
open Go.Ab Go.RowKit
set_option linter.unusedSimpArgs false
set_option maxRecDepth 100000
set_option maxHeartbeats 16000000
theorem grow0_ok : Meets Tryz.prog 118 [.sl 0 true [], iv 0] (.sl 0 true []) := by
  refine Meets.of Tryz.func118 rfl (by kernel_rfl) rfl ?_
  simp only [Tryz.ntmps118, St.start, argT]
  refine au ?_
  repeat intro K hK
  refine wr ?_
  (refine au ?_; (repeat intro K hK); refine wr ?_)
  repeat' ((first | (refine awp_cond rfl (fun h => ?_) (fun h => ?_) <;> (first | (simp at h; done) | (simp at h) | skip) <;> (first | (exfalso; omega) | skip)) | exact rt | fail) <;> (refine au ?_; (repeat intro K hK); refine wr ?_))
theorem concat0_ok : Meets Tryz.prog 71 [.sl 1 false [[.sl 4 false []], [.sl 4 false []]]] (.sl 4 false []) := by
  refine Meets.of Tryz.func71 rfl (by kernel_rfl) rfl ?_
  simp only [Tryz.ntmps71, St.start, argT]
  refine au ?_
  repeat intro K hK
  refine wr ?_
  (refine au ?_; (repeat intro K hK); refine wr ?_)
  repeat' ((first | (refine awp_cond rfl (fun h => ?_) (fun h => ?_) <;> (first | (simp at h; done) | (simp at h) | skip) <;> (first | (exfalso; omega) | skip)) | refine cc (grow0_ok) ?_ | refine awp_rounds 3 ?_ | refine arounds_step fun K hK => ?_ | exact rt | fail) <;> (refine au ?_; (repeat intro K hK); refine wr ?_))
theorem index0_ok (g : Nat) (cs : List V) : Meets Tryz.prog 303 [.sl 4 false [], .clo g cs] (iv (-1)) := by
  refine Meets.of Tryz.func303 rfl (by kernel_rfl) rfl ?_
  simp only [Tryz.ntmps303, St.start, argT]
  refine au ?_
  repeat intro K hK
  refine wr ?_
  (refine au ?_; (repeat intro K hK); refine wr ?_)
  repeat' ((first | (refine awp_cond rfl (fun h => ?_) (fun h => ?_) <;> (first | (simp at h; done) | (simp at h) | skip) <;> (first | (exfalso; omega) | skip)) | refine awp_rounds 1 ?_ | refine arounds_step fun K hK => ?_ | exact rt | fail) <;> (refine au ?_; (repeat intro K hK); refine wr ?_))
theorem cont0_ok (g : Nat) (cs : List V) : Meets Tryz.prog 242 [.sl 4 false [], .clo g cs] (.bool false) := by
  refine Meets.of Tryz.func242 rfl (by kernel_rfl) rfl ?_
  simp only [Tryz.ntmps242, St.start, argT]
  refine au ?_
  repeat intro K hK
  refine wr ?_
  (refine au ?_; (repeat intro K hK); refine wr ?_)
  repeat' ((first | (refine awp_cond rfl (fun h => ?_) (fun h => ?_) <;> (first | (simp at h; done) | (simp at h) | skip) <;> (first | (exfalso; omega) | skip)) | refine cc (index0_ok g cs) ?_ | exact rt | fail) <;> (refine au ?_; (repeat intro K hK); refine wr ?_))
theorem beyond0_ok (k : Int) : Meets Tryz.prog 176 [.sl 4 false [], lv k] (.bool false) := by
  refine Meets.of Tryz.func176 rfl (by kernel_rfl) rfl ?_
  simp only [Tryz.ntmps176, St.start, argT]
  refine au ?_
  repeat intro K hK
  refine wr ?_
  (refine au ?_; (repeat intro K hK); refine wr ?_)
  repeat' ((first | (refine awp_cond rfl (fun h => ?_) (fun h => ?_) <;> (first | (simp at h; done) | (simp at h) | skip) <;> (first | (exfalso; omega) | skip)) | refine cc (cont0_ok _ _) ?_ | exact rt | fail) <;> (refine au ?_; (repeat intro K hK); refine wr ?_))
theorem ord0_ok : Meets Tryz.prog 191 [.sl 4 false []] (.bool true) := by
  refine Meets.of Tryz.func191 rfl (by kernel_rfl) rfl ?_
  simp only [Tryz.ntmps191, St.start, argT]
  refine au ?_
  repeat intro K hK
  refine wr ?_
  (refine af ?_; (repeat intro K hK); refine wr ?_)
  repeat' ((first | (refine awp_cond rfl (fun h => ?_) (fun h => ?_) <;> (first | (simp at h; done) | (simp at h) | skip) <;> (first | (exfalso; omega) | skip)) | refine awp_rounds 1 ?_ | refine arounds_step fun K hK => ?_ | (refine awp_tree (.node 9 10 (.leaf [0, 1, 2, 3, 4, 5, 6, 7, 8, 9, 10, 11, 12] [[], [], [1], [0, 1, 2], [0, 1, 2, 3], [], [], [5, 6], [5, 6, 7], [], [9], [0, 1, 2, 3, 4, 9, 10], [0, 1, 2, 3, 4, 5, 6, 7, 8, 9, 10, 11]] [(12, ([[], [], [1], [0, 1, 2], [0, 1, 2, 3], [], [], [5, 6], [5, 6, 7], [], [9], [0, 1, 2, 3, 4, 9, 10]], [(3, 9), (3, 10), (4, 9), (4, 10), (7, 9), (7, 10), (7, 11), (8, 9), (8, 10), (8, 11)])), (1, ([], []))]) (.leaf [0, 1, 2, 3, 4, 5, 6, 7, 8, 10, 9, 11, 12] [[], [], [1], [0, 1, 2], [0, 1, 2, 3], [], [], [5, 6], [5, 6, 7], [], [9], [0, 1, 2, 3, 4, 9, 10], [0, 1, 2, 3, 4, 5, 6, 7, 8, 9, 10, 11]] [(12, ([[], [], [1], [0, 1, 2], [0, 1, 2, 3], [], [], [5, 6], [5, 6, 7], [], [9], [0, 1, 2, 3, 4, 9, 10]], [(3, 9), (3, 10), (4, 9), (4, 10), (7, 9), (7, 10), (7, 11), (8, 9), (8, 10), (8, 11)])), (1, ([], []))])) (by kernel_rfl) (by kernel_rfl) ?_; simp only [PT.run]; repeat' (with_reducible apply And.intro); all_goals (simp only [permL, List.map_cons, List.map_nil, List.getD_cons_zero, List.getD_cons_succ])) | exact rt | fail) <;> (refine af ?_; (repeat intro K hK); refine wr ?_))
theorem putu_ok (n : Int) (h0 : 0 ≤ n) (h1 : n < 128) : Meets Tryz.prog 79 [lv n] (.str [UInt8.ofNat n.toNat]) := by
  have hw : IntKind.u8.wrap n = n := by rw [IntKind.wrap_u8]; omega
  have hb : isByteV [.int .u8 n] := ⟨UInt8.ofNat n.toNat, by simp; omega⟩
  refine Meets.of Tryz.func79 rfl (by kernel_rfl) rfl ?_
  simp only [Tryz.ntmps79, St.start, argT]
  refine au ?_
  repeat intro K hK
  refine wr ?_
  (refine au5 @h0 @h1 @hw @hb @maxLen.eq_1 ?_; (repeat intro K hK); refine wr ?_)
  repeat' ((first | (refine awp_cond rfl (fun h => ?_) (fun h => ?_) <;> (first | (simp [h0, h1, hw, hb, maxLen] at h; done) | (simp [h0, h1, hw, hb, maxLen] at h) | skip) <;> (first | (exfalso; omega) | skip)) | refine awp_rounds 1 ?_ | refine arounds_step fun K hK => ?_ | exact rt5 @h0 @h1 @hw @hb @maxLen.eq_1 | fail) <;> (refine au5 @h0 @h1 @hw @hb @maxLen.eq_1 ?_; (repeat intro K hK); refine wr ?_))
theorem elog0_ok (k : Int) : Meets Tryz.prog 177 [.sl 4 false [], lv k] (.tup [.str [0], iv 0]) := by
  refine Meets.of Tryz.func177 rfl (by kernel_rfl) rfl ?_
  simp only [Tryz.ntmps177, St.start, argT]
  refine au ?_
  repeat intro K hK
  refine wr ?_
  (refine au ?_; (repeat intro K hK); refine wr ?_)
  repeat' ((first | (refine awp_cond rfl (fun h => ?_) (fun h => ?_) <;> (first | (simp at h; done) | (simp at h) | skip) <;> (first | (exfalso; omega) | skip)) | refine cc (ord0_ok) ?_ | refine cc (putu_ok 0 (by decide) (by decide)) ?_ | refine awp_rounds 1 ?_ | refine arounds_step fun K hK => ?_ | exact rt | fail) <;> (refine au ?_; (repeat intro K hK); refine wr ?_))
  first | refine .inr ((wstr0_ok 1 [0] (by simp [lookO]) (by decide) (by decide)).mono fun r nx' ob' hp => ?_) | refine (wstr0_ok 1 [0] (by simp [lookO]) (by decide) (by decide)).mono fun r nx' ob' hp => ?_
  simp only [aftI]
  obtain ⟨rfl, k1, hk, hkn, hkb, hki, hko⟩ := hp
  simp
  (refine au ?_; (repeat intro K hK); refine wr ?_)
  repeat' ((first | (refine awp_cond rfl (fun h => ?_) (fun h => ?_) <;> (first | (simp at h; done) | (simp at h) | skip) <;> (first | (exfalso; omega) | skip)) | refine awp_rounds 1 ?_ | refine arounds_step fun K hK => ?_ | exact rt | fail) <;> (refine au ?_; (repeat intro K hK); refine wr ?_))
  first | refine .inr ((blen_ok 1 k1 _ [0] hki hkb).mono fun r nx' ob' hp => ?_) | refine (blen_ok 1 k1 _ [0] hki hkb).mono fun r nx' ob' hp => ?_
  simp only [aftI]
  obtain ⟨rfl, rfl, rfl⟩ := hp
  simp
  (refine au ?_; (repeat intro K hK); refine wr ?_)
  repeat' ((first | (refine awp_cond rfl (fun h => ?_) (fun h => ?_) <;> (first | (simp at h; done) | (simp at h) | skip) <;> (first | (exfalso; omega) | skip)) | refine awp_rounds 1 ?_ | refine arounds_step fun K hK => ?_ | exact rt | fail) <;> (refine au ?_; (repeat intro K hK); refine wr ?_))
  first | refine .inr ((bstr_ok 1 k1 _ [0] hki hkb).mono fun r nx' ob' hp => ?_) | refine (bstr_ok 1 k1 _ [0] hki hkb).mono fun r nx' ob' hp => ?_
  simp only [aftI]
  obtain rfl := hp
  simp
  (refine au ?_; (repeat intro K hK); refine wr ?_)
  repeat' ((first | (refine awp_cond rfl (fun h => ?_) (fun h => ?_) <;> (first | (simp at h; done) | (simp at h) | skip) <;> (first | (exfalso; omega) | skip)) | refine awp_rounds 1 ?_ | refine arounds_step fun K hK => ?_ | exact rt | fail) <;> (refine au ?_; (repeat intro K hK); refine wr ?_))
theorem encLog0_ok (a b : Int) (hab : a ≤ b) : Meets Tryz.prog 120 [.st [lv a, lv b, .sl 4 false []]] (.tup [.str [0], iv 0]) := by
  refine Meets.of Tryz.func120 rfl (by kernel_rfl) rfl ?_
  simp only [Tryz.ntmps120, St.start, argT]
  refine au ?_
  repeat intro K hK
  refine wr ?_
  (refine au1 @hab ?_; (repeat intro K hK); refine wr ?_)
  repeat' ((first | (refine awp_cond rfl (fun h => ?_) (fun h => ?_) <;> (first | (simp [hab] at h; done) | (simp [hab] at h) | skip) <;> (first | (exfalso; omega) | skip)) | refine cc1 (beyond0_ok b) @hab ?_ | refine cc1 (elog0_ok a) @hab ?_ | exact rt1 @hab | fail) <;> (refine au1 @hab ?_; (repeat intro K hK); refine wr ?_))
theorem encs0_ok (a b : Int) (hab : a ≤ b) : Meets Tryz.prog 126 [.st [lv a, lv b, .sl 4 false []]] (.bool true) := by
  refine Meets.of Tryz.func126 rfl (by kernel_rfl) rfl ?_
  simp only [Tryz.ntmps126, St.start, argT]
  refine au ?_
  repeat intro K hK
  refine wr ?_
  (refine au ?_; (repeat intro K hK); refine wr ?_)
  repeat' ((first | (refine awp_cond rfl (fun h => ?_) (fun h => ?_) <;> (first | (simp at h; done) | (simp at h) | skip) <;> (first | (exfalso; omega) | skip)) | refine cc (encLog0_ok a b hab) ?_ | exact rt | fail) <;> (refine au ?_; (repeat intro K hK); refine wr ?_))
theorem copySnd0_ok (a b c : Int) : Meets Tryz.prog 119 [.st [lv a, lv b, lv c, .sl 3 false []]] (.st [lv a, lv b, lv c, .new 112 3 []]) := by
  refine Meets.of Tryz.func119 rfl (by kernel_rfl) rfl ?_
  simp only [Tryz.ntmps119, St.start, argT]
  refine aum1 @maxLen.eq_1 ?_
  repeat intro K hK
  refine wr ?_
  (refine au1 @maxLen.eq_1 ?_; (repeat intro K hK); refine wr ?_)
  repeat' ((first | (refine awp_cond rfl (fun h => ?_) (fun h => ?_) <;> (first | (simp [maxLen] at h; done) | (simp [maxLen] at h) | skip) <;> (first | (exfalso; omega) | skip)) | refine awp_rounds 1 ?_ | refine arounds_step fun K hK => ?_ | exact rt1 @maxLen.eq_1 | fail) <;> (refine au1 @maxLen.eq_1 ?_; (repeat intro K hK); refine wr ?_))
theorem copySnd1_ok (a b c u v : Int) : Meets Tryz.prog 119 [.st [lv a, lv b, lv c, .sl 3 false [[lv u, lv v, .sl 4 false []]]]] (.st [lv a, lv b, lv c, .sl 3 false [[lv u, lv v, .sl 4 false []]]]) := by
  refine Meets.of Tryz.func119 rfl (by kernel_rfl) rfl ?_
  simp only [Tryz.ntmps119, St.start, argT]
  refine aum1 @maxLen.eq_1 ?_
  repeat intro K hK
  refine wr ?_
  (refine au1 @maxLen.eq_1 ?_; (repeat intro K hK); refine wr ?_)
  repeat' ((first | (refine awp_cond rfl (fun h => ?_) (fun h => ?_) <;> (first | (simp [maxLen] at h; done) | (simp [maxLen] at h) | skip) <;> (first | (exfalso; omega) | skip)) | refine cc1 (sCopyS_ok u v) @maxLen.eq_1 ?_ | refine awp_rounds 2 ?_ | refine arounds_step fun K hK => ?_ | exact rt1 @maxLen.eq_1 | fail) <;> (refine au1 @maxLen.eq_1 ?_; (repeat intro K hK); refine wr ?_))
theorem sending0_ok : Meets Tryz.prog 75 [.st [lv 1, lv 0, lv 0, .sl 3 false []]] (.bool true) := by
  refine Meets.of Tryz.func75 rfl (by kernel_rfl) rfl ?_
  simp only [Tryz.ntmps75, St.start, argT]
  refine au ?_
  repeat intro K hK
  refine wr ?_
  (refine af ?_; (repeat intro K hK); refine wr ?_)
  repeat' ((first | (refine awp_cond rfl (fun h => ?_) (fun h => ?_) <;> (first | (simp at h; done) | (simp at h) | skip) <;> (first | (exfalso; omega) | skip)) | refine awp_rounds 1 ?_ | refine arounds_step fun K hK => ?_ | (refine awp_planI ([0, 1, 2, 3, 4, 5, 6, 7] : List Nat) ([[], [0], [0, 1], [0, 1, 2], [0, 1, 2, 3], [], [5], [0, 1, 2, 3, 4, 5, 6]] : List (List Nat)) ([(7, ([[], [0], [0, 1], [0, 1, 2], [0, 1, 2, 3], [], [5]], [])), (1, ([], []))] : List (Nat × List (List Nat) × List (Nat × Nat))) (by kernel_rfl) (by kernel_rfl) (by kernel_rfl) ?_) | exact rt | fail) <;> (refine af ?_; (repeat intro K hK); refine wr ?_))
theorem sending1_ok : Meets Tryz.prog 75 [.st [lv 1, lv 3, lv 0, .sl 3 false [[lv 0, lv 3, .sl 4 false []]]]] (.bool true) := by
  refine Meets.of Tryz.func75 rfl (by kernel_rfl) rfl ?_
  simp only [Tryz.ntmps75, St.start, argT]
  refine au ?_
  repeat intro K hK
  refine wr ?_
  (refine af ?_; (repeat intro K hK); refine wr ?_)
  repeat' ((first | (refine awp_cond rfl (fun h => ?_) (fun h => ?_) <;> (first | (simp at h; done) | (simp at h) | skip) <;> (first | (exfalso; omega) | skip)) | refine cc (encs0_ok 0 3 (by decide)) ?_ | refine awp_rounds 2 ?_ | refine arounds_step fun K hK => ?_ | (refine awp_planI ([0, 1, 2, 3, 4, 5, 6, 7] : List Nat) ([[], [0], [0, 1], [0, 1, 2], [0, 1, 2, 3], [], [5], [0, 1, 2, 3, 4, 5, 6]] : List (List Nat)) ([(7, ([[], [0], [0, 1], [0, 1, 2], [0, 1, 2, 3], [], [5]], [])), (1, ([], []))] : List (Nat × List (List Nat) × List (Nat × Nat))) (by kernel_rfl) (by kernel_rfl) (by kernel_rfl) ?_) | exact rt | fail) <;> (refine af ?_; (repeat intro K hK); refine wr ?_))
theorem push0_ok : Meets Tryz.prog 72 [.st [lv 1, lv 0, lv 0, .sl 3 false []], .st [lv 0, lv 3, .sl 4 false []]] (.tup [.st [lv 1, lv 3, lv 0, .sl 3 false [[lv 0, lv 3, .sl 4 false []]]], iv 0]) := by
  refine Meets.of Tryz.func72 rfl (by kernel_rfl) rfl ?_
  simp only [Tryz.ntmps72, St.start, argT]
  refine au ?_
  repeat intro K hK
  refine wr ?_
  (refine af1 @maxLen.eq_1 ?_; (repeat intro K hK); refine wr ?_)
  repeat' ((first | (refine awp_cond rfl (fun h => ?_) (fun h => ?_) <;> (first | (simp [maxLen] at h; done) | (simp [maxLen] at h) | skip) <;> (first | (exfalso; omega) | skip)) | refine cc1 (copySnd0_ok 1 0 0) @maxLen.eq_1 ?_ | refine cc1 (sending0_ok) @maxLen.eq_1 ?_ | refine cc1 (encLog0_ok 0 3 (by decide)) @maxLen.eq_1 ?_ | refine cc1 (sCopyS_ok 0 3) @maxLen.eq_1 ?_ | (refine awp_planI ([0, 1, 2, 3, 4, 5, 6, 7] : List Nat) ([[], [0], [], [2], [2, 3], [0, 1, 2, 3, 4], [0, 1, 2, 3, 4, 5], [0, 1, 2, 3, 4, 5, 6]] : List (List Nat)) ([(5, ([[], [0], [], [2], [2, 3]], [(1, 3), (1, 4)])), (1, ([], [])), (1, ([], [])), (1, ([], []))] : List (Nat × List (List Nat) × List (Nat × Nat))) (by kernel_rfl) (by kernel_rfl) (by kernel_rfl) ?_) | exact rt1 @maxLen.eq_1 | fail) <;> (refine af1 @maxLen.eq_1 ?_; (repeat intro K hK); refine wr ?_))
end Go.Proofs.YtpifpdjefbehmaaGreat
