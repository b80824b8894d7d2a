/- A part of the proof of ReplicaJoins. -/
import Derived.Test.YtjmhjieflbnehaaGreatP04
import Derived.Test.YtjmhjieflbnehaaGreatP07
import Derived.Test.YtjmhjieflbnehaaGreatP08
set_option linter.unusedSimpArgs false
set_option linter.unusedVariables false
set_option maxHeartbeats 16000000
set_option maxRecDepth 100000
section
namespace Go.Proofs.YtjmhjieflbnehaaGreat.Fx
open Go.Ab Go.RowKit
theorem zRF : zAD Tryz.prog 116 [.sl 0 true [], iv 0] (.sl 0 true []) := by
 refine sZ Tryz.func116 Tryz.ntmps116 ?_
 exact wx trivial trivial
theorem zEN : zAD Tryz.prog 74 [.sl 1 false [[.sl 4 false []], [.sl 4 false []]]] (.sl 4 false []) := by
 refine sX Tryz.func74 Tryz.ntmps74 ?_;(repeat intro K hK);refine wr ?_
 (refine au ?_; (repeat intro K hK); refine wr ?_)
 repeat' ((first | (refine zAA rfl (fun h => ?_) (fun h => ?_) <;> (first | (simp at h; done) | (simp at h) | skip) <;> (first | (exfalso; omega) | skip)) | refine cc (zRF) ?_ | refine zAK 3 ?_ | refine zAF fun K hK => ?_ | exact rt | fail) <;> (refine au ?_; (repeat intro K hK); refine wr ?_))
theorem zM4 (g : Nat) (cs : List V) : zAD Tryz.prog 308 [.sl 4 false [], .clo g cs] (iv (-1)) := by
 refine sX Tryz.func308 Tryz.ntmps308 ?_;(repeat intro K hK);refine wr ?_
 (refine au ?_; (repeat intro K hK); refine wr ?_)
 repeat' ((first | (refine zAA rfl (fun h => ?_) (fun h => ?_) <;> (first | (simp at h; done) | (simp at h) | skip) <;> (first | (exfalso; omega) | skip)) | refine zAK 1 ?_ | refine zAF fun K hK => ?_ | exact rt | fail) <;> (refine au ?_; (repeat intro K hK); refine wr ?_))
theorem zQc (g : Nat) (cs : List V) : zAD Tryz.prog 245 [.sl 4 false [], .clo g cs] (.bool false) := by
 refine sZ Tryz.func245 Tryz.ntmps245 ?_
 exact wx (qX1 (zM4 g cs)) trivial
theorem zGq (k : Int) : zAD Tryz.prog 177 [.sl 4 false [], lv k] (.bool false) := by
 refine sZ Tryz.func177 Tryz.ntmps177 ?_
 exact wx (qX1 (zQc _ _)) trivial
theorem zMz : zAD Tryz.prog 217 [.sl 4 false []] (.bool true) := by
 refine sX Tryz.func217 Tryz.ntmps217 ?_;(repeat intro K hK);refine wr ?_
 (refine af ?_; (repeat intro K hK); refine wr ?_)
 repeat' ((first | (refine zAA rfl (fun h => ?_) (fun h => ?_) <;> (first | (simp at h; done) | (simp at h) | skip) <;> (first | (exfalso; omega) | skip)) | refine zAK 1 ?_ | refine zAF fun K hK => ?_ | (refine zBe (.node 9 10 (.leaf [0, 1, 2, 3, 4, 5, 6, 7, 8, 9, 10, 11, 12] [[], [], [1], [0, 1, 2], [0, 1, 2, 3], [], [], [5, 6], [5, 6, 7], [], [9], [0, 1, 2, 3, 4, 9, 10], [0, 1, 2, 3, 4, 5, 6, 7, 8, 9, 10, 11]] [(12, ([[], [], [1], [0, 1, 2], [0, 1, 2, 3], [], [], [5, 6], [5, 6, 7], [], [9], [0, 1, 2, 3, 4, 9, 10]], [(3, 9), (3, 10), (4, 9), (4, 10), (7, 9), (7, 10), (7, 11), (8, 9), (8, 10), (8, 11)])), (1, ([], []))]) (.leaf [0, 1, 2, 3, 4, 5, 6, 7, 8, 10, 9, 11, 12] [[], [], [1], [0, 1, 2], [0, 1, 2, 3], [], [], [5, 6], [5, 6, 7], [], [9], [0, 1, 2, 3, 4, 9, 10], [0, 1, 2, 3, 4, 5, 6, 7, 8, 9, 10, 11]] [(12, ([[], [], [1], [0, 1, 2], [0, 1, 2, 3], [], [], [5, 6], [5, 6, 7], [], [9], [0, 1, 2, 3, 4, 9, 10]], [(3, 9), (3, 10), (4, 9), (4, 10), (7, 9), (7, 10), (7, 11), (8, 9), (8, 10), (8, 11)])), (1, ([], []))])) (by kernel_rfl) (by kernel_rfl) ?_; simp only [PT.run]; repeat' (with_reducible apply And.intro); all_goals (simp only [zB0, List.map_cons, List.map_nil, List.getD_cons_zero, List.getD_cons_succ])) | exact rt | fail) <;> (refine af ?_; (repeat intro K hK); refine wr ?_))
theorem zEd (n : Int) (h0 : 0 ≤ n) (h1 : n < 128) : zAD Tryz.prog 101 [lv n] (.str [UInt8.ofNat n.toNat]) := by
 have hw : IntKind.u8.wrap n = n := by rw [IntKind.wrap_u8]; omega
 have hb : zBp [.int .u8 n] := ⟨UInt8.ofNat n.toNat, by simp; omega⟩
 refine sX Tryz.func101 Tryz.ntmps101 ?_;(repeat intro K hK);refine wr ?_
 (refine au1 (kX5 @h0 @h1 @hw @hb @maxLen.eq_1) ?_; (repeat intro K hK); refine wr ?_)
 repeat' ((first | (refine zAA rfl (fun h => ?_) (fun h => ?_) <;> (first | (simp [h0, h1, hw, hb, maxLen] at h; done) | (simp [h0, h1, hw, hb, maxLen] at h) | skip) <;> (first | (exfalso; omega) | skip)) | refine zAK 1 ?_ | refine zAF fun K hK => ?_ | exact rt1 (kX5 @h0 @h1 @hw @hb @maxLen.eq_1) | fail) <;> (refine au1 (kX5 @h0 @h1 @hw @hb @maxLen.eq_1) ?_; (repeat intro K hK); refine wr ?_))
theorem zKD (k : Int) : zAD Tryz.prog 178 [.sl 4 false [], lv k] (.tup [.str [0], iv 0]) := by
 refine sX Tryz.func178 Tryz.ntmps178 ?_;(repeat intro K hK);refine wr ?_
 (refine au ?_; (repeat intro K hK); refine wr ?_)
 repeat' ((first | (refine zAA rfl (fun h => ?_) (fun h => ?_) <;> (first | (simp at h; done) | (simp at h) | skip) <;> (first | (exfalso; omega) | skip)) | refine cc (zMz) ?_ | refine cc (zEd 0 (by decide) (by decide)) ?_ | refine zAK 1 ?_ | refine zAF fun K hK => ?_ | exact rt | fail) <;> (refine au ?_; (repeat intro K hK); refine wr ?_))
 first | refine .inr ((zDX 1 [0] (by simp [lookO]) (by decide) (by decide)).mono fun r nx' ob' hp => ?_) | refine (zDX 1 [0] (by simp [lookO]) (by decide) (by decide)).mono fun r nx' ob' hp => ?_ | refine ((zDX 1 [0] (by simp [lookO]) (by decide) (by decide)).mono fun r nx' ob' hp => ?_).2
 simp only [aftI]
 obtain ⟨rfl, k1, hk, hkn, hkb, hki, hko⟩ := hp
 simp
 (refine au ?_; (repeat intro K hK); refine wr ?_)
 repeat' ((first | (refine zAA rfl (fun h => ?_) (fun h => ?_) <;> (first | (simp at h; done) | (simp at h) | skip) <;> (first | (exfalso; omega) | skip)) | refine zAK 1 ?_ | refine zAF fun K hK => ?_ | exact rt | fail) <;> (refine au ?_; (repeat intro K hK); refine wr ?_))
 first | refine .inr ((zEQ 1 k1 _ [0] hki hkb).mono fun r nx' ob' hp => ?_) | refine (zEQ 1 k1 _ [0] hki hkb).mono fun r nx' ob' hp => ?_ | refine ((zEQ 1 k1 _ [0] hki hkb).mono fun r nx' ob' hp => ?_).2
 simp only [aftI]
 obtain ⟨rfl, rfl, rfl⟩ := hp
 simp
 (refine au ?_; (repeat intro K hK); refine wr ?_)
 repeat' ((first | (refine zAA rfl (fun h => ?_) (fun h => ?_) <;> (first | (simp at h; done) | (simp at h) | skip) <;> (first | (exfalso; omega) | skip)) | refine zAK 1 ?_ | refine zAF fun K hK => ?_ | exact rt | fail) <;> (refine au ?_; (repeat intro K hK); refine wr ?_))
 first | refine .inr ((zEe 1 k1 _ [0] hki hkb).mono fun r nx' ob' hp => ?_) | refine (zEe 1 k1 _ [0] hki hkb).mono fun r nx' ob' hp => ?_ | refine ((zEe 1 k1 _ [0] hki hkb).mono fun r nx' ob' hp => ?_).2
 simp only [aftI]
 obtain rfl := hp
 simp
 (refine au ?_; (repeat intro K hK); refine wr ?_)
 repeat' ((first | (refine zAA rfl (fun h => ?_) (fun h => ?_) <;> (first | (simp at h; done) | (simp at h) | skip) <;> (first | (exfalso; omega) | skip)) | refine zAK 1 ?_ | refine zAF fun K hK => ?_ | exact rt | fail) <;> (refine au ?_; (repeat intro K hK); refine wr ?_))
theorem zEb (a b : Int) (hab : a ≤ b) : zAD Tryz.prog 118 [.st [lv a, lv b, .sl 4 false []]] (.tup [.str [0], iv 0]) := by
 refine sZ Tryz.func118 Tryz.ntmps118 ?_
 exact wx1 (qX2 (zGq b) (zKD a)) trivial @hab
theorem zQS (a b : Int) (hab : a ≤ b) : zAD Tryz.prog 149 [.st [lv a, lv b, .sl 4 false []]] (.bool true) := by
 refine sZ Tryz.func149 Tryz.ntmps149 ?_
 exact wx (qX1 (zEb a b hab)) trivial
theorem zJy (a b c : Int) : zAD Tryz.prog 117 [.st [lv a, lv b, lv c, .sl 3 false []]] (.st [lv a, lv b, lv c, .new 140 3 []]) := by
 refine sZ Tryz.func117 Tryz.ntmps117 ?_
 refine aum1 @maxLen.eq_1 ?_;(repeat intro K hK);refine wr ?_
 (refine au1 @maxLen.eq_1 ?_; (repeat intro K hK); refine wr ?_)
 repeat' ((first | (refine zAA rfl (fun h => ?_) (fun h => ?_) <;> (first | (simp [maxLen] at h; done) | (simp [maxLen] at h) | skip) <;> (first | (exfalso; omega) | skip)) | refine zAK 1 ?_ | refine zAF fun K hK => ?_ | exact rt1 @maxLen.eq_1 | fail) <;> (refine au1 @maxLen.eq_1 ?_; (repeat intro K hK); refine wr ?_))
theorem zJz : zAD Tryz.prog 97 [.st [lv 1, lv 0, lv 0, .sl 3 false []]] (.bool true) := by
 refine sX Tryz.func97 Tryz.ntmps97 ?_;(repeat intro K hK);refine wr ?_
 (refine af ?_; (repeat intro K hK); refine wr ?_)
 repeat' ((first | (refine zAA rfl (fun h => ?_) (fun h => ?_) <;> (first | (simp at h; done) | (simp at h) | skip) <;> (first | (exfalso; omega) | skip)) | refine zAK 1 ?_ | refine zAF fun K hK => ?_ | (refine zAE ([0, 1, 2, 3, 4, 5, 6, 7] : List Nat) ([[], [0], [0, 1], [0, 1, 2], [0, 1, 2, 3], [], [5], [0, 1, 2, 3, 4, 5, 6]] : List (List Nat)) ([(7, ([[], [0], [0, 1], [0, 1, 2], [0, 1, 2, 3], [], [5]], [])), (1, ([], []))] : List (Nat × List (List Nat) × List (Nat × Nat))) (by kernel_rfl) (by kernel_rfl) (by kernel_rfl) ?_) | exact rt | fail) <;> (refine af ?_; (repeat intro K hK); refine wr ?_))
theorem zJG : zAD Tryz.prog 97 [.st [lv 1, lv 3, lv 0, .sl 3 false [[lv 0, lv 3, .sl 4 false []]]]] (.bool true) := by
 refine sX Tryz.func97 Tryz.ntmps97 ?_;(repeat intro K hK);refine wr ?_
 (refine af ?_; (repeat intro K hK); refine wr ?_)
 repeat' ((first | (refine zAA rfl (fun h => ?_) (fun h => ?_) <;> (first | (simp at h; done) | (simp at h) | skip) <;> (first | (exfalso; omega) | skip)) | refine cc (zQS 0 3 (by decide)) ?_ | refine zAK 2 ?_ | refine zAF fun K hK => ?_ | (refine zAE ([0, 1, 2, 3, 4, 5, 6, 7] : List Nat) ([[], [0], [0, 1], [0, 1, 2], [0, 1, 2, 3], [], [5], [0, 1, 2, 3, 4, 5, 6]] : List (List Nat)) ([(7, ([[], [0], [0, 1], [0, 1, 2], [0, 1, 2, 3], [], [5]], [])), (1, ([], []))] : List (Nat × List (List Nat) × List (Nat × Nat))) (by kernel_rfl) (by kernel_rfl) (by kernel_rfl) ?_) | exact rt | fail) <;> (refine af ?_; (repeat intro K hK); refine wr ?_))
theorem zPe : zAD Tryz.prog 75 [.st [lv 1, lv 0, lv 0, .sl 3 false []], .st [lv 0, lv 3, .sl 4 false []]] (.tup [.st [lv 1, lv 3, lv 0, .sl 3 false [[lv 0, lv 3, .sl 4 false []]]], iv 0]) := by
 refine sZ Tryz.func75 Tryz.ntmps75 ?_
 (refine af1 @maxLen.eq_1 ?_; (repeat intro K hK); refine wr ?_)
 repeat' ((first | (refine zAA rfl (fun h => ?_) (fun h => ?_) <;> (first | (simp [maxLen] at h; done) | (simp [maxLen] at h) | skip) <;> (first | (exfalso; omega) | skip)) | refine cc1 (zJy 1 0 0) @maxLen.eq_1 ?_ | refine cc1 (zJz) @maxLen.eq_1 ?_ | refine cc1 (zEb 0 3 (by decide)) @maxLen.eq_1 ?_ | refine cc1 (zOu 0 3) @maxLen.eq_1 ?_ | (refine zAE ([0, 1, 2, 3, 4, 5, 6, 7] : List Nat) ([[], [0], [], [2], [2, 3], [0, 1, 2, 3, 4], [0, 1, 2, 3, 4, 5], [0, 1, 2, 3, 4, 5, 6]] : List (List Nat)) ([(5, ([[], [0], [], [2], [2, 3]], [(1, 3), (1, 4)])), (1, ([], [])), (1, ([], [])), (1, ([], []))] : List (Nat × List (List Nat) × List (Nat × Nat))) (by kernel_rfl) (by kernel_rfl) (by kernel_rfl) ?_) | exact rt1 @maxLen.eq_1 | fail) <;> (refine af1 @maxLen.eq_1 ?_; (repeat intro K hK); refine wr ?_))
abbrev wA (s c n k : Int) : RepD := repQ 0 1 1 (mk s c n) k zMch 0 0 0 0 0 1 0 0 0 0 2 0 0 0 0 0 []
abbrev rA (b : Int) : RepD := repQ 0 1 1 (mk 9 1 3) 3 zMch 0 0 0 0 0 1 3 0 0 0 2 0 0 b 0 0 [⟨0, 3, []⟩]
theorem zPY : zAD Tryz.prog 72 [.st (wA 9 1 3 3).row] (.bool false) := by
 have h := zJ9 (wA 9 1 3 3)
 rwa [show ((decide ((wA 9 1 3 3).role = 1) || decide ((wA 9 1 3 3).role = 3)) && decide ((wA 9 1 3 3).rec_.m.dk.state = 1)) = false by decide] at h
theorem zJ5 : zAD Tryz.prog 32 [.st (wA 1 0 0 0).row, iv 3, uv 0] (.st (rA 0).row) := by
 refine sX Tryz.func32 Tryz.ntmps32 ?_;(repeat intro K hK);refine wr ?_
 (refine af1 @segs.eq_1 ?_; (repeat intro K hK); refine wr ?_)
 repeat' ((first | (refine zAA rfl (fun h => ?_) (fun h => ?_) <;> (first | (simp [segs] at h; done) | (simp [segs] at h) | skip) <;> (first | (exfalso; omega) | skip)) | refine cc1 (zNT) @segs.eq_1 ?_ | refine cc1 (zKG 0 0) @segs.eq_1 ?_ | refine cc1 (zPY) @segs.eq_1 ?_ | refine cc1 (zTC 9 1 3 3) @segs.eq_1 ?_ | refine cc1 (zEN) @segs.eq_1 ?_ | refine cc1 (zPe) @segs.eq_1 ?_ | refine zAK 1 ?_ | refine zAF fun K hK => ?_ | (refine zAE ([0, 1, 2, 3, 4, 5] : List Nat) ([[], [0], [], [2], [0, 1, 2, 3], [0, 1, 2, 3, 4]] : List (List Nat)) ([(4, ([[], [0], [], [2]], [(1, 3)])), (1, ([], [])), (1, ([], []))] : List (Nat × List (List Nat) × List (Nat × Nat))) (by kernel_rfl) (by kernel_rfl) (by kernel_rfl) ?_) | exact rt1 @segs.eq_1 | fail) <;> (refine af1 @segs.eq_1 ?_; (repeat intro K hK); refine wr ?_))
theorem zOM : zAD Tryz.prog 28 [.st (wA 1 0 0 0).row] (.st (wA 1 0 0 0).row) :=
 zH2 0 1 1 (mk 1 0 0) 0 zMch 0 0 0 0 0 1 0 0 0 0 2 0 0 0 0 0 (lenM _ _ _) (by decide)
theorem zSM : zAD Tryz.prog 9 [.st (wA 1 0 0 0).row, iv 3, uv 0] (.st (rA 0).row) := by
 refine sZ Tryz.func9 Tryz.ntmps9 ?_
 exact wx1 (qX2 (zOM) (zJ5)) trivial @segs.eq_1
@[simp] theorem byteV_iff (n : Int) : zBp [.int .u8 n] ↔ (0 ≤ n ∧ n < 256) := by
 constructor
 ·rintro ⟨b, hb⟩
  simp at hb
  have := b.toNat_lt
  omega
 ·intro h
  exact ⟨UInt8.ofNat n.toNat, by simp; omega⟩
abbrev winO (c : V) : Ob := ⟨328, 3, true, false, [[.str [0], c, .int .i64 0]]⟩
theorem zH9 {nx : Nat} {ob : List (Nat × Option Ob)} (id : Nat) (c : V) (hob : lookO ob id = some (winO c)) :
  InlC Tryz.prog 278 [.ptr id 3 0 0, iv 0] nx ob fun r nx' ob' => r = .tup [.str [], .bool false] ∧ nx' = nx ∧ ob' = ob := by
 refine InlC.of Tryz.func278 rfl (by kernel_rfl) rfl ?_
 simp only [Tryz.ntmps278, St.startI, argT]
 refine au1 @hob ?_;intros;refine wr ?_
 exact wx1 trivial trivial @hob
theorem zId {nx : Nat} {ob : List (Nat × Option Ob)} (id : Nat) (c : V) (hob : lookO ob id = some (winO c)) :
  InlC Tryz.prog 207 [.ptr id 3 0 0, iv 0] nx ob fun r nx' ob' => r = .tup [iv 0, iv 0] ∧ nx' = nx ∧ ob' = ob := by
 refine InlC.of Tryz.func207 rfl (by kernel_rfl) rfl ?_
 simp only [Tryz.ntmps207, St.startI, argT]
 refine au1 @hob ?_;(repeat intro K hK);refine wr ?_
 (refine af1 @hob ?_; (repeat intro K hK); refine wr ?_)
 repeat' ((first | (refine zAA rfl (fun h => ?_) (fun h => ?_) <;> (first | (simp [hob] at h; done) | (simp [hob] at h) | skip) <;> (first | (exfalso; omega) | skip)) | ((first | refine .inr ((zH9 id c hob).mono fun r nx' ob' hp => ?_) | refine (zH9 id c hob).mono fun r nx' ob' hp => ?_); obtain ⟨rfl, rfl, rfl⟩ := hp; simp [aftI, hob]) | (refine zAE ([0, 1, 2, 3, 4, 5, 6, 7, 8, 9, 10, 11, 12, 13, 14, 15, 16, 17, 18, 19, 20, 21, 22, 23, 24] : List Nat) ([[], [], [0, 1], [0, 1, 2], [0, 1, 2, 3], [0, 1, 2, 3, 4], [0, 1, 2, 3, 4, 5], [0, 1, 2, 3, 4, 5, 6], [0, 1, 2, 3], [0, 1, 2, 3], [0, 1, 2, 3, 8, 9], [0, 1, 2, 3, 4, 5, 6, 7, 8, 9, 10], [0, 1, 2, 3], [0, 1, 2, 3, 12], [0, 1, 2, 3, 12, 13], [0, 1, 2, 3, 12, 13, 14], [0, 1, 2, 3], [0, 1, 2, 3], [0, 1, 2, 3, 16, 17], [0, 1, 2, 3, 16, 17, 18], [0, 1, 2, 3], [0, 1, 2, 3, 16, 17, 18, 19, 20], [0, 1, 2, 3, 12, 13, 14, 15, 16, 17, 18, 19, 20, 21], [0, 1, 2, 3, 4, 5, 6, 7, 8, 9, 10, 11, 12, 13, 14, 15, 16, 17, 18, 19, 20, 21, 22], [0, 1, 2, 3, 4, 5, 6, 7, 8, 9, 10, 11, 12, 13, 14, 15, 16, 17, 18, 19, 20, 21, 22, 23]] : List (List Nat)) ([(2, ([[], []], [])), (1, ([], [])), (1, ([], [])), (19, ([[], [0], [0, 1], [0, 1, 2], [], [], [4, 5], [0, 1, 2, 3, 4, 5, 6], [], [8], [8, 9], [8, 9, 10], [], [], [12, 13], [12, 13, 14], [], [12, 13, 14, 15, 16], [8, 9, 10, 11, 12, 13, 14, 15, 16, 17]], [])), (1, ([], [])), (1, ([], []))] : List (Nat × List (List Nat) × List (Nat × Nat))) (by kernel_rfl) (by kernel_rfl) (by kernel_rfl) ?_) | exact rt1 @hob | fail) <;> (refine af1 @hob ?_; (repeat intro K hK); refine wr ?_))
theorem zLH {nx : Nat} {ob : List (Nat × Option Ob)} (id : Nat) (c : V) (hob : lookO ob id = some (winO c)) :
  InlC Tryz.prog 206 [.ptr id 3 0 0, iv 0] nx ob fun r nx' ob' => r = .tup [] ∧ nx' = nx ∧ ob' = ob := by
 refine InlC.of Tryz.func206 rfl (by kernel_rfl) rfl ?_
 simp only [Tryz.ntmps206, St.startI, argT]
 (first | (refine af1 @hob ?_; (repeat intro K hK); refine wr ?_) | exact afd1 @hob)
 repeat' ((first | (refine zAA rfl (fun h => ?_) (fun h => ?_) <;> (first | (simp [hob] at h; done) | (simp [hob] at h) | skip) <;> (first | (exfalso; omega) | skip)) | refine zAK 1 ?_ | refine zAF fun K hK => ?_ | (refine zAE ([0, 1, 2, 3, 4, 5, 6, 7, 8, 9, 10, 11, 12, 13, 14, 15, 16, 17, 18, 19, 20, 21, 22, 23, 24] : List Nat) ([[], [], [0, 1], [0, 1, 2], [0, 1, 2, 3], [0, 1, 2, 3, 4], [0, 1, 2, 3, 4, 5], [0, 1, 2, 3, 4, 5, 6], [0, 1, 2, 3], [0, 1, 2, 3], [0, 1, 2, 3, 8, 9], [0, 1, 2, 3, 4, 5, 6, 7, 8, 9, 10], [0, 1, 2, 3], [0, 1, 2, 3, 12], [0, 1, 2, 3, 12, 13], [0, 1, 2, 3, 12, 13, 14], [0, 1, 2, 3], [0, 1, 2, 3], [0, 1, 2, 3, 16, 17], [0, 1, 2, 3, 16, 17, 18], [0, 1, 2, 3], [0, 1, 2, 3, 16, 17, 18, 19, 20], [0, 1, 2, 3, 12, 13, 14, 15, 16, 17, 18, 19, 20, 21], [0, 1, 2, 3, 4, 5, 6, 7, 8, 9, 10, 11, 12, 13, 14, 15, 16, 17, 18, 19, 20, 21, 22], [0, 1, 2, 3, 4, 5, 6, 7, 8, 9, 10, 11, 12, 13, 14, 15, 16, 17, 18, 19, 20, 21, 22, 23]] : List (List Nat)) ([(2, ([[], []], [])), (1, ([], [])), (1, ([], [])), (19, ([[], [0], [0, 1], [0, 1, 2], [], [], [4, 5], [0, 1, 2, 3, 4, 5, 6], [], [8], [8, 9], [8, 9, 10], [], [], [12, 13], [12, 13, 14], [], [12, 13, 14, 15, 16], [8, 9, 10, 11, 12, 13, 14, 15, 16, 17]], [])), (1, ([], [])), (1, ([], []))] : List (Nat × List (List Nat) × List (Nat × Nat))) (by kernel_rfl) (by kernel_rfl) (by kernel_rfl) ?_) | exact rt1 @hob | fail) <;> (first | (refine af1 @hob ?_; (repeat intro K hK); refine wr ?_) | exact afd1 @hob))
theorem zP4 : zAD Tryz.prog 208 [.sl 0 true [], .str [0]] (.new 5 1 [[.int .u8 0], [.int .u8 0]]) := by
 refine sX Tryz.func208 Tryz.ntmps208 ?_;(repeat intro K hK);refine wr ?_
 (refine au1 (kX2 @maxLen.eq_1 @zAR.eq_1) ?_; (repeat intro K hK); refine wr ?_)
 repeat' ((first | (refine zAA rfl (fun h => ?_) (fun h => ?_) <;> (first | (simp [maxLen, zAR] at h; done) | (simp [maxLen, zAR] at h) | skip) <;> (first | (exfalso; omega) | skip)) | refine zAK 2 ?_ | refine zAF fun K hK => ?_ | exact rt1 (kX2 @maxLen.eq_1 @zAR.eq_1) | fail) <;> (refine au1 (kX2 @maxLen.eq_1 @zAR.eq_1) ?_; (repeat intro K hK); refine wr ?_))
theorem zRJ : zAD Tryz.prog 150 [.str [0]] (.str [0, 0]) := by
 refine sX Tryz.func150 Tryz.ntmps150 ?_;(repeat intro K hK);refine wr ?_
 (refine au ?_; (repeat intro K hK); refine wr ?_)
 repeat' ((first | (refine zAA rfl (fun h => ?_) (fun h => ?_) <;> (first | (simp at h; done) | (simp at h) | skip) <;> (first | (exfalso; omega) | skip)) | ((first | refine .inr ((zLH 1 (.omap 0) (by simp [lookO])).mono fun r nx' ob' hp => ?_) | refine (zLH 1 (.omap 0) (by simp [lookO])).mono fun r nx' ob' hp => ?_); obtain ⟨rfl, rfl, rfl⟩ := hp; simp [aftI]) | ((first | refine .inr ((zId 1 (.omap 0) (by simp [lookO])).mono fun r nx' ob' hp => ?_) | refine (zId 1 (.omap 0) (by simp [lookO])).mono fun r nx' ob' hp => ?_); obtain ⟨rfl, rfl, rfl⟩ := hp; simp [aftI]) | refine cc (zP4) ?_ | refine zAK 2 ?_ | refine zAF fun K hK => ?_ | exact rt | fail) <;> (refine au ?_; (repeat intro K hK); refine wr ?_))
def hstep (h : Int) (b : UInt8) : Int := IntKind.u64.wrap (ixor .u64 h (IntKind.u64.wrap (b.toNat : Int)) * 1099511628211)
def zFZ (h : Int) (s : Str) : Int := s.foldl hstep h
theorem zMl (h : Int) (s : Str) (i : Nat) (hi : i < s.length) : zFZ h (s.take (i + 1)) = hstep (zFZ h (s.take i)) s[i] := by
 unfold zFZ
 rw [List.take_succ_eq_append_getElem hi, List.foldl_append]
 rfl
theorem zSW (h : Int) (s : Str) (hl : s.length ≤ 1000000) : zAD Tryz.prog 209 [lv h, .str s] (lv (zFZ h s)) := by
 refine sX Tryz.func209 Tryz.ntmps209 ?_;intros;refine wr ?_
 obtain ⟨I, hI⟩ : ∃ I : Nat → St → Prop, I = (fun kk ss => ∃ (i : Nat) (g : Int), i ≤ s.length ∧ kk = s.length - i ∧ (g = zFZ h (s.take i)) ∧ ss = ⟨20, [(8, .int .i64 i), (7, .int .i64 s.length), (1, .str s), (0, .int .u64 g)], 0, [], 0⟩) := ⟨_, rfl⟩
 refine lX I (id) (by rw [hI]; exact ⟨0, h, by simp, rfl, rfl, rfl⟩) ?_
 intro kk ss hIk _
 rw [hI] at hIk
 obtain ⟨i, g, hi, rfl, hx, rfl⟩ := hIk
 refine au ?_;intros;refine wr ?_
 refine zAA rfl (fun hh => ?_) (fun hh => ?_)
 ·simp at hh
  obtain ⟨c, hc⟩ : ∃ c, c = s[i] := ⟨_, rfl⟩
  have hget : s[i]? = some c := by rw [hc]; exact List.getElem?_eq_getElem hh
  have ht := zMl h s i hh
  rw [← hc] at ht
  refine au1 @hget ?_;intros;refine wr ?_
  exact aX (id) (by rw [hI]; exact ⟨i + 1, (zFZ h (s.take (i + 1))), by omega, rfl, rfl, rfl⟩) (kX4 (zAC (n := (i : Int) + 1) (by omega) (by omega)) @ht @hx @hstep.eq_1)
 ·simp at hh
  have hii : s.take i = s := List.take_of_length_le (by omega)
  refine au ?_;intros;refine wr ?_
  refine zAB ?_
  simp [hx, hii]
def sumD (h : Int) : Str := [56, 48, 40, 32, 24, 16, 8, 0].map fun k : Nat => UInt8.ofNat (IntKind.u8.wrap (h.fdiv (2 ^ k))).toNat
theorem zDE (n : Int) : 0 ≤ IntKind.u8.wrap n := by rw [IntKind.wrap_u8]; omega
theorem zDP (n : Int) : IntKind.u8.wrap n < 256 := by rw [IntKind.wrap_u8]; omega
theorem b64 : IntKind.u64.bits = 64 := rfl
theorem zRw (s : Str) (hl : s.length ≤ 1000000) : zAD Tryz.prog 151 [.str s] (.str (sumD (zFZ 14695981039346656037 s))) := by
 obtain ⟨z, hz⟩ : ∃ z, z = zFZ 14695981039346656037 s := ⟨_, rfl⟩
 have hh := zSW 14695981039346656037 s hl
 rw [← hz] at hh ⊢
 refine sX Tryz.func151 Tryz.ntmps151 ?_;(repeat intro K hK);refine wr ?_
 refine cX (hh) ?_;(repeat intro K hK);refine wr ?_
 (refine au1 (kX5 @zDE @zDP @sumD.eq_1 @maxLen.eq_1 @b64) ?_; (repeat intro K hK); refine wr ?_)
 repeat' ((first | (refine zAA rfl (fun h => ?_) (fun h => ?_) <;> (first | (simp [zDE, zDP, sumD, maxLen, b64] at h; done) | (simp [zDE, zDP, sumD, maxLen, b64] at h) | skip) <;> (first | (exfalso; omega) | skip)) | refine zAK 9 ?_ | refine zAF fun K hK => ?_ | exact rt1 (kX5 @zDE @zDP @sumD.eq_1 @maxLen.eq_1 @b64) | fail) <;> (refine au1 (kX5 @zDE @zDP @sumD.eq_1 @maxLen.eq_1 @b64) ?_; (repeat intro K hK); refine wr ?_))
theorem zCJ (h : Int) : (sumD h).length = 8 := by simp [sumD]
def zCw (n : Int) (b : Str) : Str := UInt8.ofNat n.toNat :: UInt8.ofNat b.length :: b
def zOE (n : Int) (b : Str) : Str := zCw n b ++ sumD (zFZ 14695981039346656037 (zCw n b))
theorem zOf (n : Int) (b : Str) (h0 : 0 ≤ n) (h1 : n < 128) (hb : b.length < 128) : zAD Tryz.prog 99 [lv n, .str b] (.str (zOE n b)) := by
 have hw : IntKind.u64.wrap (b.length : Int) = (b.length : Int) := by rw [IntKind.wrap_u64]; omega
 have hs := zRw (zCw n b) (by simp [zCw]; omega)
 have hl := zCJ (zFZ 14695981039346656037 (zCw n b))
 refine sX Tryz.func99 Tryz.ntmps99 ?_;(repeat intro K hK);refine wr ?_
 (refine au1 (kX3 @hw @zCw.eq_1 @zCJ) ?_; (repeat intro K hK); refine wr ?_)
 repeat' ((first | (refine zAA rfl (fun h => ?_) (fun h => ?_) <;> (first | (simp [hw, zCw, zCJ] at h; done) | (simp [hw, zCw, zCJ] at h) | skip) <;> (first | (exfalso; omega) | skip)) | refine cc1 (zEd n h0 h1) (kX3 @hw @zCw.eq_1 @zCJ) ?_ | refine cc1 (zEd (b.length : Int) (by omega) (by omega)) (kX3 @hw @zCw.eq_1 @zCJ) ?_ | refine cc1 (hs) (kX3 @hw @zCw.eq_1 @zCJ) ?_ | (refine zAB ?_; simp [hw, zCw, zCJ]; (simp [zOE, zCw]); done) | (refine zAI ?_; refine zAB ?_; simp [hw, zCw, zCJ]; (simp [zOE, zCw]); done) | fail) <;> (refine au1 (kX3 @hw @zCw.eq_1 @zCJ) ?_; (repeat intro K hK); refine wr ?_))
def pkA : Str := zOE 1 [68, 0, 3, 0, 0]
def pkH : Str := zOE 1 [72, 0]
theorem zTg : zAD Tryz.prog 98 [.st [lv 0, lv 3, .sl 4 false []]] (.tup [.str [0, 3, 0, 0], iv 0]) := by
 refine sZ Tryz.func98 Tryz.ntmps98 ?_
 (refine af ?_; (repeat intro K hK); refine wr ?_)
 repeat' ((first | (refine zAA rfl (fun h => ?_) (fun h => ?_) <;> (first | (simp at h; done) | (simp at h) | skip) <;> (first | (exfalso; omega) | skip)) | refine cc (zEb 0 3 (by decide)) ?_ | refine cc (zEd 0 (by decide) (by decide)) ?_ | refine cc (zEd 3 (by decide) (by decide)) ?_ | refine cc (zRJ) ?_ | (refine zAE ([0, 1, 2, 3, 4, 5, 6, 7, 8, 9, 10, 11] : List Nat) ([[], [0], [0, 1], [], [3], [0, 1, 2, 3, 4], [0, 1, 2, 3, 4, 5], [], [0, 1, 2, 3, 4, 5, 7], [0, 1, 2, 3, 4, 5, 6, 7, 8], [0, 1, 2, 3, 4, 5, 6, 7, 8, 9], [0, 1, 2, 3, 4, 5, 6, 7, 8, 9, 10]] : List (List Nat)) ([(9, ([[], [0], [0, 1], [], [3], [0, 1, 2, 3, 4], [0, 1, 2, 3, 4, 5], [], [0, 1, 2, 3, 4, 5, 7]], [(4, 2)])), (1, ([], [])), (1, ([], [])), (1, ([], []))] : List (Nat × List (List Nat) × List (Nat × Nat))) (by kernel_rfl) (by kernel_rfl) (by kernel_rfl) ?_) | exact rt | fail) <;> (refine af ?_; (repeat intro K hK); refine wr ?_))
theorem zS9 : zAD Tryz.prog 53 [.st [lv 1, lv 3, lv 0, .sl 3 false [[lv 0, lv 3, .sl 4 false []]]]] (.new 9 1 [[.str pkA]]) := by
 refine sX Tryz.func53 Tryz.ntmps53 ?_;(repeat intro K hK);refine wr ?_
 (refine au1 (kX2 @pkA.eq_1 @maxLen.eq_1) ?_; (repeat intro K hK); refine wr ?_)
 repeat' ((first | (refine zAA rfl (fun h => ?_) (fun h => ?_) <;> (first | (simp [pkA, maxLen] at h; done) | (simp [pkA, maxLen] at h) | skip) <;> (first | (exfalso; omega) | skip)) | refine cc1 (zJG) (kX2 @pkA.eq_1 @maxLen.eq_1) ?_ | refine cc1 (zTg) (kX2 @pkA.eq_1 @maxLen.eq_1) ?_ | refine cc1 (zOf 1 [68, 0, 3, 0, 0] (by decide) (by decide) (by decide)) (kX2 @pkA.eq_1 @maxLen.eq_1) ?_ | refine zAK 2 ?_ | refine zAF fun K hK => ?_ | exact rt1 (kX2 @pkA.eq_1 @maxLen.eq_1) | fail) <;> (refine au1 (kX2 @pkA.eq_1 @maxLen.eq_1) ?_; (repeat intro K hK); refine wr ?_))
theorem hb0_ok : zAD Tryz.prog 55 [lv 1, lv 0] (.str pkH) := by
 refine sZ Tryz.func55 Tryz.ntmps55 ?_
 exact wx1 (qX2 (zEd 0 (by decide) (by decide)) (zOf 1 [72, 0] (by decide) (by decide) (by decide))) trivial @pkH.eq_1
theorem zMZ (b : Int) : zAD Tryz.prog 28 [.st (rA b).row] (.st (rA b).row) := by
 refine sY Tryz.func28 Tryz.ntmps28 @segs.eq_1 ?_;(repeat intro K hK);refine wr ?_
 (refine af1 @segs.eq_1 ?_; (repeat intro K hK); refine wr ?_)
 repeat' ((first | (refine zAA rfl (fun h => ?_) (fun h => ?_) <;> (first | (simp [segs] at h; done) | (simp [segs] at h) | skip) <;> (first | (exfalso; omega) | skip)) | refine cc1 (zBc (mk 9 1 3) (lenM _ _ _)) @segs.eq_1 ?_ | refine cc1 (zBc zMch (by decide)) @segs.eq_1 ?_ | refine cc1 (zC0 [] false 4 (.inl rfl) (by simp)) @segs.eq_1 ?_ | refine cc1 (zJF [] false 3 (.inl rfl) (by simp)) @segs.eq_1 ?_ | refine cc1 (zGs [] false 4 (.inl rfl) (by simp)) @segs.eq_1 ?_ | refine cc1 (zN6 [[lv 0, lv 3, .sl 4 false []]] false 3 (.inl rfl) (by simp)) @segs.eq_1 ?_ | refine cc1 (zNc [] false 4 (.inl rfl) (by simp)) @segs.eq_1 ?_ | refine cc1 (zFN 0 3) @segs.eq_1 ?_ | refine zAK 2 ?_ | refine zAF fun K hK => ?_ | (refine zAE (rid := 11) ([0, 1, 2, 3, 4, 5, 6, 7] : List Nat) ([[], [0], [0, 1], [], [], [4], [0, 1, 2, 3, 4, 5], [0, 1, 2, 3, 4, 5, 6]] : List (List Nat)) ([(6, ([[], [0], [0, 1], [], [], [4]], [(2, 5)])), (1, ([], [])), (1, ([], []))] : List (Nat × List (List Nat) × List (Nat × Nat))) (by kernel_rfl) (by kernel_rfl) (by kernel_rfl) ?_) | (refine zAE (rid := 17) ([0, 1, 2, 3, 4, 5, 6, 7, 8, 9] : List Nat) ([[], [0], [0, 1], [], [], [4], [4, 5], [0, 1, 2, 3, 4, 5, 6], [0, 1, 2, 3, 4, 5, 6, 7], [0, 1, 2, 3, 4, 5, 6, 7, 8]] : List (List Nat)) ([(7, ([[], [0], [0, 1], [], [], [4], [4, 5]], [(2, 6)])), (1, ([], [])), (1, ([], [])), (1, ([], []))] : List (Nat × List (List Nat) × List (Nat × Nat))) (by kernel_rfl) (by kernel_rfl) (by kernel_rfl) ?_) | exact rt1 @segs.eq_1 | fail) <;> (refine af1 @segs.eq_1 ?_; (repeat intro K hK); refine wr ?_))
theorem pks_ok : zAD Tryz.prog 21 [.st (rA 0).row] (.tup [.st (rA 1).row, .sl 1 false [[.str pkA], [.str pkH]]]) := by
 refine sZ Tryz.func21 Tryz.ntmps21 ?_
 (refine af1 (kX2 @segs.eq_1 @maxLen.eq_1) ?_; (repeat intro K hK); refine wr ?_)
 repeat' ((first | (refine zAA rfl (fun h => ?_) (fun h => ?_) <;> (first | (simp [segs, maxLen] at h; done) | (simp [segs, maxLen] at h) | skip) <;> (first | (exfalso; omega) | skip)) | refine cc1 (zMZ 0) (kX2 @segs.eq_1 @maxLen.eq_1) ?_ | refine cc1 (zS9) (kX2 @segs.eq_1 @maxLen.eq_1) ?_ | refine cc1 (hb0_ok) (kX2 @segs.eq_1 @maxLen.eq_1) ?_ | (refine zAE ([0, 1, 2, 3, 4, 5, 6, 7, 8, 9] : List Nat) ([[], [], [], [2], [], [2, 3, 4], [2, 3, 4, 5], [1, 2, 3, 4, 5, 6], [0, 1, 2, 3, 4, 5, 6, 7], [0, 1, 2, 3, 4, 5, 6, 7, 8]] : List (List Nat)) ([(8, ([[], [], [], [2], [], [2, 3, 4], [2, 3, 4, 5], [1, 2, 3, 4, 5, 6]], [(0, 5), (0, 6), (0, 7)])), (1, ([], [])), (1, ([], []))] : List (Nat × List (List Nat) × List (Nat × Nat))) (by kernel_rfl) (by kernel_rfl) (by kernel_rfl) ?_) | exact rt1 (kX2 @segs.eq_1 @maxLen.eq_1) | fail) <;> (refine af1 (kX2 @segs.eq_1 @maxLen.eq_1) ?_; (repeat intro K hK); refine wr ?_))
abbrev rdO (s : Str) : Ob := ⟨337, 2, true, false, [[.str s, .bool false]]⟩
theorem zLV (r : Str) (hr : r.length ≤ 100000) : zAD Tryz.prog 153 [.str (0 :: r)] (.tup [lv 0, iv 1, .bool true]) := by
 by_cases hc : 10 < r.length + 1
 ·have hc' : (10 : Int) < (r.length : Int) + 1 := by omega
  refine sY Tryz.func153 Tryz.ntmps153 @hc' ?_;(repeat intro K hK);refine wr ?_
  (refine au1 @hc' ?_; (repeat intro K hK); refine wr ?_)
  repeat' ((first | (refine zAA rfl (fun h => ?_) (fun h => ?_) <;> (first | (simp [hc'] at h; done) | (simp [hc'] at h) | skip) <;> (first | (exfalso; omega) | skip)) | refine zAK 1 ?_ | refine zAF fun K hK => ?_ | (refine zAB ?_; simp [hc']; (first | done | rfl | decide); done) | (refine zAI ?_; refine zAB ?_; simp [hc']; (first | done | rfl | decide); done) | fail) <;> (refine au1 @hc' ?_; (repeat intro K hK); refine wr ?_))
 ·have hc' : ¬ (10 : Int) < (r.length : Int) + 1 := by omega
  refine sY Tryz.func153 Tryz.ntmps153 @hc' ?_;(repeat intro K hK);refine wr ?_
  (refine au1 @hc' ?_; (repeat intro K hK); refine wr ?_)
  repeat' ((first | (refine zAA rfl (fun h => ?_) (fun h => ?_) <;> (first | (simp [hc'] at h; done) | (simp [hc'] at h) | skip) <;> (first | (exfalso; omega) | skip)) | refine zAK 1 ?_ | refine zAF fun K hK => ?_ | (refine zAB ?_; simp [hc']; (first | done | rfl | decide); done) | (refine zAI ?_; refine zAB ?_; simp [hc']; (first | done | rfl | decide); done) | fail) <;> (refine au1 @hc' ?_; (repeat intro K hK); refine wr ?_))
theorem zOd {nx : Nat} {ob : List (Nat × Option Ob)} (id : Nat) (r : Str) (hr : r.length ≤ 100000) (hob : lookO ob id = some (rdO (0 :: r))) :
  InlC Tryz.prog 210 [.ptr id 2 0 0] nx ob fun v nx' ob' => v = lv 0 ∧ nx' = nx + 3 ∧ ob' = (id, some (rdO r)) :: ob := by
 refine InlC.of Tryz.func210 rfl (by kernel_rfl) rfl ?_
 simp only [Tryz.ntmps210, St.startI, argT]
 refine au1 @hob ?_;intros;refine wr ?_
 exact wx1 (qX1 (zLV r hr)) trivial @hob
theorem zP5 (r : Str) (hr : r.length ≤ 100000) : zAD Tryz.prog 153 [.str (1 :: r)] (.tup [lv 1, iv 1, .bool true]) := by
 by_cases hc : 10 < r.length + 1
 ·have hc' : (10 : Int) < (r.length : Int) + 1 := by omega
  refine sY Tryz.func153 Tryz.ntmps153 @hc' ?_;(repeat intro K hK);refine wr ?_
  (refine au1 @hc' ?_; (repeat intro K hK); refine wr ?_)
  repeat' ((first | (refine zAA rfl (fun h => ?_) (fun h => ?_) <;> (first | (simp [hc'] at h; done) | (simp [hc'] at h) | skip) <;> (first | (exfalso; omega) | skip)) | refine zAK 1 ?_ | refine zAF fun K hK => ?_ | (refine zAB ?_; simp [hc']; (first | done | rfl | decide); done) | (refine zAI ?_; refine zAB ?_; simp [hc']; (first | done | rfl | decide); done) | fail) <;> (refine au1 @hc' ?_; (repeat intro K hK); refine wr ?_))
 ·have hc' : ¬ (10 : Int) < (r.length : Int) + 1 := by omega
  refine sY Tryz.func153 Tryz.ntmps153 @hc' ?_;(repeat intro K hK);refine wr ?_
  (refine au1 @hc' ?_; (repeat intro K hK); refine wr ?_)
  repeat' ((first | (refine zAA rfl (fun h => ?_) (fun h => ?_) <;> (first | (simp [hc'] at h; done) | (simp [hc'] at h) | skip) <;> (first | (exfalso; omega) | skip)) | refine zAK 1 ?_ | refine zAF fun K hK => ?_ | (refine zAB ?_; simp [hc']; (first | done | rfl | decide); done) | (refine zAI ?_; refine zAB ?_; simp [hc']; (first | done | rfl | decide); done) | fail) <;> (refine au1 @hc' ?_; (repeat intro K hK); refine wr ?_))
theorem zMi {nx : Nat} {ob : List (Nat × Option Ob)} (id : Nat) (r : Str) (hr : r.length ≤ 100000) (hob : lookO ob id = some (rdO (1 :: r))) :
  InlC Tryz.prog 210 [.ptr id 2 0 0] nx ob fun v nx' ob' => v = lv 1 ∧ nx' = nx + 3 ∧ ob' = (id, some (rdO r)) :: ob := by
 refine InlC.of Tryz.func210 rfl (by kernel_rfl) rfl ?_
 simp only [Tryz.ntmps210, St.startI, argT]
 refine au1 @hob ?_;intros;refine wr ?_
 exact wx1 (qX1 (zP5 r hr)) trivial @hob
theorem zP0 (r : Str) (hr : r.length ≤ 100000) : zAD Tryz.prog 153 [.str (3 :: r)] (.tup [lv 3, iv 1, .bool true]) := by
 by_cases hc : 10 < r.length + 1
 ·have hc' : (10 : Int) < (r.length : Int) + 1 := by omega
  refine sY Tryz.func153 Tryz.ntmps153 @hc' ?_;(repeat intro K hK);refine wr ?_
  (refine au1 @hc' ?_; (repeat intro K hK); refine wr ?_)
  repeat' ((first | (refine zAA rfl (fun h => ?_) (fun h => ?_) <;> (first | (simp [hc'] at h; done) | (simp [hc'] at h) | skip) <;> (first | (exfalso; omega) | skip)) | refine zAK 1 ?_ | refine zAF fun K hK => ?_ | (refine zAB ?_; simp [hc']; (first | done | rfl | decide); done) | (refine zAI ?_; refine zAB ?_; simp [hc']; (first | done | rfl | decide); done) | fail) <;> (refine au1 @hc' ?_; (repeat intro K hK); refine wr ?_))
 ·have hc' : ¬ (10 : Int) < (r.length : Int) + 1 := by omega
  refine sY Tryz.func153 Tryz.ntmps153 @hc' ?_;(repeat intro K hK);refine wr ?_
  (refine au1 @hc' ?_; (repeat intro K hK); refine wr ?_)
  repeat' ((first | (refine zAA rfl (fun h => ?_) (fun h => ?_) <;> (first | (simp [hc'] at h; done) | (simp [hc'] at h) | skip) <;> (first | (exfalso; omega) | skip)) | refine zAK 1 ?_ | refine zAF fun K hK => ?_ | (refine zAB ?_; simp [hc']; (first | done | rfl | decide); done) | (refine zAI ?_; refine zAB ?_; simp [hc']; (first | done | rfl | decide); done) | fail) <;> (refine au1 @hc' ?_; (repeat intro K hK); refine wr ?_))
theorem zQs (r : Str) (hr : r.length ≤ 100000) : zAD Tryz.prog 153 [.str (5 :: r)] (.tup [lv 5, iv 1, .bool true]) := by
 by_cases hc : 10 < r.length + 1
 ·have hc' : (10 : Int) < (r.length : Int) + 1 := by omega
  refine sY Tryz.func153 Tryz.ntmps153 @hc' ?_;(repeat intro K hK);refine wr ?_
  (refine au1 @hc' ?_; (repeat intro K hK); refine wr ?_)
  repeat' ((first | (refine zAA rfl (fun h => ?_) (fun h => ?_) <;> (first | (simp [hc'] at h; done) | (simp [hc'] at h) | skip) <;> (first | (exfalso; omega) | skip)) | refine zAK 1 ?_ | refine zAF fun K hK => ?_ | (refine zAB ?_; simp [hc']; (first | done | rfl | decide); done) | (refine zAI ?_; refine zAB ?_; simp [hc']; (first | done | rfl | decide); done) | fail) <;> (refine au1 @hc' ?_; (repeat intro K hK); refine wr ?_))
 ·have hc' : ¬ (10 : Int) < (r.length : Int) + 1 := by omega
  refine sY Tryz.func153 Tryz.ntmps153 @hc' ?_;(repeat intro K hK);refine wr ?_
  (refine au1 @hc' ?_; (repeat intro K hK); refine wr ?_)
  repeat' ((first | (refine zAA rfl (fun h => ?_) (fun h => ?_) <;> (first | (simp [hc'] at h; done) | (simp [hc'] at h) | skip) <;> (first | (exfalso; omega) | skip)) | refine zAK 1 ?_ | refine zAF fun K hK => ?_ | (refine zAB ?_; simp [hc']; (first | done | rfl | decide); done) | (refine zAI ?_; refine zAB ?_; simp [hc']; (first | done | rfl | decide); done) | fail) <;> (refine au1 @hc' ?_; (repeat intro K hK); refine wr ?_))
theorem zNO {nx : Nat} {ob : List (Nat × Option Ob)} (id : Nat) (r : Str) (hr : r.length ≤ 100000) (hob : lookO ob id = some (rdO (5 :: r))) :
  InlC Tryz.prog 210 [.ptr id 2 0 0] nx ob fun v nx' ob' => v = lv 5 ∧ nx' = nx + 3 ∧ ob' = (id, some (rdO r)) :: ob := by
 refine InlC.of Tryz.func210 rfl (by kernel_rfl) rfl ?_
 simp only [Tryz.ntmps210, St.startI, argT]
 refine au1 @hob ?_;intros;refine wr ?_
 exact wx1 (qX1 (zQs r hr)) trivial @hob
theorem zKz {nx : Nat} {ob : List (Nat × Option Ob)} (id : Nat) (r : Str) (hr : r.length ≤ 10000) (hob : lookO ob id = some (rdO (5 :: 68 :: 0 :: 3 :: 0 :: 0 :: r))) :
  InlC Tryz.prog 211 [.ptr id 2 0 0] nx ob fun v nx' ob' => v = .str [68, 0, 3, 0, 0] ∧ nx' = nx + 3 ∧ ob' = (id, some (rdO r)) :: (id, some (rdO (68 :: 0 :: 3 :: 0 :: 0 :: r))) :: ob := by
 have hw : IntKind.u64.wrap ((r.length : Int) + 1 + 1 + 1 + 1 + 1) = (r.length : Int) + 5 := by rw [IntKind.wrap_u64]; omega
 have ht : ((r.length : Int) + 1 + 1 + 1 + 1 + 1).toNat = r.length + 1 + 1 + 1 + 1 + 1 := by omega
 refine InlC.of Tryz.func211 rfl (by kernel_rfl) rfl ?_
 simp only [Tryz.ntmps211, St.startI, argT]
 refine au1 @hob ?_;(repeat intro K hK);refine wr ?_
 (refine au1 (kX3 @hob @hw @ht) ?_; (repeat intro K hK); refine wr ?_)
 repeat' ((first | (refine zAA rfl (fun h => ?_) (fun h => ?_) <;> (first | (simp [hob, hw, ht] at h; done) | (simp [hob, hw, ht] at h) | skip) <;> (first | (exfalso; omega) | skip)) | ((first | refine .inr ((zNO id (68 :: 0 :: 3 :: 0 :: 0 :: r) (by simp; omega) hob).mono fun r nx' ob' hp => ?_) | refine (zNO id (68 :: 0 :: 3 :: 0 :: 0 :: r) (by simp; omega) hob).mono fun r nx' ob' hp => ?_); obtain ⟨rfl, rfl, rfl⟩ := hp; simp [aftI, hob, hw, ht]) | exact rt1 (kX3 @hob @hw @ht) | fail) <;> (refine au1 (kX3 @hob @hw @ht) ?_; (repeat intro K hK); refine wr ?_))
theorem zPO : zAD Tryz.prog 155 [.str pkA] (.tup [lv 1, .str [68, 0, 3, 0, 0], iv 0]) := by
 obtain ⟨z, hz⟩ : ∃ z, z = zFZ 14695981039346656037 (zCw 1 [68, 0, 3, 0, 0]) := ⟨_, rfl⟩
 have hs := zRw (zCw 1 [68, 0, 3, 0, 0]) (by decide)
 have hl := zCJ z
 rw [show pkA = 1 :: 5 :: 68 :: 0 :: 3 :: 0 :: 0 :: sumD z by rw [hz]; rfl]
 rw [← hz, show zCw 1 [68, 0, 3, 0, 0] = [1, 5, 68, 0, 3, 0, 0] by rfl] at hs
 clear hz
 generalize sumD z = q at *
 refine sX Tryz.func155 Tryz.ntmps155 ?_;(repeat intro K hK);refine wr ?_
 (refine af1 @hl ?_; (repeat intro K hK); refine wr ?_)
 repeat' ((first | (refine zAA rfl (fun h => ?_) (fun h => ?_) <;> (first | (simp [hl] at h; done) | (simp [hl] at h) | skip) <;> (first | (exfalso; omega) | skip)) | ((first | refine .inr ((zMi 0 (5 :: 68 :: 0 :: 3 :: 0 :: 0 :: q) (by simp; omega) (by simp [lookO])).mono fun r nx' ob' hp => ?_) | refine (zMi 0 (5 :: 68 :: 0 :: 3 :: 0 :: 0 :: q) (by simp; omega) (by simp [lookO])).mono fun r nx' ob' hp => ?_); obtain ⟨rfl, rfl, rfl⟩ := hp; simp [aftI, hl]) | ((first | refine .inr ((zKz 0 q (by omega) (by simp [lookO])).mono fun r nx' ob' hp => ?_) | refine (zKz 0 q (by omega) (by simp [lookO])).mono fun r nx' ob' hp => ?_); obtain ⟨rfl, rfl, rfl⟩ := hp; simp [aftI, hl]) | refine cc1 (hs) @hl ?_ | (refine zAE ([0, 1, 2, 3, 4, 5, 6, 7, 8, 9, 10] : List Nat) ([[], [], [1], [1, 2], [0, 1, 2, 3], [0, 1, 2, 3, 4], [], [6], [6, 7], [6, 7, 8], [0, 1, 2, 3, 4, 5, 6, 7, 8, 9]] : List (List Nat)) ([(10, ([[], [], [1], [1, 2], [0, 1, 2, 3], [0, 1, 2, 3, 4], [], [6], [6, 7], [6, 7, 8]], [(9, 5)])), (1, ([], []))] : List (Nat × List (List Nat) × List (Nat × Nat))) (by kernel_rfl) (by kernel_rfl) (by kernel_rfl) ?_) | exact rt1 @hl | fail) <;> (refine af1 @hl ?_; (repeat intro K hK); refine wr ?_))
theorem zNm : zAD Tryz.prog 152 [.str pkA, .int .u8 68] (.tup [lv 1, .str [0, 3, 0, 0], .bool true]) := by
 refine sZ Tryz.func152 Tryz.ntmps152 ?_
 (refine af ?_; (repeat intro K hK); refine wr ?_)
 repeat' ((first | (refine zAA rfl (fun h => ?_) (fun h => ?_) <;> (first | (simp at h; done) | (simp at h) | skip) <;> (first | (exfalso; omega) | skip)) | refine cc (zPO) ?_ | (refine zAE ([0, 1, 2, 3, 4, 5] : List Nat) ([[], [], [1], [0], [0, 1, 2, 3], [0, 1, 2, 3, 4]] : List (List Nat)) ([(4, ([[], [], [1], [0]], [])), (1, ([], [])), (1, ([], []))] : List (Nat × List (List Nat) × List (Nat × Nat))) (by kernel_rfl) (by kernel_rfl) (by kernel_rfl) ?_) | exact rt | fail) <;> (refine af ?_; (repeat intro K hK); refine wr ?_))
abbrev earO (xs : List (List V)) : Ob := ⟨144, 4, false, false, xs⟩
theorem zL6 : zAD Tryz.prog 212 [.str [0, 0], iv 65536] (.tup [.str [0], iv 0]) := by
 refine sX Tryz.func212 Tryz.ntmps212 ?_;(repeat intro K hK);refine wr ?_
 refine zAc 6 5 1 (by decide) rfl ?_
 (refine af1 (kX2 @maxLen.eq_1 @zAR.eq_1) ?_; (repeat intro K hK); refine wr ?_)
 repeat' ((first | (refine zAA rfl (fun h => ?_) (fun h => ?_) <;> (first | (simp [maxLen, zAR] at h; done) | (simp [maxLen, zAR] at h) | skip) <;> (first | (exfalso; omega) | skip)) | refine zAK 2 ?_ | refine zAF fun K hK => ?_ | (refine zAE ([0, 1, 2, 3, 4, 5, 6, 7] : List Nat) ([[], [0], [], [], [2, 3], [2, 3, 4], [0, 1], [0, 1, 2, 3, 4, 5, 6]] : List (List Nat)) ([(7, ([[], [0], [], [], [2, 3], [2, 3, 4], [0, 1]], [])), (1, ([], []))] : List (Nat × List (List Nat) × List (Nat × Nat))) (by kernel_rfl) (by kernel_rfl) (by kernel_rfl) ?_) | exact rt1 (kX2 @maxLen.eq_1 @zAR.eq_1) | fail) <;> (refine af1 (kX2 @maxLen.eq_1 @zAR.eq_1) ?_; (repeat intro K hK); refine wr ?_))
theorem zRP (k : Int) : zAD Tryz.prog 213 [.str [0], lv k] (.tup [.sl 4 false [], iv 0]) := by
 refine sX Tryz.func213 Tryz.ntmps213 ?_;(repeat intro K hK);refine wr ?_
 (refine au ?_; (repeat intro K hK); refine wr ?_)
 repeat' ((first | (refine zAA rfl (fun h => ?_) (fun h => ?_) <;> (first | (simp at h; done) | (simp at h) | skip) <;> (first | (exfalso; omega) | skip)) | ((first | refine .inr ((zOd 0 [] (by simp) (by simp [lookO])).mono fun r nx' ob' hp => ?_) | refine (zOd 0 [] (by simp) (by simp [lookO])).mono fun r nx' ob' hp => ?_); obtain ⟨rfl, rfl, rfl⟩ := hp; simp [aftI]) | refine cc (zKD k) ?_ | refine zAK 1 ?_ | refine zAF fun K hK => ?_ | exact rt | fail) <;> (refine au ?_; (repeat intro K hK); refine wr ?_))
theorem zSn : zAD Tryz.prog 157 [.str [0, 3, 0, 0]] (.tup [.st [lv 0, lv 3, .sl 4 false []], iv 0]) := by
 refine sZ Tryz.func157 Tryz.ntmps157 ?_
 exact wx (qX5 (zLV [3, 0, 0] (by decide)) (zP0 [0, 0] (by decide)) (zL6) (zRP 0) (zGq 3)) trivial
theorem zJ2 (a b : Int) : zAD Tryz.prog 156 [.st [lv a, lv b, .sl 4 false []]] (.st [lv a, lv b, .new 144 4 []]) := by
 refine sZ Tryz.func156 Tryz.ntmps156 ?_
 refine aum1 @maxLen.eq_1 ?_;(repeat intro K hK);refine wr ?_
 (refine af1 @maxLen.eq_1 ?_; (repeat intro K hK); refine wr ?_)
 repeat' ((first | (refine zAA rfl (fun h => ?_) (fun h => ?_) <;> (first | (simp [maxLen] at h; done) | (simp [maxLen] at h) | skip) <;> (first | (exfalso; omega) | skip)) | refine zAK 1 ?_ | refine zAF fun K hK => ?_ | (refine zAE ([0, 1, 2, 3, 4, 5, 6, 7, 8, 9] : List Nat) ([[], [], [1], [], [3], [3, 4], [1, 2, 3, 4, 5], [1, 2, 3, 4, 5, 6], [0, 1, 2, 3, 4, 5, 6, 7], [0, 1, 2, 3, 4, 5, 6, 7, 8]] : List (List Nat)) ([(8, ([[], [], [1], [], [3], [3, 4], [1, 2, 3, 4, 5], [1, 2, 3, 4, 5, 6]], [(2, 5)])), (1, ([], [])), (1, ([], []))] : List (Nat × List (List Nat) × List (Nat × Nat))) (by kernel_rfl) (by kernel_rfl) (by kernel_rfl) ?_) | exact rt1 @maxLen.eq_1 | fail) <;> (refine af1 @maxLen.eq_1 ?_; (repeat intro K hK); refine wr ?_))
theorem zLq : zAD Tryz.prog 100 [.st [lv 1, lv 0, .sl 4 false []]] (.bool true) := by
 refine sX Tryz.func100 Tryz.ntmps100 ?_;(repeat intro K hK);refine wr ?_
 (refine au ?_; (repeat intro K hK); refine wr ?_)
 repeat' ((first | (refine zAA rfl (fun h => ?_) (fun h => ?_) <;> (first | (simp at h; done) | (simp at h) | skip) <;> (first | (exfalso; omega) | skip)) | refine zAK 1 ?_ | refine zAF fun K hK => ?_ | exact rt | fail) <;> (refine au ?_; (repeat intro K hK); refine wr ?_))
theorem zLE (k : Int) (f : V) (hf : okGs [f]) : zAD Tryz.prog 158 [.sl 4 false [], lv k, f] (.tup [iv 0, .bool false]) := by
 refine sX Tryz.func158 Tryz.ntmps158 ?_;(repeat intro K hK);refine wr ?_
 (refine au ?_; (repeat intro K hK); refine wr ?_)
 repeat' ((first | (refine zAA rfl (fun h => ?_) (fun h => ?_) <;> (first | (simp at h; done) | (simp at h) | skip) <;> (first | (exfalso; omega) | skip)) | refine zAK 1 ?_ | refine zAF fun K hK => ?_ | exact rt | fail) <;> (refine au ?_; (repeat intro K hK); refine wr ?_))
theorem zOr {nx : Nat} {ob : List (Nat × Option Ob)} (i k : Nat) (y : List V) (hi : lookO ob i = some (earO [])) (hk : lookO ob k = some (earO [y])) (hne : k ≠ i) :
  InlC Tryz.prog 161 [.own i, iv 0, .own k] nx ob fun r nx' ob' => r = .own nx ∧ nx' = nx + 1 ∧ ob' = (nx, some (earO [y])) :: (i, none) :: ob := by
 refine InlC.of Tryz.func161 rfl (by kernel_rfl) rfl ?_
 simp only [Tryz.ntmps161, St.startI, argT]
 refine au1 (kX2 @hi @hk) ?_;(repeat intro K hK);refine wr ?_
 (refine af1 (kX6 @hi @hk @hne @maxLen.eq_1 @prtV.eq_1 @prtP.eq_1) ?_; (repeat intro K hK); refine wr ?_)
 repeat' ((first | (refine zAA rfl (fun h => ?_) (fun h => ?_) <;> (first | (simp [hi, hk, hne, maxLen, prtV, prtP] at h; done) | (simp [hi, hk, hne, maxLen, prtV, prtP] at h) | skip) <;> (first | (exfalso; omega) | skip)) | (refine zAE (rid := 11) ([0, 1, 2, 3, 4, 5, 6, 7, 8] : List Nat) ([[], [], [], [1, 2], [0, 1, 2, 3], [], [], [5, 6], [0, 1, 2, 3, 4, 5, 6, 7]] : List (List Nat)) ([(8, ([[], [], [], [1, 2], [0, 1, 2, 3], [], [], [5, 6]], [])), (1, ([], []))] : List (Nat × List (List Nat) × List (Nat × Nat))) (by kernel_rfl) (by kernel_rfl) (by kernel_rfl) ?_) | (refine zAE (rid := 15) ([0, 1, 2, 3, 4, 5, 6, 7, 8] : List Nat) ([[], [], [], [1, 2], [0, 1, 2, 3], [], [], [5, 6], [0, 1, 2, 3, 4, 5, 6, 7]] : List (List Nat)) ([(8, ([[], [], [], [1, 2], [0, 1, 2, 3], [], [], [5, 6]], [])), (1, ([], []))] : List (Nat × List (List Nat) × List (Nat × Nat))) (by kernel_rfl) (by kernel_rfl) (by kernel_rfl) ?_) | exact rt1 (kX6 @hi @hk @hne @maxLen.eq_1 @prtV.eq_1 @prtP.eq_1) | fail) <;> (refine af1 (kX6 @hi @hk @hne @maxLen.eq_1 @prtV.eq_1 @prtP.eq_1) ?_; (repeat intro K hK); refine wr ?_))
theorem zNI {nx : Nat} {ob : List (Nat × Option Ob)} (i : Nat) (y : List V) (hi : lookO ob i = some (earO [y])) (hy : y.length = 4) :
  InlC Tryz.prog 162 [.own i, iv 0, iv 1] nx ob fun r nx' ob' => r = .own nx ∧ nx' = nx + 1 ∧ ob' = (nx, some (earO [])) :: (i, none) :: (i, some (earO [[lv 0, lv 0, lv 0, .sl 0 true []]])) :: (i, some (earO [y])) :: ob := by
 refine InlC.of Tryz.func162 rfl (by kernel_rfl) rfl ?_
 simp only [Tryz.ntmps162, St.startI, argT]
 refine au1 @hi ?_;(repeat intro K hK);refine wr ?_
 (refine af1 (kX3 @hi @hy @maxLen.eq_1) ?_; (repeat intro K hK); refine wr ?_)
 repeat' ((first | (refine zAA rfl (fun h => ?_) (fun h => ?_) <;> (first | (simp [hi, hy, maxLen] at h; done) | (simp [hi, hy, maxLen] at h) | skip) <;> (first | (exfalso; omega) | skip)) | (refine zAE ([0, 1, 2, 3, 4, 5, 6, 7] : List Nat) ([[], [], [0, 1], [], [], [3, 4], [0, 1, 2, 3, 4, 5], [0, 1, 2, 3, 4, 5, 6]] : List (List Nat)) ([(6, ([[], [], [0, 1], [], [], [3, 4]], [])), (1, ([], [])), (1, ([], []))] : List (Nat × List (List Nat) × List (Nat × Nat))) (by kernel_rfl) (by kernel_rfl) (by kernel_rfl) ?_) | exact rt1 (kX3 @hi @hy @maxLen.eq_1) | fail) <;> (refine af1 (kX3 @hi @hy @maxLen.eq_1) ?_; (repeat intro K hK); refine wr ?_))
 refine zNw (sz := 4) (k := 0) 6 i (by simp [lkT]) (by simp [lookO]; rfl) rfl rfl (Nat.zero_le _) ?_
 refine zAB ?_
 simp
theorem zQL : zAD Tryz.prog 105 [.st [lv 1, lv 0, .sl 4 false []], .str pkA] (.tup [.st [lv 2, lv 3, .sl 4 false []], .sl 3 false [[lv 0, lv 3, .sl 4 false []]], .bool true]) := by
 refine sX Tryz.func105 Tryz.ntmps105 ?_;(repeat intro K hK);refine wr ?_
 (refine af1 @maxLen.eq_1 ?_; (repeat intro K hK); refine wr ?_)
 repeat' ((first | (refine zAA rfl (fun h => ?_) (fun h => ?_) <;> (first | (simp [maxLen] at h; done) | (simp [maxLen] at h) | skip) <;> (first | (exfalso; omega) | skip)) | ((first | refine .inl ⟨1, _, zLE 1 (.fn 159) (by simp [okGs, okG]), ?_⟩ | refine ⟨1, _, zLE 1 (.fn 159) (by simp [okGs, okG]), ?_⟩); simp [aftC, aftE, noX, noXc, noX1, maxLen]; first | refine And.intro zAL ?_ | skip) | ((first | refine .inr ((zOr 4 17 [lv 1, lv 0, lv 3, .sl 4 false []] (by simp [lookO]) (by simp [lookO]) (by decide)).mono fun r nx' ob' hp => ?_) | refine (zOr 4 17 [lv 1, lv 0, lv 3, .sl 4 false []] (by simp [lookO]) (by simp [lookO]) (by decide)).mono fun r nx' ob' hp => ?_); obtain ⟨rfl, rfl, rfl⟩ := hp; simp [aftI, maxLen]) | ((first | refine .inr ((zNI 18 [lv 1, lv 0, lv 3, .sl 4 false []] (by simp [lookO]) rfl).mono fun r nx' ob' hp => ?_) | refine (zNI 18 [lv 1, lv 0, lv 3, .sl 4 false []] (by simp [lookO]) rfl).mono fun r nx' ob' hp => ?_); obtain ⟨rfl, rfl, rfl⟩ := hp; simp [aftI, maxLen]) | refine cc1 (zJ2 1 0) @maxLen.eq_1 ?_ | refine cc1 (zNm) @maxLen.eq_1 ?_ | refine cc1 (zLq) @maxLen.eq_1 ?_ | refine cc1 (zSn) @maxLen.eq_1 ?_ | refine zAK 2 ?_ | refine zAF fun K hK => ?_ | (refine zAE ([0, 1, 2, 3, 4, 5, 6, 7, 8, 9, 10, 11, 12, 13] : List Nat) ([[], [0], [0, 1], [0, 1, 2], [0, 1, 2, 3], [0, 1, 2, 3, 4], [0, 1, 2, 3, 4, 5], [0, 1, 2, 3, 4, 5, 6], [0, 1, 2, 3, 4, 5, 6, 7], [0, 1, 2, 3, 4, 5, 6, 7, 8], [0, 1, 2, 3, 4], [0, 1, 2, 3, 4, 10], [0, 1, 2, 3, 4, 5, 6, 7, 8, 9, 10, 11], [0, 1, 2, 3, 4, 5, 6, 7, 8, 9, 10, 11, 12]] : List (List Nat)) ([(1, ([], [])), (1, ([], [])), (1, ([], [])), (1, ([], [])), (1, ([], [])), (7, ([[], [0], [0, 1], [0, 1, 2], [0, 1, 2, 3], [], [5]], [])), (1, ([], [])), (1, ([], []))] : List (Nat × List (List Nat) × List (Nat × Nat))) (by kernel_rfl) (by kernel_rfl) (by kernel_rfl) ?_) | exact rt1 @maxLen.eq_1 | fail) <;> (refine af1 @maxLen.eq_1 ?_; (repeat intro K hK); refine wr ?_))
abbrev wB (s c n k a b : Int) : RepD := repQ 1 2 1 zMch 0 (mk s c n) k 0 0 0 0 0 0 0 a b 2 0 0 0 0 0 []
abbrev rplR (s c n k : Int) : RplD := ⟨mk s c n, [], k, 0⟩
theorem zPo : zAD Tryz.prog 163 [.st (rplR 1 0 0 0).row, .sl 4 false [], lv 3] (.tup [.st (rplR 1 0 0 3).row, .bool true]) := by
 refine sX Tryz.func163 Tryz.ntmps163 ?_;(repeat intro K hK);refine wr ?_
 (refine au ?_; (repeat intro K hK); refine wr ?_)
 repeat' ((first | (refine zAA rfl (fun h => ?_) (fun h => ?_) <;> (first | (simp at h; done) | (simp at h) | skip) <;> (first | (exfalso; omega) | skip)) | refine cc (zFc (rplR 1 0 0 0) (lenM _ _ _) (by simp)) ?_ | refine cc (zEN) ?_ | refine cc (zMz) ?_ | refine zAK 1 ?_ | refine zAF fun K hK => ?_ | exact rt | fail) <;> (refine au ?_; (repeat intro K hK); refine wr ?_))
theorem zJc : zAD Tryz.prog 106 [.st (wB 1 0 0 0 1 0).row, .st [lv 2, lv 3, .sl 4 false []], .sl 3 false [[lv 0, lv 3, .sl 4 false []]]] (.tup [.st (wB 1 0 0 3 2 3).row, .bool true]) := by
 refine sX Tryz.func106 Tryz.ntmps106 ?_;(repeat intro K hK);refine wr ?_
 (refine af ?_; (repeat intro K hK); refine wr ?_)
 repeat' ((first | (refine zAA rfl (fun h => ?_) (fun h => ?_) <;> (first | (simp at h; done) | (simp at h) | skip) <;> (first | (exfalso; omega) | skip)) | refine cc (zPo) ?_ | refine cc (zEN) ?_ | refine zAK 2 ?_ | refine zAF fun K hK => ?_ | (refine zAE (rid := 1) ([0, 1, 2, 3, 4, 5, 6] : List Nat) ([[], [0], [], [2], [], [0, 1, 4], [0, 1, 2, 3, 4, 5]] : List (List Nat)) ([(6, ([[], [0], [], [2], [], [0, 1, 4]], [(1, 4), (3, 4), (3, 5)])), (1, ([], []))] : List (Nat × List (List Nat) × List (Nat × Nat))) (by kernel_rfl) (by kernel_rfl) (by kernel_rfl) ?_) | (refine zAE (rid := 11) ([0, 1, 2, 3, 4, 5, 6, 7, 8] : List Nat) ([[], [], [], [0], [0, 3], [0, 1, 3, 4], [0, 1, 3, 4, 5], [0, 1, 2, 3, 4, 5, 6], [0, 1, 2, 3, 4, 5, 6, 7]] : List (List Nat)) ([(7, ([[], [], [], [0], [0, 3], [0, 1, 3, 4], [0, 1, 3, 4, 5]], [(1, 4)])), (1, ([], [])), (1, ([], []))] : List (Nat × List (List Nat) × List (Nat × Nat))) (by kernel_rfl) (by kernel_rfl) (by kernel_rfl) ?_) | exact rt | fail) <;> (refine af ?_; (repeat intro K hK); refine wr ?_))
theorem zL2 : zAD Tryz.prog 57 [.st (wB 1 0 0 0 1 0).row, .str pkA] (.tup [.st (wB 1 0 0 3 2 3).row, .bool true]) := by
 refine sZ Tryz.func57 Tryz.ntmps57 ?_
 exact wx (qX2 (zQL) (zJc)) trivial
theorem zI9 (s c n k a b : Int) : zAD Tryz.prog 28 [.st (wB s c n k a b).row] (.st (wB s c n k a b).row) :=
 zH2 1 2 1 zMch 0 (mk s c n) k 0 0 0 0 0 0 0 a b 2 0 0 0 0 0 (by decide) (lenM _ _ _)
theorem zQF : zAD Tryz.prog 22 [.st (wB 1 0 0 0 1 0).row, .str pkA] (.tup [.st (wB 1 0 0 3 2 3).row, .bool true]) := by
 refine sZ Tryz.func22 Tryz.ntmps22 ?_
 exact wx (qX2 (zI9 1 0 0 0 1 0) (zL2)) trivial
theorem zOH {nx : Nat} {ob : List (Nat × Option Ob)} (id sz off : Nat) (k : Int) :
  InlC Tryz.prog 120 [.ptr id sz 0 off, lv k] nx ob fun r nx' ob' => r = .cap 179 [] [some (nx, 1), some (nx + 1, 1)] ∧ nx' = nx + 2 ∧ ob' = (nx + 1, some ⟨24, 1, true, false, [[lv k]]⟩) :: (nx, some ⟨216, 1, true, false, [[.ptr id sz 0 off]]⟩) :: ob := by
 refine InlC.of Tryz.func120 rfl (by kernel_rfl) rfl ?_
 simp only [Tryz.ntmps120, St.startI, argT]
 refine au ?_;intros;refine wr ?_
 exact wx trivial trivial
theorem zTo {nx : Nat} {ob : List (Nat × Option Ob)} (a b id sz off : Nat) (k : Int) (cs : List V) (ha : lookO ob a = some ⟨216, 1, true, false, [[.ptr id sz 0 off]]⟩) (hb : lookO ob b = some ⟨24, 1, true, false, [[lv k]]⟩)
  (hi : lookO ob id = some ⟨48, sz, true, false, [cs]⟩) (hc : cs[off]? = some (.sl 4 false [])) (ho : off < sz) :
  InlC Tryz.prog 179 [.poi, .ptr a 1 0 0, .ptr b 1 0 0] nx ob fun r nx' ob' => r = .tup [] ∧ nx' = nx ∧ ob' = ob := by
 refine InlC.of Tryz.func179 rfl (by kernel_rfl) rfl ?_
 simp only [Tryz.ntmps179, St.startI, argT]
 refine au1 (kX5 @ha @hb @hi @hc @ho) ?_;(repeat intro K hK);refine wr ?_
 (first | (refine af1 (kX5 @ha @hb @hi @hc @ho) ?_; (repeat intro K hK); refine wr ?_) | exact afd1 (kX5 @ha @hb @hi @hc @ho))
 repeat' ((first | (refine zAA rfl (fun h => ?_) (fun h => ?_) <;> (first | (simp [ha, hb, hi, hc, ho] at h; done) | (simp [ha, hb, hi, hc, ho] at h) | skip) <;> (first | (exfalso; omega) | skip)) | refine zAK 1 ?_ | refine zAF fun K hK => ?_ | (refine zAE (rid := 0) ([0, 1, 2, 3, 4, 5, 6, 7, 8, 9, 10, 11, 12, 13, 14, 15, 16, 17, 18, 19, 20, 21, 22, 23, 24] : List Nat) ([[], [0], [0, 1], [0, 1, 2], [0, 1, 2, 3], [0, 1, 2, 3, 4], [0, 1, 2, 3, 4, 5], [0, 1, 2, 3, 4, 5, 6], [0, 1, 2, 3, 4, 5, 6, 7], [0, 1, 2, 3, 4, 5, 6, 7, 8], [0, 1, 2, 3, 4, 5, 6, 7, 8, 9], [0, 1, 2, 3, 4, 5, 6, 7, 8, 9, 10], [0, 1, 2, 3, 4, 5], [0, 1, 2, 3, 4, 5, 6, 7, 8, 9, 10, 11, 12], [0, 1, 2, 3, 4, 5, 6, 7, 8, 9, 10, 11, 12, 13], [0, 1, 2, 3, 4, 5, 6, 7, 8, 9, 10, 11, 12, 13, 14], [0, 1, 2, 3, 4, 5, 6, 7, 8, 9, 10, 11, 12, 13, 14, 15], [0, 1, 2, 3, 4, 5, 6, 7, 8, 9, 10, 11, 12, 13, 14, 15, 16], [0, 1, 2, 3, 4, 5, 6, 7, 8, 9, 10, 11, 12, 13, 14, 15, 16, 17], [0, 1, 2, 3, 4, 5, 6, 7, 8, 9, 10, 11, 12, 13, 14, 15, 16, 17, 18], [0, 1, 2, 3, 4, 5, 6, 7, 8, 9, 10, 11, 12, 13, 14, 15, 16, 17, 18, 19], [0, 1, 2, 3, 4, 5, 6, 7, 8, 9, 10, 11, 12, 13, 14, 15, 16, 17, 18, 19, 20], [0, 1, 2, 3, 4, 5, 6, 7, 8, 9, 10, 11, 12, 13, 14, 15, 16, 17, 18, 19, 20, 21], [0, 1, 2, 3, 4, 5, 6, 7, 8, 9, 10, 11, 12, 13, 14, 15, 16, 17, 18, 19, 20, 21, 22], [0, 1, 2, 3, 4, 5, 6, 7, 8, 9, 10, 11, 12, 13, 14, 15, 16, 17, 18, 19, 20, 21, 22, 23]] : List (List Nat)) ([(1, ([], [])), (1, ([], [])), (1, ([], [])), (1, ([], [])), (1, ([], [])), (1, ([], [])), (7, ([[], [0], [0, 1], [0, 1, 2], [0, 1, 2, 3], [0, 1, 2, 3, 4], []], [])), (1, ([], [])), (1, ([], [])), (1, ([], [])), (1, ([], [])), (1, ([], [])), (1, ([], [])), (1, ([], [])), (1, ([], [])), (1, ([], [])), (1, ([], [])), (1, ([], [])), (1, ([], []))] : List (Nat × List (List Nat) × List (Nat × Nat))) (by kernel_rfl) (by kernel_rfl) (by kernel_rfl) ?_) | (refine zAE (rid := 2) ([0, 1, 2, 3, 4, 5, 6] : List Nat) ([[], [], [1], [1, 2], [1, 2, 3], [0, 1, 2, 3, 4], [0, 1, 2, 3, 4, 5]] : List (List Nat)) ([(5, ([[], [], [1], [1, 2], [1, 2, 3]], [])), (1, ([], [])), (1, ([], []))] : List (Nat × List (List Nat) × List (Nat × Nat))) (by kernel_rfl) (by kernel_rfl) (by kernel_rfl) ?_) | exact rt1 (kX5 @ha @hb @hi @hc @ho) | fail) <;> (first | (refine af1 (kX5 @ha @hb @hi @hc @ho) ?_; (repeat intro K hK); refine wr ?_) | exact afd1 (kX5 @ha @hb @hi @hc @ho)))
theorem zJX {C D G : Prop} (c : C) (d : D) (t : C → D → G := by intro c d; (refine af ?_; (repeat intro K hK); refine wr ?_); repeat' ((first | (refine zAA rfl (fun h => ?_) (fun h => ?_) <;> (first | (simp at h; done) | (simp at h) | skip) <;> (first | (exfalso; omega) | skip)) | ((first | refine .inl ⟨1, _, d.1, ?_⟩ | refine ⟨1, _, d.1, ?_⟩); simp [aftC, aftE, noX, noXc, noX1]; first | refine And.intro zAL ?_ | skip) | ((first | refine .inl ⟨1, _, d.2.1, ?_⟩ | refine ⟨1, _, d.2.1, ?_⟩); simp [aftC, aftE, noX, noXc, noX1]; first | refine And.intro zAL ?_ | skip) | refine cc c.1 ?_ | refine cc c.2.1 ?_ | refine cc c.2.2.1 ?_ | refine cc c.2.2.2.1 ?_ | refine cc c.2.2.2.2.1 ?_ | refine cc c.2.2.2.2.2.1 ?_ | (refine zAE ([0, 1, 2, 3, 4, 5, 6, 7, 8, 9, 10, 11, 12, 13, 14] : List Nat) ([[], [0], [0, 1], [], [3], [3, 4], [3, 4, 5], [3, 4], [3, 4, 7], [3, 4, 7, 8], [3, 4, 5, 6, 7, 8, 9], [3, 4, 5, 6, 7, 8, 9, 10], [0, 1, 2, 3, 4], [0, 1, 2, 3, 4, 12], [0, 1, 2, 3, 4, 5, 6, 7, 8, 9, 10, 11, 12, 13]] : List (List Nat)) ([(14, ([[], [0], [0, 1], [], [3], [3, 4], [3, 4, 5], [3, 4], [3, 4, 7], [3, 4, 7, 8], [3, 4, 5, 6, 7, 8, 9], [3, 4, 5, 6, 7, 8, 9, 10], [0, 1, 2, 3, 4], [0, 1, 2, 3, 4, 12]], [])), (1, ([], []))] : List (Nat × List (List Nat) × List (Nat × Nat))) (by kernel_rfl) (by kernel_rfl) (by kernel_rfl) ?_) | exact rt | fail) <;> (refine af ?_; (repeat intro K hK); refine wr ?_))) : G := t c d
theorem zQ5 : zAD Tryz.prog 121 [.st (rplR 1 0 0 3).row] (.tup [uv 0, .bool false, .bool true]) := by
 refine sZ Tryz.func121 Tryz.ntmps121 ?_
 exact zJX (qX1 (zIV)) trivial
theorem zQ9 : zAD Tryz.prog 121 [.st (rplR 9 1 1 3).row] (.tup [uv 0, .bool false, .bool true]) := by
 refine sZ Tryz.func121 Tryz.ntmps121 ?_
 exact zJX (qX1 (zIr)) trivial
theorem zPv : zAD Tryz.prog 121 [.st (rplR 9 1 2 3).row] (.tup [uv 0, .bool false, .bool true]) := by
 refine sZ Tryz.func121 Tryz.ntmps121 ?_
 exact zJX (qX1 (zIa)) trivial
theorem zEp : zAD Tryz.prog 76 [.st (rplR 1 0 0 3).row, iv 3] (.tup [.st (rplR 9 1 3 3).row, .sl 4 false []]) := by
 refine sX Tryz.func76 Tryz.ntmps76 ?_;(repeat intro K hK);refine wr ?_
 (refine au1 @mk.eq_1 ?_; (repeat intro K hK); refine wr ?_)
 repeat' ((first | (refine zAA rfl (fun h => ?_) (fun h => ?_) <;> (first | (simp [mk] at h; done) | (simp [mk] at h) | skip) <;> (first | (exfalso; omega) | skip)) | ((first | refine .inr ((zOH 0 _ _ _).mono fun r nx' ob' hp => ?_) | refine (zOH 0 _ _ _).mono fun r nx' ob' hp => ?_); obtain ⟨rfl, rfl, rfl⟩ := hp; simp [aftI, mk]) | refine cc1 (zFc (rplR 1 0 0 3) (lenM _ _ _) (by simp)) @mk.eq_1 ?_ | refine cc1 (zJU) @mk.eq_1 ?_ | refine cc1 (zHv) @mk.eq_1 ?_ | refine cc1 (zHc) @mk.eq_1 ?_ | refine cc1 (zHr) @mk.eq_1 ?_ | refine cc1 (zQ5) @mk.eq_1 ?_ | refine cc1 (zQ9) @mk.eq_1 ?_ | refine cc1 (zPv) @mk.eq_1 ?_ | refine cc1 (zKI _) @mk.eq_1 ?_ | refine cc1 (zK6 _) @mk.eq_1 ?_ | refine cc1 (zLQ _) @mk.eq_1 ?_ | (refine zMJ rfl ?_; refine (zTo _ _ 0 _ _ _ _ (by rfl) (by rfl) (by rfl) (by rfl) (by decide)).mono fun r nx' ob' hp => ?_; obtain ⟨rfl, rfl, rfl⟩ := hp; simp [mk]) | refine zAK 4 ?_ | refine zAF fun K hK => ?_ | exact rt1 @mk.eq_1 | fail) <;> (refine au1 @mk.eq_1 ?_; (repeat intro K hK); refine wr ?_))
theorem zMp : zAD Tryz.prog 33 [.st (wB 1 0 0 3 2 3).row, iv 3] (.st (wB 9 1 3 3 2 3).row) := by
 refine sZ Tryz.func33 Tryz.ntmps33 ?_
 exact wx (qX3 (zEp) (zKG 0 0) (zSB 0 0 0 (by decide))) trivial
theorem zTV : zAD Tryz.prog 9 [.st (wB 1 0 0 3 2 3).row, iv 3, uv 0] (.st (wB 9 1 3 3 2 3).row) := by
 refine sZ Tryz.func9 Tryz.ntmps9 ?_
 exact wx (qX2 (zI9 1 0 0 3 2 3) (zMp)) trivial
theorem zQu : zAD Tryz.prog 11 [.st (rA 1).row] (.st (mk 9 1 3).row) := by
 refine sZ Tryz.func11 Tryz.ntmps11 ?_
 exact wx1 (qX1 (zBc (mk 9 1 3) (lenM _ _ _))) trivial @segs.eq_1
theorem zPN : zAD Tryz.prog 11 [.st (wB 9 1 3 3 2 3).row] (.st (mk 9 1 3).row) := by
 refine sZ Tryz.func11 Tryz.ntmps11 ?_
 exact wx (qX1 (zBc (mk 9 1 3) (lenM _ _ _))) trivial
end Go.Proofs.YtjmhjieflbnehaaGreat.Fx
end
