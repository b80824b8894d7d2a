/- A part of the proof of ReplicaJoins. -/
import Derived.Test.YtjmhjieflbnehaaGreatP06
set_option linter.unusedSimpArgs false
set_option linter.unusedVariables false
set_option maxHeartbeats 16000000
set_option maxRecDepth 100000
section
namespace Go.Proofs.YtjmhjieflbnehaaGreat.Fx
open Go.Ab Go.RowKit
theorem zBc (m : MchD) (h1 : m.mem.length ≤ 100000) : zAD Tryz.prog 34 [.st m.row] (.st m.row) := by
 refine sZ Tryz.func34 Tryz.ntmps34 ?_
 exact wx (qX1 (zBQ (ints .u32 m.mem) false 1 (.inl rfl) (by rw [zAP]; exact h1))) trivial
theorem zFN (a b : Int) : zAD Tryz.prog 65 [.st [lv a, lv b, .sl 4 false []]] (.st [lv a, lv b, .sl 4 false []]) := by
 refine sZ Tryz.func65 Tryz.ntmps65 ?_
 exact wx (qX1 (zC0 [] false 4 (.inl rfl) (by simp))) trivial
theorem zOu (a b : Int) : zAD Tryz.prog 119 [.st [lv a, lv b, .sl 4 false []]] (.st [lv a, lv b, .sl 4 false []]) := by
 refine sZ Tryz.func119 Tryz.ntmps119 ?_
 exact wx (qX1 (zC0 [] false 4 (.inl rfl) (by simp))) trivial
abbrev repQ (host role gen : Int) (m : MchD) (c : Int) (n : MchD) (k d ga gb mark sa sb sc ra rb wa wb wc beats cmd cmdAt : Int) (q : List SegD) : RepD :=
 ⟨host, role, gen, ⟨m, c, [], []⟩, ⟨n, [], k, d⟩, ⟨[], ga, gb⟩, mark, ⟨sa, sb, sc, q⟩, ⟨ra, rb, []⟩, ⟨wa, wb, wc⟩, beats, cmd, cmdAt, []⟩
theorem zH2 (host role gen : Int) (m : MchD) (c : Int) (n : MchD) (k d ga gb mark sa sb sc ra rb wa wb wc beats cmd cmdAt : Int) (hm : m.mem.length ≤ 100000) (hn : n.mem.length ≤ 100000) :
  zAD Tryz.prog 28 [.st (repQ host role gen m c n k d ga gb mark sa sb sc ra rb wa wb wc beats cmd cmdAt []).row] (.st (repQ host role gen m c n k d ga gb mark sa sb sc ra rb wa wb wc beats cmd cmdAt []).row) := by
 refine sX Tryz.func28 Tryz.ntmps28 ?_;(repeat intro K hK);refine wr ?_
 (refine af ?_; (repeat intro K hK); refine wr ?_)
 repeat' ((first | (refine zAA rfl (fun h => ?_) (fun h => ?_) <;> (first | (simp at h; done) | (simp at h) | skip) <;> (first | (exfalso; omega) | skip)) | refine cc (zBc m hm) ?_ | refine cc (zBc n hn) ?_ | refine cc (zC0 [] false 4 (.inl rfl) (by simp)) ?_ | refine cc (zJF [] false 3 (.inl rfl) (by simp)) ?_ | refine cc (zGs [] false 4 (.inl rfl) (by simp)) ?_ | refine cc (zN6 [] false 3 (.inl rfl) (by simp)) ?_ | refine cc (zNc [] false 4 (.inl rfl) (by simp)) ?_ | refine zAK 2 ?_ | refine zAF fun K hK => ?_ | (refine zAE (rid := 11) ([0, 1, 2, 3, 4, 5, 6, 7] : List Nat) ([[], [0], [0, 1], [], [], [4], [0, 1, 2, 3, 4, 5], [0, 1, 2, 3, 4, 5, 6]] : List (List Nat)) ([(6, ([[], [0], [0, 1], [], [], [4]], [(2, 5)])), (1, ([], [])), (1, ([], []))] : List (Nat × List (List Nat) × List (Nat × Nat))) (by kernel_rfl) (by kernel_rfl) (by kernel_rfl) ?_) | (refine zAE (rid := 17) ([0, 1, 2, 3, 4, 5, 6, 7, 8, 9] : List Nat) ([[], [0], [0, 1], [], [], [4], [4, 5], [0, 1, 2, 3, 4, 5, 6], [0, 1, 2, 3, 4, 5, 6, 7], [0, 1, 2, 3, 4, 5, 6, 7, 8]] : List (List Nat)) ([(7, ([[], [0], [0, 1], [], [], [4], [4, 5]], [(2, 6)])), (1, ([], [])), (1, ([], [])), (1, ([], []))] : List (Nat × List (List Nat) × List (Nat × Nat))) (by kernel_rfl) (by kernel_rfl) (by kernel_rfl) ?_) | exact rt | fail) <;> (refine af ?_; (repeat intro K hK); refine wr ?_))
theorem zK4 {C D E G : Prop} (c : C) (d : D) (e : E) (t : C → D → E → G := by intro c d e; (refine af1 e ?_; (repeat intro K hK); refine wr ?_); repeat' ((first | (refine zAA rfl (fun h => ?_) (fun h => ?_) <;> (first | (simp [e] at h; done) | (simp [e] at h) | skip) <;> (first | (exfalso; omega) | skip)) | ((first | refine .inl ⟨1, _, d.1, ?_⟩ | refine ⟨1, _, d.1, ?_⟩); simp [aftC, aftE, noX, noXc, noX1, e]; first | refine And.intro zAL ?_ | skip) | ((first | refine .inl ⟨1, _, d.2.1, ?_⟩ | refine ⟨1, _, d.2.1, ?_⟩); simp [aftC, aftE, noX, noXc, noX1, e]; first | refine And.intro zAL ?_ | skip) | refine cc1 c.1 e ?_ | refine cc1 c.2.1 e ?_ | refine cc1 c.2.2.1 e ?_ | refine cc1 c.2.2.2.1 e ?_ | refine cc1 c.2.2.2.2.1 e ?_ | refine cc1 c.2.2.2.2.2.1 e ?_ | (refine zAE (rid := 9) ([0, 1, 2, 3, 4, 5, 6] : List Nat) ([[], [0], [], [2], [0, 1], [0, 1, 4], [0, 1, 2, 3, 4, 5]] : List (List Nat)) ([(6, ([[], [0], [], [2], [0, 1], [0, 1, 4]], [(3, 1)])), (1, ([], []))] : List (Nat × List (List Nat) × List (Nat × Nat))) (by kernel_rfl) (by kernel_rfl) (by kernel_rfl) ?_) | (refine zAE (rid := 10) ([0, 1, 2, 3, 4, 5, 6, 7, 8, 9] : List Nat) ([[], [0], [], [], [3], [], [2, 3, 4, 5], [0, 1, 2, 3, 4, 5, 6], [0, 1, 2, 3, 4, 5, 6, 7], [0, 1, 2, 3, 4, 5, 6, 7, 8]] : List (List Nat)) ([(7, ([[], [0], [], [], [3], [], [2, 3, 4, 5]], [(1, 6)])), (1, ([], [])), (1, ([], [])), (1, ([], []))] : List (Nat × List (List Nat) × List (Nat × Nat))) (by kernel_rfl) (by kernel_rfl) (by kernel_rfl) ?_) | exact rt1 e | fail) <;> (refine af1 e ?_; (repeat intro K hK); refine wr ?_))) : G := t c d e
theorem zK2 {C D E G : Prop} (c : C) (d : D) (e : E) (t : C → D → E → G := by intro c d e; (refine af1 e ?_; (repeat intro K hK); refine wr ?_); repeat' ((first | (refine zAA rfl (fun h => ?_) (fun h => ?_) <;> (first | (simp [e] at h; done) | (simp [e] at h) | skip) <;> (first | (exfalso; omega) | skip)) | ((first | refine .inl ⟨1, _, d.1, ?_⟩ | refine ⟨1, _, d.1, ?_⟩); simp [aftC, aftE, noX, noXc, noX1, e]; first | refine And.intro zAL ?_ | skip) | ((first | refine .inl ⟨1, _, d.2.1, ?_⟩ | refine ⟨1, _, d.2.1, ?_⟩); simp [aftC, aftE, noX, noXc, noX1, e]; first | refine And.intro zAL ?_ | skip) | refine cc1 c.1 e ?_ | refine cc1 c.2.1 e ?_ | refine cc1 c.2.2.1 e ?_ | refine cc1 c.2.2.2.1 e ?_ | refine cc1 c.2.2.2.2.1 e ?_ | refine cc1 c.2.2.2.2.2.1 e ?_ | (refine zAE ([0, 1, 2, 3, 4, 5] : List Nat) ([[], [], [], [0], [0, 1, 3], [0, 1, 2, 3, 4]] : List (List Nat)) ([(5, ([[], [], [], [0], [0, 1, 3]], [(2, 3)])), (1, ([], []))] : List (Nat × List (List Nat) × List (Nat × Nat))) (by kernel_rfl) (by kernel_rfl) (by kernel_rfl) ?_) | exact rt1 e | fail) <;> (refine af1 e ?_; (repeat intro K hK); refine wr ?_))) : G := t c d e
def cpA (s c : Int) : CpuD := ⟨fun _ => 0, 0, fun i => if i = 0 then s else if i = 3 then c else 0⟩
theorem mk_mem (s c n : Int) : (mk s c n).mem = mem0 := rfl
theorem mem0_g : (ints .u32 mem0)[0]?.getD [] = [uv 0] := by kernel_rfl
theorem zTf (h : 0 < (ints .u32 mem0).length) : (ints .u32 mem0)[0]'h = [uv 0] := by kernel_rfl
theorem pg0 : pagesD mem0 = 8 := by kernel_rfl
theorem zAN : IntKind.u32.bits = 32 := rfl
theorem zCV : zAD Tryz.prog 320 [iv 8] (uv 255) := by
 refine sX Tryz.func320 Tryz.ntmps320 ?_;(repeat intro K hK);refine wr ?_
 (refine au1 (kX4 @iand.eq_1 @ior.eq_1 @zAQ.eq_1 @zAN) ?_; (repeat intro K hK); refine wr ?_)
 repeat' ((first | (refine zAA rfl (fun h => ?_) (fun h => ?_) <;> (first | (simp [iand, ior, zAQ, zAN] at h; done) | (simp [iand, ior, zAQ, zAN] at h) | skip) <;> (first | (exfalso; omega) | skip)) | (refine zAB ?_; simp [iand, ior, zAQ, zAN]; (first | done | decide); done) | (refine zAI ?_; refine zAB ?_; simp [iand, ior, zAQ, zAN]; (first | done | decide); done) | fail) <;> (refine au1 (kX4 @iand.eq_1 @ior.eq_1 @zAQ.eq_1 @zAN) ?_; (repeat intro K hK); refine wr ?_))
theorem zEI : zAD Tryz.prog 320 [iv 4] (uv 15) := by
 refine sX Tryz.func320 Tryz.ntmps320 ?_;(repeat intro K hK);refine wr ?_
 (refine au1 (kX4 @iand.eq_1 @ior.eq_1 @zAQ.eq_1 @zAN) ?_; (repeat intro K hK); refine wr ?_)
 repeat' ((first | (refine zAA rfl (fun h => ?_) (fun h => ?_) <;> (first | (simp [iand, ior, zAQ, zAN] at h; done) | (simp [iand, ior, zAQ, zAN] at h) | skip) <;> (first | (exfalso; omega) | skip)) | (refine zAB ?_; simp [iand, ior, zAQ, zAN]; (first | done | decide); done) | (refine zAI ?_; refine zAB ?_; simp [iand, ior, zAQ, zAN]; (first | done | decide); done) | fail) <;> (refine au1 (kX4 @iand.eq_1 @ior.eq_1 @zAQ.eq_1 @zAN) ?_; (repeat intro K hK); refine wr ?_))
theorem zOW : zAD Tryz.prog 293 [uv 0, iv 24, iv 8] (uv 0) := by
 refine sX Tryz.func293 Tryz.ntmps293 ?_;(repeat intro K hK);refine wr ?_
 (refine au1 (kX4 @iand.eq_1 @ior.eq_1 @zAQ.eq_1 @zAN) ?_; (repeat intro K hK); refine wr ?_)
 repeat' ((first | (refine zAA rfl (fun h => ?_) (fun h => ?_) <;> (first | (simp [iand, ior, zAQ, zAN] at h; done) | (simp [iand, ior, zAQ, zAN] at h) | skip) <;> (first | (exfalso; omega) | skip)) | refine cc1 (zCV) (kX4 @iand.eq_1 @ior.eq_1 @zAQ.eq_1 @zAN) ?_ | (refine zAB ?_; simp [iand, ior, zAQ, zAN]; (first | done | decide); done) | (refine zAI ?_; refine zAB ?_; simp [iand, ior, zAQ, zAN]; (first | done | decide); done) | fail) <;> (refine au1 (kX4 @iand.eq_1 @ior.eq_1 @zAQ.eq_1 @zAN) ?_; (repeat intro K hK); refine wr ?_))
theorem zD4 : zAD Tryz.prog 293 [uv 0, iv 20, iv 4] (uv 0) := by
 refine sX Tryz.func293 Tryz.ntmps293 ?_;(repeat intro K hK);refine wr ?_
 (refine au1 (kX4 @iand.eq_1 @ior.eq_1 @zAQ.eq_1 @zAN) ?_; (repeat intro K hK); refine wr ?_)
 repeat' ((first | (refine zAA rfl (fun h => ?_) (fun h => ?_) <;> (first | (simp [iand, ior, zAQ, zAN] at h; done) | (simp [iand, ior, zAQ, zAN] at h) | skip) <;> (first | (exfalso; omega) | skip)) | refine cc1 (zEI) (kX4 @iand.eq_1 @ior.eq_1 @zAQ.eq_1 @zAN) ?_ | (refine zAB ?_; simp [iand, ior, zAQ, zAN]; (first | done | decide); done) | (refine zAI ?_; refine zAB ?_; simp [iand, ior, zAQ, zAN]; (first | done | decide); done) | fail) <;> (refine au1 (kX4 @iand.eq_1 @ior.eq_1 @zAQ.eq_1 @zAN) ?_; (repeat intro K hK); refine wr ?_))
theorem zNk : zAD Tryz.prog 293 [uv 0, iv 16, iv 4] (uv 0) := by
 refine sX Tryz.func293 Tryz.ntmps293 ?_;(repeat intro K hK);refine wr ?_
 (refine au1 (kX4 @iand.eq_1 @ior.eq_1 @zAQ.eq_1 @zAN) ?_; (repeat intro K hK); refine wr ?_)
 repeat' ((first | (refine zAA rfl (fun h => ?_) (fun h => ?_) <;> (first | (simp [iand, ior, zAQ, zAN] at h; done) | (simp [iand, ior, zAQ, zAN] at h) | skip) <;> (first | (exfalso; omega) | skip)) | refine cc1 (zEI) (kX4 @iand.eq_1 @ior.eq_1 @zAQ.eq_1 @zAN) ?_ | (refine zAB ?_; simp [iand, ior, zAQ, zAN]; (first | done | decide); done) | (refine zAI ?_; refine zAB ?_; simp [iand, ior, zAQ, zAN]; (first | done | decide); done) | fail) <;> (refine au1 (kX4 @iand.eq_1 @ior.eq_1 @zAQ.eq_1 @zAN) ?_; (repeat intro K hK); refine wr ?_))
abbrev useV0 : V := .st [.bool false, .bool false, .bool false, .int .i32 0, .int .i32 0]
theorem zKl : zAD Tryz.prog 294 [iv 0] (.tup [useV0, .bool false]) := by
 refine sZ Tryz.func294 Tryz.ntmps294 ?_
 exact wx trivial trivial
abbrev instV0 : V := .st [iv 0, iv 0, iv 0, iv 0, .int .i32 0]
theorem decode_ok : zAD Tryz.prog 230 [uv 0] (.tup [instV0, .bool false]) := by
 refine sZ Tryz.func230 Tryz.ntmps230 ?_
 exact wx (qX4 (zOW) (zD4) (zNk) (zKl)) trivial
theorem zNW : zAD Tryz.prog 319 [memV mem0, uv 0, iv 4] (.bool true) := by
 refine sZ Tryz.func319 Tryz.ntmps319 ?_
 exact wx1 (qX1 (zBS mem0)) trivial @pg0
theorem zHT : zAD Tryz.prog 292 [memV mem0, uv 0, iv 4] (.tup [uv 0, .bool true]) := by
 refine sZ Tryz.func292 Tryz.ntmps292 ?_
 exact wx1 (qX1 (zNW)) trivial (kX3 @mem0_g @zTf @zCU)
theorem zKi : zAD Tryz.prog 316 [iv 1] (.tup [iv 4, .bool true]) := by
 refine sZ Tryz.func316 Tryz.ntmps316 ?_
 exact wx trivial trivial
theorem zLT : zAD Tryz.prog 290 [uv 1, uv 1, uv 8] (uv 9) := by
 refine sX Tryz.func290 Tryz.ntmps290 ?_;(repeat intro K hK);refine wr ?_
 (refine au1 (kX4 @iand.eq_1 @ior.eq_1 @zAQ.eq_1 @zAN) ?_; (repeat intro K hK); refine wr ?_)
 repeat' ((first | (refine zAA rfl (fun h => ?_) (fun h => ?_) <;> (first | (simp [iand, ior, zAQ, zAN] at h; done) | (simp [iand, ior, zAQ, zAN] at h) | skip) <;> (first | (exfalso; omega) | skip)) | (refine zAB ?_; simp [iand, ior, zAQ, zAN]; (first | done | decide); done) | (refine zAI ?_; refine zAB ?_; simp [iand, ior, zAQ, zAN]; (first | done | decide); done) | fail) <;> (refine au1 (kX4 @iand.eq_1 @ior.eq_1 @zAQ.eq_1 @zAN) ?_; (repeat intro K hK); refine wr ?_))
theorem zLL : zAD Tryz.prog 290 [uv 9, uv 2, uv 16] (uv 9) := by
 refine sX Tryz.func290 Tryz.ntmps290 ?_;(repeat intro K hK);refine wr ?_
 (refine au1 (kX4 @iand.eq_1 @ior.eq_1 @zAQ.eq_1 @zAN) ?_; (repeat intro K hK); refine wr ?_)
 repeat' ((first | (refine zAA rfl (fun h => ?_) (fun h => ?_) <;> (first | (simp [iand, ior, zAQ, zAN] at h; done) | (simp [iand, ior, zAQ, zAN] at h) | skip) <;> (first | (exfalso; omega) | skip)) | (refine zAB ?_; simp [iand, ior, zAQ, zAN]; (first | done | decide); done) | (refine zAI ?_; refine zAB ?_; simp [iand, ior, zAQ, zAN]; (first | done | decide); done) | fail) <;> (refine au1 (kX4 @iand.eq_1 @ior.eq_1 @zAQ.eq_1 @zAN) ?_; (repeat intro K hK); refine wr ?_))
theorem zLI : zAD Tryz.prog 290 [uv 9, uv 1, uv 8] (uv 9) := by
 refine sX Tryz.func290 Tryz.ntmps290 ?_;(repeat intro K hK);refine wr ?_
 (refine au1 (kX4 @iand.eq_1 @ior.eq_1 @zAQ.eq_1 @zAN) ?_; (repeat intro K hK); refine wr ?_)
 repeat' ((first | (refine zAA rfl (fun h => ?_) (fun h => ?_) <;> (first | (simp [iand, ior, zAQ, zAN] at h; done) | (simp [iand, ior, zAQ, zAN] at h) | skip) <;> (first | (exfalso; omega) | skip)) | (refine zAB ?_; simp [iand, ior, zAQ, zAN]; (first | done | decide); done) | (refine zAI ?_; refine zAB ?_; simp [iand, ior, zAQ, zAN]; (first | done | decide); done) | fail) <;> (refine au1 (kX4 @iand.eq_1 @ior.eq_1 @zAQ.eq_1 @zAN) ?_; (repeat intro K hK); refine wr ?_))
theorem zMY : zAD Tryz.prog 232 [.st (cpA 1 0).row] (.bool true) := by
 refine sX Tryz.func232 Tryz.ntmps232 ?_;(repeat intro K hK);refine wr ?_
 (refine au1 (kX5 @cpA.eq_1 @iand.eq_1 @ior.eq_1 @zAQ.eq_1 @zAN) ?_; (repeat intro K hK); refine wr ?_)
 repeat' ((first | (refine zAA rfl (fun h => ?_) (fun h => ?_) <;> (first | (simp [cpA, iand, ior, zAQ, zAN] at h; done) | (simp [cpA, iand, ior, zAQ, zAN] at h) | skip) <;> (first | (exfalso; omega) | skip)) | (refine zAB ?_; simp [cpA, iand, ior, zAQ, zAN]; (first | done | decide); done) | (refine zAI ?_; refine zAB ?_; simp [cpA, iand, ior, zAQ, zAN]; (first | done | decide); done) | fail) <;> (refine au1 (kX5 @cpA.eq_1 @iand.eq_1 @ior.eq_1 @zAQ.eq_1 @zAN) ?_; (repeat intro K hK); refine wr ?_))
theorem zQi : zAD Tryz.prog 228 [.st (cpA 1 0).row, iv 1, uv 0] (.st (cpA 9 1).row) := by
 refine sX Tryz.func228 Tryz.ntmps228 ?_;(repeat intro K hK);refine wr ?_
 (refine au1 (kX5 @cpA.eq_1 @iand.eq_1 @ior.eq_1 @zAQ.eq_1 @zAN) ?_; (repeat intro K hK); refine wr ?_)
 repeat' ((first | (refine zAA rfl (fun h => ?_) (fun h => ?_) <;> (first | (simp [cpA, iand, ior, zAQ, zAN] at h; done) | (simp [cpA, iand, ior, zAQ, zAN] at h) | skip) <;> (first | (exfalso; omega) | skip)) | refine cc1 (zLT) (kX5 @cpA.eq_1 @iand.eq_1 @ior.eq_1 @zAQ.eq_1 @zAN) ?_ | refine cc1 (zLL) (kX5 @cpA.eq_1 @iand.eq_1 @ior.eq_1 @zAQ.eq_1 @zAN) ?_ | refine cc1 (zLI) (kX5 @cpA.eq_1 @iand.eq_1 @ior.eq_1 @zAQ.eq_1 @zAN) ?_ | (refine zAB ?_; simp [cpA, iand, ior, zAQ, zAN]; (first | done | decide); done) | (refine zAI ?_; refine zAB ?_; simp [cpA, iand, ior, zAQ, zAN]; (first | done | decide); done) | fail) <;> (refine au1 (kX5 @cpA.eq_1 @iand.eq_1 @ior.eq_1 @zAQ.eq_1 @zAN) ?_; (repeat intro K hK); refine wr ?_))
theorem zJi : zAD Tryz.prog 291 [.st (cpA 1 0).row, memV mem0, uv 0, iv 4, iv 1] (.tup [uv 0, memV mem0, iv 0]) := by
 refine sZ Tryz.func291 Tryz.ntmps291 ?_
 exact zK4 (qX4 (zKi) (zMY) (zHT) (zBQ (ints .u32 mem0) false 1 (.inl rfl) (by rw [zCU]; decide))) trivial (kX5 @cpA.eq_1 @iand.eq_1 @ior.eq_1 @zAQ.eq_1 @zAN)
theorem zNq : zAD Tryz.prog 229 [.st (cpA 1 0).row, memV mem0] (.tup [uv 0, memV mem0, iv 0]) := by
 refine sZ Tryz.func229 Tryz.ntmps229 ?_
 exact wx1 (qX2 (zJi) (zHT)) trivial (kX5 @cpA.eq_1 @iand.eq_1 @ior.eq_1 @zAQ.eq_1 @zAN)
theorem zLO : zAD Tryz.prog 173 [.st (cpA 1 0).row, memV mem0] (.tup [.st (cpA 9 1).row, memV mem0, .st [iv 0, iv 0, iv 0, uv 0]]) := by
 refine sZ Tryz.func173 Tryz.ntmps173 ?_
 exact zK2 (qX3 (zNq) (decode_ok) (zQi)) trivial (kX5 @cpA.eq_1 @iand.eq_1 @ior.eq_1 @zAQ.eq_1 @zAN)
theorem zMd : zAD Tryz.prog 232 [.st (cpA 9 1).row] (.bool true) := by
 refine sX Tryz.func232 Tryz.ntmps232 ?_;(repeat intro K hK);refine wr ?_
 (refine au1 (kX5 @cpA.eq_1 @iand.eq_1 @ior.eq_1 @zAQ.eq_1 @zAN) ?_; (repeat intro K hK); refine wr ?_)
 repeat' ((first | (refine zAA rfl (fun h => ?_) (fun h => ?_) <;> (first | (simp [cpA, iand, ior, zAQ, zAN] at h; done) | (simp [cpA, iand, ior, zAQ, zAN] at h) | skip) <;> (first | (exfalso; omega) | skip)) | (refine zAB ?_; simp [cpA, iand, ior, zAQ, zAN]; (first | done | decide); done) | (refine zAI ?_; refine zAB ?_; simp [cpA, iand, ior, zAQ, zAN]; (first | done | decide); done) | fail) <;> (refine au1 (kX5 @cpA.eq_1 @iand.eq_1 @ior.eq_1 @zAQ.eq_1 @zAN) ?_; (repeat intro K hK); refine wr ?_))
theorem zQO : zAD Tryz.prog 228 [.st (cpA 9 1).row, iv 1, uv 0] (.st (cpA 9 1).row) := by
 refine sX Tryz.func228 Tryz.ntmps228 ?_;(repeat intro K hK);refine wr ?_
 (refine au1 (kX5 @cpA.eq_1 @iand.eq_1 @ior.eq_1 @zAQ.eq_1 @zAN) ?_; (repeat intro K hK); refine wr ?_)
 repeat' ((first | (refine zAA rfl (fun h => ?_) (fun h => ?_) <;> (first | (simp [cpA, iand, ior, zAQ, zAN] at h; done) | (simp [cpA, iand, ior, zAQ, zAN] at h) | skip) <;> (first | (exfalso; omega) | skip)) | refine cc1 (zLT) (kX5 @cpA.eq_1 @iand.eq_1 @ior.eq_1 @zAQ.eq_1 @zAN) ?_ | refine cc1 (zLL) (kX5 @cpA.eq_1 @iand.eq_1 @ior.eq_1 @zAQ.eq_1 @zAN) ?_ | refine cc1 (zLI) (kX5 @cpA.eq_1 @iand.eq_1 @ior.eq_1 @zAQ.eq_1 @zAN) ?_ | (refine zAB ?_; simp [cpA, iand, ior, zAQ, zAN]; (first | done | decide); done) | (refine zAI ?_; refine zAB ?_; simp [cpA, iand, ior, zAQ, zAN]; (first | done | decide); done) | fail) <;> (refine au1 (kX5 @cpA.eq_1 @iand.eq_1 @ior.eq_1 @zAQ.eq_1 @zAN) ?_; (repeat intro K hK); refine wr ?_))
theorem zJS : zAD Tryz.prog 291 [.st (cpA 9 1).row, memV mem0, uv 0, iv 4, iv 1] (.tup [uv 0, memV mem0, iv 0]) := by
 refine sZ Tryz.func291 Tryz.ntmps291 ?_
 exact zK4 (qX4 (zKi) (zMd) (zHT) (zBQ (ints .u32 mem0) false 1 (.inl rfl) (by rw [zCU]; decide))) trivial (kX5 @cpA.eq_1 @iand.eq_1 @ior.eq_1 @zAQ.eq_1 @zAN)
theorem zNa : zAD Tryz.prog 229 [.st (cpA 9 1).row, memV mem0] (.tup [uv 0, memV mem0, iv 0]) := by
 refine sZ Tryz.func229 Tryz.ntmps229 ?_
 exact wx1 (qX2 (zJS) (zHT)) trivial (kX5 @cpA.eq_1 @iand.eq_1 @ior.eq_1 @zAQ.eq_1 @zAN)
theorem zFR : zAD Tryz.prog 173 [.st (cpA 9 1).row, memV mem0] (.tup [.st (cpA 9 1).row, memV mem0, .st [iv 0, iv 0, iv 0, uv 0]]) := by
 refine sZ Tryz.func173 Tryz.ntmps173 ?_
 exact zK2 (qX3 (zNa) (decode_ok) (zQO)) trivial (kX5 @cpA.eq_1 @iand.eq_1 @ior.eq_1 @zAQ.eq_1 @zAN)
theorem zN3 (k : Int) : zAD Tryz.prog 111 [.st zTim.row, uv k] (.bool false) := by
 refine sZ Tryz.func111 Tryz.ntmps111 ?_
 exact wx trivial trivial
theorem zJU : zAD Tryz.prog 107 [.st (mk 1 0 0).row] (.bool true) := by
 have h := zEu (mk 1 0 0) (by decide) (by decide)
 rwa [show mayD (mk 1 0 0) = true by kernel_rfl] at h
theorem zHv : zAD Tryz.prog 112 [.st (mk 1 0 0).row] (.bool false) := by
 refine sZ Tryz.func112 Tryz.ntmps112 ?_
 refine aum1 @mk.eq_1 ?_;intros;refine wr ?_
 exact wx1 trivial trivial @mk.eq_1
theorem zKp : zAD Tryz.prog 171 [.st (mk 1 0 0).row] (.bool true) := by
 refine sZ Tryz.func171 Tryz.ntmps171 ?_
 exact wx1 (qX2 (zJU) (zHv)) trivial @mk.eq_1
theorem zIB : zAD Tryz.prog 172 [.st (mk 1 0 0).row] (.st (mk 1 0 0).row) := by
 refine sZ Tryz.func172 Tryz.ntmps172 ?_
 exact wx1 trivial trivial (kX5 @mk.eq_1 @iand.eq_1 @ior.eq_1 @zAQ.eq_1 @zAN)
theorem zIV : zAD Tryz.prog 113 [.st (mk 1 0 0).row] (.bool false) := by
 refine sZ Tryz.func113 Tryz.ntmps113 ?_
 exact wx1 (qX3 (zKp) (zIB) (zLO)) trivial (kX2 @mk.eq_1 @cpA.eq_1)
theorem zKI (k : Int) : zAD Tryz.prog 114 [.st (mk 1 0 0).row, uv k] (.tup [.st (mk 9 1 1).row, .sl 4 false []]) := by
 refine sZ Tryz.func114 Tryz.ntmps114 ?_
 exact wx1 (qX4 (zBQ (ints .u32 mem0) false 1 (.inl rfl) (by rw [zCU]; decide)) (zKp) (zIB) (zLO)) trivial (kX2 @mk.eq_1 @cpA.eq_1)
theorem zS0 : zAD Tryz.prog 107 [.st (mk 9 1 1).row] (.bool true) := by
 have h := zEu (mk 9 1 1) (by decide) (by decide)
 rwa [show mayD (mk 9 1 1) = true by kernel_rfl] at h
theorem zHc : zAD Tryz.prog 112 [.st (mk 9 1 1).row] (.bool false) := by
 refine sZ Tryz.func112 Tryz.ntmps112 ?_
 refine aum1 @mk.eq_1 ?_;intros;refine wr ?_
 exact wx1 trivial trivial @mk.eq_1
theorem zKV : zAD Tryz.prog 171 [.st (mk 9 1 1).row] (.bool true) := by
 refine sZ Tryz.func171 Tryz.ntmps171 ?_
 exact wx1 (qX2 (zS0) (zHc)) trivial @mk.eq_1
theorem zIS : zAD Tryz.prog 172 [.st (mk 9 1 1).row] (.st (mk 9 1 1).row) := by
 refine sZ Tryz.func172 Tryz.ntmps172 ?_
 exact wx1 trivial trivial (kX5 @mk.eq_1 @iand.eq_1 @ior.eq_1 @zAQ.eq_1 @zAN)
theorem zIr : zAD Tryz.prog 113 [.st (mk 9 1 1).row] (.bool false) := by
 refine sZ Tryz.func113 Tryz.ntmps113 ?_
 exact wx1 (qX3 (zKV) (zIS) (zFR)) trivial (kX2 @mk.eq_1 @cpA.eq_1)
theorem zK6 (k : Int) : zAD Tryz.prog 114 [.st (mk 9 1 1).row, uv k] (.tup [.st (mk 9 1 2).row, .sl 4 false []]) := by
 refine sZ Tryz.func114 Tryz.ntmps114 ?_
 exact wx1 (qX4 (zBQ (ints .u32 mem0) false 1 (.inl rfl) (by rw [zCU]; decide)) (zKV) (zIS) (zFR)) trivial (kX2 @mk.eq_1 @cpA.eq_1)
theorem zSC : zAD Tryz.prog 107 [.st (mk 9 1 2).row] (.bool true) := by
 have h := zEu (mk 9 1 2) (by decide) (by decide)
 rwa [show mayD (mk 9 1 2) = true by kernel_rfl] at h
theorem zHr : zAD Tryz.prog 112 [.st (mk 9 1 2).row] (.bool false) := by
 refine sZ Tryz.func112 Tryz.ntmps112 ?_
 refine aum1 @mk.eq_1 ?_;intros;refine wr ?_
 exact wx1 trivial trivial @mk.eq_1
theorem zKm : zAD Tryz.prog 171 [.st (mk 9 1 2).row] (.bool true) := by
 refine sZ Tryz.func171 Tryz.ntmps171 ?_
 exact wx1 (qX2 (zSC) (zHr)) trivial @mk.eq_1
theorem zH1 : zAD Tryz.prog 172 [.st (mk 9 1 2).row] (.st (mk 9 1 2).row) := by
 refine sZ Tryz.func172 Tryz.ntmps172 ?_
 exact wx1 trivial trivial (kX5 @mk.eq_1 @iand.eq_1 @ior.eq_1 @zAQ.eq_1 @zAN)
theorem zIa : zAD Tryz.prog 113 [.st (mk 9 1 2).row] (.bool false) := by
 refine sZ Tryz.func113 Tryz.ntmps113 ?_
 exact wx1 (qX3 (zKm) (zH1) (zFR)) trivial (kX2 @mk.eq_1 @cpA.eq_1)
theorem zLQ (k : Int) : zAD Tryz.prog 114 [.st (mk 9 1 2).row, uv k] (.tup [.st (mk 9 1 3).row, .sl 4 false []]) := by
 refine sZ Tryz.func114 Tryz.ntmps114 ?_
 exact wx1 (qX4 (zBQ (ints .u32 mem0) false 1 (.inl rfl) (by rw [zCU]; decide)) (zKm) (zH1) (zFR)) trivial (kX2 @mk.eq_1 @cpA.eq_1)
theorem lenM (s c n : Int) : (mk s c n).mem.length ≤ 100000 := by rw [mk_mem, zQA]; decide
abbrev recR (s c n k : Int) : RecD := ⟨mk s c n, k, [], []⟩
theorem zNT : zAD Tryz.prog 70 [.st (recR 1 0 0 0).row, iv 3, uv 0] (.tup [.st (recR 9 1 3 3).row, .sl 4 false []]) := by
 refine sX Tryz.func70 Tryz.ntmps70 ?_;(repeat intro K hK);refine wr ?_
 (refine au1 @mk.eq_1 ?_; (repeat intro K hK); refine wr ?_)
 repeat' ((first | (refine zAA rfl (fun h => ?_) (fun h => ?_) <;> (first | (simp [mk] at h; done) | (simp [mk] at h) | skip) <;> (first | (exfalso; omega) | skip)) | refine cc1 (zEC (recR 1 0 0 0) (lenM _ _ _) (by simp) (by simp)) @mk.eq_1 ?_ | refine cc1 (zJU) @mk.eq_1 ?_ | refine cc1 (zN3 _) @mk.eq_1 ?_ | refine cc1 (zHv) @mk.eq_1 ?_ | refine cc1 (zHc) @mk.eq_1 ?_ | refine cc1 (zHr) @mk.eq_1 ?_ | refine cc1 (zIV) @mk.eq_1 ?_ | refine cc1 (zIr) @mk.eq_1 ?_ | refine cc1 (zIa) @mk.eq_1 ?_ | refine cc1 (zKI _) @mk.eq_1 ?_ | refine cc1 (zK6 _) @mk.eq_1 ?_ | refine cc1 (zLQ _) @mk.eq_1 ?_ | refine zAK 5 ?_ | refine zAF fun K hK => ?_ | exact rt1 @mk.eq_1 | fail) <;> (refine au1 @mk.eq_1 ?_; (repeat intro K hK); refine wr ?_))
theorem zKx (a b : Int) : zAD Tryz.prog 115 [.st [.sl 4 false [], lv a, lv b]] (.bool true) := by
 refine sX Tryz.func115 Tryz.ntmps115 ?_;(repeat intro K hK);refine wr ?_
 (refine au ?_; (repeat intro K hK); refine wr ?_)
 repeat' ((first | (refine zAA rfl (fun h => ?_) (fun h => ?_) <;> (first | (simp at h; done) | (simp at h) | skip) <;> (first | (exfalso; omega) | skip)) | refine zAK 1 ?_ | refine zAF fun K hK => ?_ | exact rt | fail) <;> (refine au ?_; (repeat intro K hK); refine wr ?_))
theorem zKG (a b : Int) : zAD Tryz.prog 71 [.st [.sl 4 false [], lv a, lv b], .sl 4 false []] (.tup [.st [.sl 4 false [], lv a, lv b], .bool true]) := by
 refine sX Tryz.func71 Tryz.ntmps71 ?_;(repeat intro K hK);refine wr ?_
 (refine au ?_; (repeat intro K hK); refine wr ?_)
 repeat' ((first | (refine zAA rfl (fun h => ?_) (fun h => ?_) <;> (first | (simp at h; done) | (simp at h) | skip) <;> (first | (exfalso; omega) | skip)) | refine cc (zGs [] false 4 (.inl rfl) (by simp)) ?_ | refine cc (zKx a b) ?_ | refine zAK 1 ?_ | refine zAF fun K hK => ?_ | exact rt | fail) <;> (refine au ?_; (repeat intro K hK); refine wr ?_))
theorem zSB (a b k : Int) (hka : k ≤ a) : zAD Tryz.prog 77 [.st [.sl 4 false [], lv a, lv b], lv k] (.tup [.st [.sl 4 false [], lv a, lv b], .sl 5 false []]) := by
 refine sX Tryz.func77 Tryz.ntmps77 ?_;(repeat intro K hK);refine wr ?_
 (refine au1 @hka ?_; (repeat intro K hK); refine wr ?_)
 repeat' ((first | (refine zAA rfl (fun h => ?_) (fun h => ?_) <;> (first | (simp [hka] at h; done) | (simp [hka] at h) | skip) <;> (first | (exfalso; omega) | skip)) | refine cc1 (zGs [] false 4 (.inl rfl) (by simp)) @hka ?_ | refine cc1 (zKx a b) @hka ?_ | refine zAK 1 ?_ | refine zAF fun K hK => ?_ | exact rt1 @hka | fail) <;> (refine au1 @hka ?_; (repeat intro K hK); refine wr ?_))
theorem zEf (r : RepD) : zAD Tryz.prog 20 [.st r.row] (.bool (decide (r.role = 1) || decide (r.role = 3))) := by
 refine sZ Tryz.func20 Tryz.ntmps20 ?_
 exact wx trivial trivial
theorem zJ9 (r : RepD) : zAD Tryz.prog 72 [.st r.row] (.bool ((decide (r.role = 1) || decide (r.role = 3)) && decide (r.rec_.m.dk.state = 1))) := by
 refine sZ Tryz.func72 Tryz.ntmps72 ?_
 exact wx (qX1 (zEf r)) trivial
theorem zTC (s c n k : Int) : zAD Tryz.prog 73 [.st (recR s c n k).row] (.tup [.st (recR s c n k).row, .sl 4 false [], lv n]) := by
 refine sZ Tryz.func73 Tryz.ntmps73 ?_
 (refine af1 @mk.eq_1 ?_; (repeat intro K hK); refine wr ?_)
 repeat' ((first | (refine zAA rfl (fun h => ?_) (fun h => ?_) <;> (first | (simp [mk] at h; done) | (simp [mk] at h) | skip) <;> (first | (exfalso; omega) | skip)) | refine cc1 (zEC (recR s c n k) (lenM _ _ _) (by simp) (by simp)) @mk.eq_1 ?_ | (refine zAE ([0, 1, 2, 3, 4, 5, 6, 7] : List Nat) ([[], [], [], [2], [2, 3], [0], [0, 1, 5], [0, 1, 2, 3, 4, 5, 6]] : List (List Nat)) ([(7, ([[], [], [], [2], [2, 3], [0], [0, 1, 5]], [(4, 5)])), (1, ([], []))] : List (Nat × List (List Nat) × List (Nat × Nat))) (by kernel_rfl) (by kernel_rfl) (by kernel_rfl) ?_) | exact rt1 @mk.eq_1 | fail) <;> (refine af1 @mk.eq_1 ?_; (repeat intro K hK); refine wr ?_))
end Go.Proofs.YtjmhjieflbnehaaGreat.Fx
end
