/- Replicas: SameReplica of a replica and itself. -/
import Derived.Test.YtpifpdjefbehmaaGreatRg
namespace Go.Proofs.YtpifpdjefbehmaaGreat
open Go.Ab Go.RowKit
set_option linter.unusedSimpArgs false
set_option maxRecDepth 100000
set_option maxHeartbeats 8000000
theorem same_ok (m : MchD) (hb : m.mem.length ≤ 100000) : Meets Tryz.prog 15 [.st m.row, .st m.row] (.bool true) := by
  refine Meets.of Tryz.func15 rfl (by kernel_rfl) rfl ?_
  simp only [Tryz.ntmps15, St.start, argT]
  refine au1 @eqCs.eq_1 ?_
  repeat intro K hK
  refine wr ?_
  (refine au1 @eqCs.eq_1 ?_; (repeat intro K hK); refine wr ?_)
  repeat' ((first | (refine awp_cond rfl (fun h => ?_) (fun h => ?_) <;> (first | (simp [eqCs] at h; done) | (simp [eqCs] at h) | skip) <;> (first | (exfalso; omega) | skip)) | refine cc1 (sameW_ok m.mem hb) @eqCs.eq_1 ?_ | exact rt1 @eqCs.eq_1 | fail) <;> (refine au1 @eqCs.eq_1 ?_; (repeat intro K hK); refine wr ?_))
theorem sameEnt_ok : Meets Tryz.prog 30 [.sl 4 false [], .sl 4 false []] (.bool true) := by
  refine Meets.of Tryz.func30 rfl (by kernel_rfl) rfl ?_
  simp only [Tryz.ntmps30, St.start, argT]
  refine au ?_
  repeat intro K hK
  refine wr ?_
  refine awp_cond rfl (fun h => by simp at h) (fun _ => ?_)
  refine au ?_
  repeat intro K hK
  refine wr ?_
  obtain ⟨I, hI⟩ : ∃ I : Nat → St → Prop, I = (fun kk ss => ∃ (i : Nat) , i ≤ 0 ∧ kk = 0 - i ∧ (True) ∧ ss = ⟨26, [(5, .int .i64 i), (0, .sl 4 false []), (1, .sl 4 false [])], 0, [], 0⟩) := ⟨_, rfl⟩
  refine awp_loopA I (k0 := 0) (st0 := (fun (i : Nat)  => (⟨26, [(5, .int .i64 i), (0, .sl 4 false []), (1, .sl 4 false [])], 0, [], 0⟩ : St)) 0 ) (ρ0 := id) ⟨rfl, by simp [leT, ltV, lt1, ren, ren1], by simp [leO, lt1, ren1], by simp, by simp⟩ (by rw [hI]; exact ⟨0, by simp, by simp, trivial, rfl⟩) ?_
  intro kk ss hIk _
  rw [hI] at hIk
  obtain ⟨i, hi, rfl, hx, rfl⟩ := hIk
  have hi0 : i = 0 := by omega
  subst hi0
  refine au ?_
  repeat intro K hK
  refine wr ?_
  refine awp_cond rfl (fun h => by simp at h) (fun _ => ?_)
  refine au ?_
  repeat intro K hK
  refine wr ?_
  refine awp_ret ?_
  simp
theorem sameOut_ok : Meets Tryz.prog 52 [.sl 4 false [], .sl 4 false []] (.bool true) := by
  refine Meets.of Tryz.func52 rfl (by kernel_rfl) rfl ?_
  simp only [Tryz.ntmps52, St.start, argT]
  refine au ?_
  repeat intro K hK
  refine wr ?_
  refine awp_cond rfl (fun h => by simp at h) (fun _ => ?_)
  refine au ?_
  repeat intro K hK
  refine wr ?_
  obtain ⟨I, hI⟩ : ∃ I : Nat → St → Prop, I = (fun kk ss => ∃ (i : Nat) , i ≤ 0 ∧ kk = 0 - i ∧ (True) ∧ ss = ⟨26, [(5, .int .i64 i), (0, .sl 4 false []), (1, .sl 4 false [])], 0, [], 0⟩) := ⟨_, rfl⟩
  refine awp_loopA I (k0 := 0) (st0 := (fun (i : Nat)  => (⟨26, [(5, .int .i64 i), (0, .sl 4 false []), (1, .sl 4 false [])], 0, [], 0⟩ : St)) 0 ) (ρ0 := id) ⟨rfl, by simp [leT, ltV, lt1, ren, ren1], by simp [leO, lt1, ren1], by simp, by simp⟩ (by rw [hI]; exact ⟨0, by simp, by simp, trivial, rfl⟩) ?_
  intro kk ss hIk _
  rw [hI] at hIk
  obtain ⟨i, hi, rfl, hx, rfl⟩ := hIk
  have hi0 : i = 0 := by omega
  subst hi0
  refine au ?_
  repeat intro K hK
  refine wr ?_
  refine awp_cond rfl (fun h => by simp at h) (fun _ => ?_)
  refine au ?_
  repeat intro K hK
  refine wr ?_
  refine awp_ret ?_
  simp
theorem sameSeg_ok : Meets Tryz.prog 53 [.sl 3 false [], .sl 3 false []] (.bool true) := by
  refine Meets.of Tryz.func53 rfl (by kernel_rfl) rfl ?_
  simp only [Tryz.ntmps53, St.start, argT]
  refine au ?_
  repeat intro K hK
  refine wr ?_
  refine awp_cond rfl (fun h => by simp at h) (fun _ => ?_)
  refine au ?_
  repeat intro K hK
  refine wr ?_
  obtain ⟨I, hI⟩ : ∃ I : Nat → St → Prop, I = (fun kk ss => ∃ (i : Nat) , i ≤ 0 ∧ kk = 0 - i ∧ (True) ∧ ss = ⟨55, [(5, .int .i64 i), (0, .sl 3 false []), (1, .sl 3 false [])], 0, [], 0⟩) := ⟨_, rfl⟩
  refine awp_loopA I (k0 := 0) (st0 := (fun (i : Nat)  => (⟨55, [(5, .int .i64 i), (0, .sl 3 false []), (1, .sl 3 false [])], 0, [], 0⟩ : St)) 0 ) (ρ0 := id) ⟨rfl, by simp [leT, ltV, lt1, ren, ren1], by simp [leO, lt1, ren1], by simp, by simp⟩ (by rw [hI]; exact ⟨0, by simp, by simp, trivial, rfl⟩) ?_
  intro kk ss hIk _
  rw [hI] at hIk
  obtain ⟨i, hi, rfl, hx, rfl⟩ := hIk
  have hi0 : i = 0 := by omega
  subst hi0
  refine au ?_
  repeat intro K hK
  refine wr ?_
  refine awp_cond rfl (fun h => by simp at h) (fun _ => ?_)
  refine au ?_
  repeat intro K hK
  refine wr ?_
  refine awp_ret ?_
  simp
theorem sameGate_ok (a b : Int) : Meets Tryz.prog 27 [.st (GateD.row ⟨[], a, b⟩), .st (GateD.row ⟨[], a, b⟩)] (.bool true) := by
  refine Meets.of Tryz.func27 rfl (by kernel_rfl) rfl ?_
  simp only [Tryz.ntmps27, St.start, argT]
  refine au ?_
  repeat intro K hK
  refine wr ?_
  (refine au ?_; (repeat intro K hK); refine wr ?_)
  repeat' ((first | (refine awp_cond rfl (fun h => ?_) (fun h => ?_) <;> (first | (simp at h; done) | (simp at h) | skip) <;> (first | (exfalso; omega) | skip)) | refine cc (sameOut_ok) ?_ | exact rt | fail) <;> (refine au ?_; (repeat intro K hK); refine wr ?_))
theorem sameSnd_ok (a b c : Int) : Meets Tryz.prog 28 [.st (SndD.row ⟨a, b, c, []⟩), .st (SndD.row ⟨a, b, c, []⟩)] (.bool true) := by
  refine Meets.of Tryz.func28 rfl (by kernel_rfl) rfl ?_
  simp only [Tryz.ntmps28, St.start, argT]
  refine au ?_
  repeat intro K hK
  refine wr ?_
  (refine au ?_; (repeat intro K hK); refine wr ?_)
  repeat' ((first | (refine awp_cond rfl (fun h => ?_) (fun h => ?_) <;> (first | (simp at h; done) | (simp at h) | skip) <;> (first | (exfalso; omega) | skip)) | refine cc (sameSeg_ok) ?_ | exact rt | fail) <;> (refine au ?_; (repeat intro K hK); refine wr ?_))
theorem sameRcv_ok (a b : Int) : Meets Tryz.prog 29 [.st (RcvD.row ⟨a, b, []⟩), .st (RcvD.row ⟨a, b, []⟩)] (.bool true) := by
  refine Meets.of Tryz.func29 rfl (by kernel_rfl) rfl ?_
  simp only [Tryz.ntmps29, St.start, argT]
  refine au ?_
  repeat intro K hK
  refine wr ?_
  refine awp_cond rfl (fun h => by simp at h) (fun _ => ?_)
  refine au ?_
  repeat intro K hK
  refine wr ?_
  obtain ⟨I, hI⟩ : ∃ I : Nat → St → Prop, I = (fun kk ss => ∃ (i : Nat) , i ≤ 0 ∧ kk = 0 - i ∧ (True) ∧ ss = ⟨65, [(5, .int .i64 i), (2, .ptr 0 3 0 0), (3, .ptr 1 3 0 0)], 2, [(0, some ⟨56, 3, true, false, [RcvD.row ⟨a, b, []⟩]⟩), (1, some ⟨56, 3, true, false, [RcvD.row ⟨a, b, []⟩]⟩)], 0⟩) := ⟨_, rfl⟩
  refine awp_loopA I (k0 := 0) (st0 := (fun (i : Nat)  => (⟨65, [(5, .int .i64 i), (2, .ptr 0 3 0 0), (3, .ptr 1 3 0 0)], 2, [(0, some ⟨56, 3, true, false, [RcvD.row ⟨a, b, []⟩]⟩), (1, some ⟨56, 3, true, false, [RcvD.row ⟨a, b, []⟩]⟩)], 0⟩ : St)) 0 ) (ρ0 := id) ⟨rfl, by simp [leT, ltV, lt1, ren, ren1], by simp [leO, lt1, ren1], by simp, by simp⟩ (by rw [hI]; exact ⟨0, by simp, by simp, trivial, rfl⟩) ?_
  intro kk ss hIk _
  rw [hI] at hIk
  obtain ⟨i, hi, rfl, hx, rfl⟩ := hIk
  have hi0 : i = 0 := by omega
  subst hi0
  refine au ?_
  repeat intro K hK
  refine wr ?_
  refine awp_cond rfl (fun h => by simp at h) (fun _ => ?_)
  refine au ?_
  repeat intro K hK
  refine wr ?_
  refine awp_ret ?_
  simp
theorem sameRpl_ok (m : MchD) (k c : Int) (hb : m.mem.length ≤ 100000) : Meets Tryz.prog 26 [.st (RplD.row ⟨m, [], k, c⟩), .st (RplD.row ⟨m, [], k, c⟩)] (.bool true) := by
  refine Meets.of Tryz.func26 rfl (by kernel_rfl) rfl ?_
  simp only [Tryz.ntmps26, St.start, argT]
  refine au ?_
  repeat intro K hK
  refine wr ?_
  (refine au ?_; (repeat intro K hK); refine wr ?_)
  repeat' ((first | (refine awp_cond rfl (fun h => ?_) (fun h => ?_) <;> (first | (simp at h; done) | (simp at h) | skip) <;> (first | (exfalso; omega) | skip)) | refine cc (same_ok m hb) ?_ | refine cc (sameEnt_ok) ?_ | exact rt | fail) <;> (refine au ?_; (repeat intro K hK); refine wr ?_))
theorem sameRec_ok (m : MchD) (c : Int) (hb : m.mem.length ≤ 100000) : Meets Tryz.prog 25 [.st (RecD.row ⟨m, c, [], []⟩), .st (RecD.row ⟨m, c, [], []⟩)] (.bool true) := by
  refine Meets.of Tryz.func25 rfl (by kernel_rfl) rfl ?_
  simp only [Tryz.ntmps25, St.start, argT]
  refine au ?_
  repeat intro K hK
  refine wr ?_
  refine cc (same_ok m hb) ?_
  refine au ?_
  repeat intro K hK
  refine wr ?_
  refine cc (sameEnt_ok) ?_
  refine au ?_
  repeat intro K hK
  refine wr ?_
  refine awp_cond rfl (fun h => by simp at h) (fun _ => ?_)
  refine au ?_
  repeat intro K hK
  refine wr ?_
  obtain ⟨I, hI⟩ : ∃ I : Nat → St → Prop, I = (fun kk ss => ∃ (i : Nat) , i ≤ 0 ∧ kk = 0 - i ∧ (True) ∧ ss = ⟨54, [(5, .int .i64 i), (2, .ptr 0 52 0 0), (3, .ptr 1 52 0 0)], 2, [(0, some ⟨45, 52, true, false, [RecD.row ⟨m, c, [], []⟩]⟩), (1, some ⟨45, 52, true, false, [RecD.row ⟨m, c, [], []⟩]⟩)], 0⟩) := ⟨_, rfl⟩
  refine awp_loopA I (k0 := 0) (st0 := (fun (i : Nat)  => (⟨54, [(5, .int .i64 i), (2, .ptr 0 52 0 0), (3, .ptr 1 52 0 0)], 2, [(0, some ⟨45, 52, true, false, [RecD.row ⟨m, c, [], []⟩]⟩), (1, some ⟨45, 52, true, false, [RecD.row ⟨m, c, [], []⟩]⟩)], 0⟩ : St)) 0 ) (ρ0 := id) ⟨rfl, by simp [leT, ltV, lt1, ren, ren1], by simp [leO, lt1, ren1], by simp, by simp⟩ (by rw [hI]; exact ⟨0, by simp, by simp, trivial, rfl⟩) ?_
  intro kk ss hIk _
  rw [hI] at hIk
  obtain ⟨i, hi, rfl, hx, rfl⟩ := hIk
  have hi0 : i = 0 := by omega
  subst hi0
  refine au ?_
  repeat intro K hK
  refine wr ?_
  refine awp_cond rfl (fun h => by simp at h) (fun _ => ?_)
  refine au ?_
  repeat intro K hK
  refine wr ?_
  refine awp_ret ?_
  simp
end Go.Proofs.YtpifpdjefbehmaaGreat
