/- Replicas, the fixed run: the machine. -/
import Derived.Test.YtpifpdjefbehmaaGreatRi
namespace Go.Proofs.YtpifpdjefbehmaaGreat
open Go.Ab Go.RowKit
set_option linter.unusedSimpArgs false
set_option maxRecDepth 100000
set_option maxHeartbeats 8000000
@[simp] theorem wI64 {n : Int} (h1 : -9223372036854775808 ≤ n) (h2 : n ≤ 9223372036854775807) : IntKind.i64.wrap n = n := wrap_i64_in h1 h2
@[simp] theorem wU64 {n : Int} (h1 : 0 ≤ n) (h2 : n ≤ 18446744073709551615) : IntKind.u64.wrap n = n := by rw [IntKind.wrap_u64]; omega
@[simp] theorem wU32 {n : Int} (h1 : 0 ≤ n) (h2 : n ≤ 4294967295) : IntKind.u32.wrap n = n := by rw [IntKind.wrap_u32]; omega
@[simp] theorem wU8 {n : Int} (h1 : 0 ≤ n) (h2 : n ≤ 255) : IntKind.u8.wrap n = n := by rw [IntKind.wrap_u8]; omega
/-- the memory of the fixed machine -/
def mem0 : List Int := List.replicate 256 0
theorem mem0_len : mem0.length = 256 := by kernel_rfl
theorem mem0_row : List.replicate 256 [V.int .u32 0] = ints .u32 mem0 := by kernel_rfl
theorem mem0_spl : spl (ints .u32 mem0) 0 [[V.int .u32 0]] = ints .u32 mem0 := by kernel_rfl
theorem mem0_set : (ints .u32 mem0).set 0 [V.int .u32 0] = ints .u32 mem0 := by kernel_rfl
theorem mem0_l : (ints .u32 mem0).length = 256 := by kernel_rfl
/-- the fixed machine: its status, its cause, its count -/
def mk (s c n : Int) : MchD := { zMch with cpu := ⟨fun _ => 0, 0, fun i => if i = 0 then s else if i = 3 then c else 0⟩, mem := mem0, dk := { zDsk with blocks := 4 }, count := n }
theorem round_ok : Meets Tryz.prog 54 [iv 2, iv 3] (iv 2) := by
  refine Meets.of Tryz.func54 rfl (by kernel_rfl) rfl ?_
  simp only [Tryz.ntmps54, St.start, argT]
  refine au ?_
  repeat intro K hK
  refine wr ?_
  (refine au ?_; (repeat intro K hK); refine wr ?_)
  repeat' ((first | (refine awp_cond rfl (fun h => ?_) (fun h => ?_) <;> (first | (simp at h; done) | (simp at h) | skip) <;> (first | (exfalso; omega) | skip)) | exact rt | fail) <;> (refine au ?_; (repeat intro K hK); refine wr ?_))
theorem code_ok : Meets Tryz.prog 56 [.sl 1 false [[iv 0]]] (.new 22 1 [[uv 0]]) := by
  refine Meets.of Tryz.func56 rfl (by kernel_rfl) rfl ?_
  simp only [Tryz.ntmps56, St.start, argT]
  refine au ?_
  repeat intro K hK
  refine wr ?_
  refine awp_nilOwn 3 22 1 (by decide) rfl ?_
  obtain ⟨I, hI⟩ : ∃ I : Nat → St → Prop, I = (fun kk ss => ∃ (i : Nat) , i ≤ 1 ∧ kk = 1 - i ∧ (True) ∧ ss = ⟨42, [(4, .int .i64 i), (3, .own 0), (0, .sl 1 false [[iv 0]])], 1, [(0, some ⟨22, 1, false, false, List.replicate i [uv 0]⟩)], 0⟩) := ⟨_, rfl⟩
  refine awp_loopA I (k0 := 1) (st0 := (fun (i : Nat)  => (⟨42, [(4, .int .i64 i), (3, .own 0), (0, .sl 1 false [[iv 0]])], 1, [(0, some ⟨22, 1, false, false, List.replicate i [uv 0]⟩)], 0⟩ : St)) 0 ) (ρ0 := id) ⟨rfl, by simp [leT, ltV, lt1, ren, ren1], by simp [leO, lt1, ren1], by simp, by simp⟩ (by rw [hI]; exact ⟨0, by simp, by simp, trivial, rfl⟩) ?_
  intro kk ss hIk _
  rw [hI] at hIk
  obtain ⟨i, hi, rfl, hx, rfl⟩ := hIk
  refine au ?_
  repeat intro K hK
  refine wr ?_
  refine awp_cond rfl (fun h => ?_) (fun h => ?_)
  · simp at h
    have hi : i = 0 := by omega
    have hg : ([[iv 0]] : List (List V))[i]?.getD [] = [iv 0] := by subst hi; rfl
    refine aum2 @hg @h ?_
    repeat intro K hK
    refine wr ?_
    refine awp_cond rfl (fun _ => ?_) (fun h => by simp at h)
    have hz : IntKind.u32.wrap (iand .i64 0 4294967295) = 0 := by decide
    refine aum4 @hg @h @hz @maxLen.eq_1 ?_
    repeat intro K hK
    refine wr ?_
    refine again_of (1 - (i + 1)) ((fun (i : Nat)  => (⟨42, [(4, .int .i64 i), (3, .own 0), (0, .sl 1 false [[iv 0]])], 1, [(0, some ⟨22, 1, false, false, List.replicate i [uv 0]⟩)], 0⟩ : St)) (i + 1) ) (fun x => if x = 0 then 2 else x) (by omega) (by rw [hI]; exact ⟨i + 1, by omega, rfl, trivial, rfl⟩) ⟨rfl, ?_, ?_, ?_, by simp⟩
    · simp [leT, ltV, lt1, ren, ren1, wrap_i64_in (n := (i : Int) + 1) (by omega) (by omega), List.replicate_succ', hz]
    · simp [leO, lt1, ren1, List.replicate_succ', hz]
    · (simp; try omega)
  · simp at h
    have hi : i = 1 := by omega
    subst hi
    refine au ?_
    repeat intro K hK
    refine wr ?_
    refine awp_ret ?_
    simp
theorem rnew_ok : Meets Tryz.prog 103 [iv 8] (.new 22 1 (ints .u32 mem0)) := by
  refine Meets.of Tryz.func103 rfl (by kernel_rfl) rfl ?_
  simp only [Tryz.ntmps103, St.start, argT]
  refine aum2 @maxLen.eq_1 @mem0_row ?_
  repeat intro K hK
  refine wr ?_
  (refine aum2 @maxLen.eq_1 @mem0_row ?_; (repeat intro K hK); refine wr ?_)
  repeat' ((first | (refine awp_cond rfl (fun h => ?_) (fun h => ?_) <;> (first | (simp [maxLen, mem0_row, -Nat.sub_self] at h; done) | (simp [maxLen, mem0_row, -Nat.sub_self] at h) | skip) <;> (first | (exfalso; omega) | skip)) | exact rtm2 @maxLen.eq_1 @mem0_row | fail) <;> (refine aum2 @maxLen.eq_1 @mem0_row ?_; (repeat intro K hK); refine wr ?_))
theorem reset_ok : Meets Tryz.prog 102 [uv 0] (.st (CpuD.row ⟨fun _ => 0, 0, fun i => if i = 0 then 1 else 0⟩)) := by
  refine Meets.of Tryz.func102 rfl (by kernel_rfl) rfl ?_
  simp only [Tryz.ntmps102, St.start, argT]
  refine au ?_
  repeat intro K hK
  refine wr ?_
  (refine au ?_; (repeat intro K hK); refine wr ?_)
  repeat' ((first | (refine awp_cond rfl (fun h => ?_) (fun h => ?_) <;> (first | (simp at h; done) | (simp at h) | skip) <;> (first | (exfalso; omega) | skip)) | exact rt | fail) <;> (refine au ?_; (repeat intro K hK); refine wr ?_))
theorem mnew_ok : Meets Tryz.prog 57 [iv 8, iv 4, .sl 1 false [[uv 0]]] (.tup [.st (mk 1 0 0).row, .bool true]) := by
  refine Meets.of Tryz.func57 rfl (by kernel_rfl) rfl ?_
  simp only [Tryz.ntmps57, St.start, argT]
  refine au ?_
  repeat intro K hK
  refine wr ?_
  (refine au2 @mem0_l @mem0_spl ?_; (repeat intro K hK); refine wr ?_)
  repeat' ((first | (refine awp_cond rfl (fun h => ?_) (fun h => ?_) <;> (first | (simp [mem0_l, mem0_spl] at h; done) | (simp [mem0_l, mem0_spl] at h) | skip) <;> (first | (exfalso; omega) | skip)) | refine cc2 (reset_ok) @mem0_l @mem0_spl ?_ | refine cc2 (rnew_ok) @mem0_l @mem0_spl ?_ | exact rt2 @mem0_l @mem0_spl | fail) <;> (refine au2 @mem0_l @mem0_spl ?_; (repeat intro K hK); refine wr ?_))
  refine awp_fzA ?_
  refine awp_ret ?_
  simp [mk, mem0_set]
theorem mach_ok : Meets Tryz.prog 31 [iv 2, .sl 1 false [[iv 0]]] (.st (mk 1 0 0).row) := by
  refine Meets.of Tryz.func31 rfl (by kernel_rfl) rfl ?_
  simp only [Tryz.ntmps31, St.start, argT]
  refine au ?_
  repeat intro K hK
  refine wr ?_
  (refine au1 @maxLen.eq_1 ?_; (repeat intro K hK); refine wr ?_)
  repeat' ((first | (refine awp_cond rfl (fun h => ?_) (fun h => ?_) <;> (first | (simp [maxLen] at h; done) | (simp [maxLen] at h) | skip) <;> (first | (exfalso; omega) | skip)) | refine cc1 (round_ok) @maxLen.eq_1 ?_ | refine cc1 (code_ok) @maxLen.eq_1 ?_ | refine cc1 (mnew_ok) @maxLen.eq_1 ?_ | exact rt1 @maxLen.eq_1 | fail) <;> (refine au1 @maxLen.eq_1 ?_; (repeat intro K hK); refine wr ?_))
end Go.Proofs.YtpifpdjefbehmaaGreat
