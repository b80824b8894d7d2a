/- Replicas, the document's side: Primary, Backup; SameReplica of a replica and itself. -/
import Derived.Test.YtpifpdjefbehmaaGreatRf
namespace Go.Proofs.YtpifpdjefbehmaaGreat
open Go.Ab Go.RowKit
set_option linter.unusedSimpArgs false
set_option maxRecDepth 100000
set_option maxHeartbeats 8000000
theorem begun_ok (host : Int) (m : MchD) (gen limit : Int) (h0 : 0 ≤ m.given) (h1 : m.given ≤ 4294967295) : Meets Tryz.prog 20 [iv host, .st m.row, lv gen, iv limit] (freshV host m gen limit) := by
  cases hd : detOk limit with
  | false =>
    have hf : freshOk host m gen limit = false := by simp [freshOk, hd]
    refine Meets.of Tryz.func20 rfl (by kernel_rfl) rfl ?_
    simp only [Tryz.ntmps20, St.start, argT]
    refine au ?_
    repeat intro K hK
    refine wr ?_
    (refine au2 @hd @hf ?_; (repeat intro K hK); refine wr ?_)
    repeat' ((first | (refine awp_cond rfl (fun h => ?_) (fun h => ?_) <;> (first | (simp [hd, hf] at h; done) | (simp [hd, hf] at h) | skip) <;> (first | (exfalso; omega) | skip)) | refine cc2 (rhbNew_ok limit) @hd @hf ?_ | refine cc2 (rmay_ok m h0 h1) @hd @hf ?_ | exact rt2 @hd @hf | fail) <;> (refine au2 @hd @hf ?_; (repeat intro K hK); refine wr ?_))
  | true =>
    refine Meets.of Tryz.func20 rfl (by kernel_rfl) rfl ?_
    simp only [Tryz.ntmps20, St.start, argT]
    refine au ?_
    repeat intro K hK
    refine wr ?_
    (refine au1 @hd ?_; (repeat intro K hK); refine wr ?_)
    repeat' ((first | (refine awp_cond rfl (fun h => ?_) (fun h => ?_) <;> (first | (simp [hd] at h; done) | (simp [hd] at h) | skip) <;> (first | (exfalso; omega) | skip)) | refine cc1 (rhbNew_ok limit) @hd ?_ | refine cc1 (rmay_ok m h0 h1) @hd ?_ | exact rt1 @hd | fail) <;> (refine au1 @hd ?_; (repeat intro K hK); refine wr ?_))
    · rename_i h _
      have hf : freshOk host m gen limit = false := by simp [freshOk, hd]; grind
      refine awp_ret ?_
      simp [hf]
    · rename_i h _
      have hf : freshOk host m gen limit = true := by simp [freshOk, hd]; grind
      refine awp_ret ?_
      simp [hf, freshD]
theorem rprim_ok (host : Int) (m : MchD) (gen limit : Int) (h0 : 0 ≤ m.given) (h1 : m.given ≤ 4294967295) (hm : m.mem.length ≤ 100000) : Meets Tryz.prog 6 [iv host, .st m.row, lv gen, iv limit] (primV host m gen limit) := by
  cases hf : freshOk host m gen limit with
  | false =>
    refine Meets.of Tryz.func6 rfl (by kernel_rfl) rfl ?_
    simp only [Tryz.ntmps6, St.start, argT]
    refine au ?_
    repeat intro K hK
    refine wr ?_
    (refine au1 @hf ?_; (repeat intro K hK); refine wr ?_)
    repeat' ((first | (refine awp_cond rfl (fun h => ?_) (fun h => ?_) <;> (first | (simp [hf] at h; done) | (simp [hf] at h) | skip) <;> (first | (exfalso; omega) | skip)) | refine cc1 (begun_ok host m gen limit h0 h1) @hf ?_ | exact rt1 @hf | fail) <;> (refine au1 @hf ?_; (repeat intro K hK); refine wr ?_))
  | true =>
    refine Meets.of Tryz.func6 rfl (by kernel_rfl) rfl ?_
    simp only [Tryz.ntmps6, St.start, argT]
    refine au ?_
    repeat intro K hK
    refine wr ?_
    (refine au3 @hf @freshD.eq_1 @primD.eq_1 ?_; (repeat intro K hK); refine wr ?_)
    repeat' ((first | (refine awp_cond rfl (fun h => ?_) (fun h => ?_) <;> (first | (simp [hf, freshD, primD] at h; done) | (simp [hf, freshD, primD] at h) | skip) <;> (first | (exfalso; omega) | skip)) | refine cc3 (begun_ok host m gen limit h0 h1) @hf @freshD.eq_1 @primD.eq_1 ?_ | refine cc3 (rrecNew_ok m hm) @hf @freshD.eq_1 @primD.eq_1 ?_ | refine cc3 (rstrNew_ok m.count) @hf @freshD.eq_1 @primD.eq_1 ?_ | exact rt3 @hf @freshD.eq_1 @primD.eq_1 | fail) <;> (refine au3 @hf @freshD.eq_1 @primD.eq_1 ?_; (repeat intro K hK); refine wr ?_))
theorem rback_ok (host : Int) (m : MchD) (gen limit : Int) (h0 : 0 ≤ m.given) (h1 : m.given ≤ 4294967295) (hm : m.mem.length ≤ 100000) : Meets Tryz.prog 8 [iv host, .st m.row, lv gen, iv limit] (backV host m gen limit) := by
  cases hf : freshOk host m gen limit with
  | false =>
    refine Meets.of Tryz.func8 rfl (by kernel_rfl) rfl ?_
    simp only [Tryz.ntmps8, St.start, argT]
    refine au ?_
    repeat intro K hK
    refine wr ?_
    (refine au1 @hf ?_; (repeat intro K hK); refine wr ?_)
    repeat' ((first | (refine awp_cond rfl (fun h => ?_) (fun h => ?_) <;> (first | (simp [hf] at h; done) | (simp [hf] at h) | skip) <;> (first | (exfalso; omega) | skip)) | refine cc1 (begun_ok host m gen limit h0 h1) @hf ?_ | exact rt1 @hf | fail) <;> (refine au1 @hf ?_; (repeat intro K hK); refine wr ?_))
  | true =>
    refine Meets.of Tryz.func8 rfl (by kernel_rfl) rfl ?_
    simp only [Tryz.ntmps8, St.start, argT]
    refine au ?_
    repeat intro K hK
    refine wr ?_
    (refine au3 @hf @freshD.eq_1 @backD.eq_1 ?_; (repeat intro K hK); refine wr ?_)
    repeat' ((first | (refine awp_cond rfl (fun h => ?_) (fun h => ?_) <;> (first | (simp [hf, freshD, backD] at h; done) | (simp [hf, freshD, backD] at h) | skip) <;> (first | (exfalso; omega) | skip)) | refine cc3 (begun_ok host m gen limit h0 h1) @hf @freshD.eq_1 @backD.eq_1 ?_ | refine cc3 (rrplNew_ok m hm) @hf @freshD.eq_1 @backD.eq_1 ?_ | refine cc3 (rstrNew_ok m.count) @hf @freshD.eq_1 @backD.eq_1 ?_ | exact rt3 @hf @freshD.eq_1 @backD.eq_1 | fail) <;> (refine au3 @hf @freshD.eq_1 @backD.eq_1 ?_; (repeat intro K hK); refine wr ?_))
theorem iint_get (l : List Int) (i : Nat) (h : i < l.length) : (ints .u32 l)[i]?.getD [] = [uv (l.getD i 0)] := by simp [ints, h]
theorem ints_ge (k : IntKind) (l : List Int) (i : Nat) (h : i < (ints k l).length) : (ints k l)[i]'h = [.int k (l[i]'(by simpa [ints] using h))] := by simp [ints]
theorem sameW_ok (l : List Int) (hb : l.length ≤ 100000) : Meets Tryz.prog 43 [memV l, memV l] (.bool true) := by
  refine Meets.of Tryz.func43 rfl (by kernel_rfl) rfl ?_
  simp only [Tryz.ntmps43, St.start, argT]
  refine au1 @ints_len' ?_
  repeat intro K hK
  refine wr ?_
  refine awp_cond rfl (fun h => by simp at h) (fun _ => ?_)
  refine au1 @ints_len' ?_
  repeat intro K hK
  refine wr ?_
  obtain ⟨I, hI⟩ : ∃ I : Nat → St → Prop, I = (fun kk ss => ∃ (i : Nat) , i ≤ l.length ∧ kk = l.length - i ∧ (True) ∧ ss = ⟨26, [(5, .int .i64 i), (0, memV l), (1, memV l)], 0, [], 0⟩) := ⟨_, rfl⟩
  refine awp_loopA I (k0 := l.length) (st0 := (fun (i : Nat)  => (⟨26, [(5, .int .i64 i), (0, memV l), (1, memV l)], 0, [], 0⟩ : St)) 0 ) (ρ0 := id) ⟨rfl, by simp [leT, ltV, lt1, ren, ren1], by simp [leO, lt1, ren1], by simp, by simp⟩ (by rw [hI]; exact ⟨0, by simp, by simp, trivial, rfl⟩) ?_
  intro kk ss hIk _
  rw [hI] at hIk
  obtain ⟨i, hi, rfl, hx, rfl⟩ := hIk
  refine au1 @ints_len' ?_
  repeat intro K hK
  refine wr ?_
  refine awp_cond rfl (fun h => ?_) (fun h => ?_)
  · simp at h
    have hg : (ints .u32 l)[i]? = some [uv (l.getD i 0)] := by simp [ints, h]
    refine au1 @hg ?_
    repeat intro K hK
    refine wr ?_
    refine awp_planI ([0, 1, 2, 3, 4, 5, 6, 7, 8] : List Nat) ([[], [], [0, 1], [0, 1, 2], [], [], [4, 5], [4, 5, 6], [0, 1, 2, 3, 4, 5, 6, 7]] : List (List Nat)) ([(8, ([[], [], [0, 1], [0, 1, 2], [], [], [4, 5], [4, 5, 6]], [])), (1, ([], []))] : List (Nat × List (List Nat) × List (Nat × Nat))) (by kernel_rfl) (by kernel_rfl) (by kernel_rfl) ?_
    refine afm2 @ints_len' @hg ?_
    repeat intro K hK
    refine wr ?_
    refine awp_cond rfl (fun h => by simp at h) (fun _ => ?_)
    refine af ?_
    repeat intro K hK
    refine wr ?_
    refine again_of (l.length - (i + 1)) ((fun (i : Nat)  => (⟨26, [(5, .int .i64 i), (0, memV l), (1, memV l)], 0, [], 0⟩ : St)) (i + 1) ) (id) (by omega) (by rw [hI]; exact ⟨i + 1, by omega, rfl, trivial, rfl⟩) ⟨rfl, ?_, ?_, ?_, by simp⟩
    · simp [leT, ltV, lt1, ren, ren1, wrap_i64_in (n := (i : Int) + 1) (by omega) (by omega)]
    · simp [leO, lt1, ren1]
    · (simp; try omega)
  · simp at h
    refine af ?_
    repeat intro K hK
    refine wr ?_
    refine awp_ret ?_
    simp
end Go.Proofs.YtpifpdjefbehmaaGreat
