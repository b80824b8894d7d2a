/- A part of the proof of ReplicaJoins. -/
import Derived.Test.YtjmhjieflbnehaaGreatP04
import Derived.Test.YtjmhjieflbnehaaGreatP06
import Derived.Test.YtjmhjieflbnehaaGreatP24
import Derived.Test.YtjmhjieflbnehaaGreatP28
set_option linter.unusedSimpArgs false
set_option linter.unusedVariables false
set_option maxHeartbeats 16000000
set_option maxRecDepth 100000
section
namespace Go.Proofs.YtjmhjieflbnehaaGreat
open Go.Ab Go.RowKit
noncomputable abbrev wldR (a b : RepD) : List V := a.row ++ (b.row ++ [.sl 0 true [], .sl 0 true [], .sl 1 false (strs zAu), lv 1, iv 0])
theorem zEs (kind : Int) (l : List Int) (M : MchD) (hmay : mayD M = true) (hs : M.dk.state = 0) (hg : 0 ≤ M.given ∧ M.given ≤ 4294967295) (hl : M.mem.length ≤ 100000)
  (hm : zAD Tryz.prog 13 [iv kind, .sl 1 false (ints .i64 l)] (.st M.row)) :
  zAD Tryz.prog 6 [iv kind, .sl 1 false (ints .i64 l), iv 2] (.tup [.st (wldR (zF3 0 M 1 2) (zDp 1 M 1 2)), .bool true]) := by
 have hf0 : zA7 0 M 1 2 = true := by simp [zA7, hmay, hs]; decide
 have hf1 : zA7 1 M 1 2 = true := by simp [zA7, hmay, hs]; decide
 have e1 := zJW 0 M 1 2 hg.1 hg.2 hl
 have e3 := zN5 1 M 1 2 hg.1 hg.2 hl
 simp only [zPf, zSU, hf0, hf1, if_true] at e1 e3
 generalize zF3 0 M 1 2 = a at *
 generalize zDp 1 M 1 2 = b at *
 refine sX Tryz.func6 Tryz.ntmps6 ?_;(repeat intro K hK);refine wr ?_
 refine cX (hm) ?_;(repeat intro K hK);refine wr ?_
 refine cX (zI1) ?_;(repeat intro K hK);refine wr ?_
 refine cX (zKZ) ?_;(repeat intro K hK);refine wr ?_
 refine cX (zKH) ?_;(repeat intro K hK);refine wr ?_
 refine cX (e1) ?_;(repeat intro K hK);refine wr ?_
 refine cX (e3) ?_;(repeat intro K hK);refine wr ?_
 refine zIZ [9, 6, 11, 12, 13, 14, 15] (by simp; rfl) ?_
 refine zGp [0, 51, 188, 315] (by simp only [zJ1, lookO, Nat.reduceEqDiff, reduceIte]; rfl) ?_
 (refine afB ?_; (repeat intro K hK); refine wr ?_)
 repeat' ((first | (refine zAA rfl (fun h => ?_) (fun h => ?_) <;> (first | (simp at h; done) | (simp at h) | skip) <;> (first | (exfalso; omega) | skip)) | (refine zAE ([0, 1, 2, 3, 4, 5] : List Nat) ([[], [], [0], [0, 2], [0, 1, 2, 3], [0, 1, 2, 3, 4]] : List (List Nat)) ([(4, ([[], [], [0], [0, 2]], [(1, 3)])), (1, ([], [])), (1, ([], []))] : List (Nat × List (List Nat) × List (Nat × Nat))) (by kernel_rfl) (by kernel_rfl) (by kernel_rfl) ?_) | exact rtB | fail) <;> (refine afB ?_; (repeat intro K hK); refine wr ?_))
theorem img_k {k : Int} (l : List Int) (h : k < 2) : ints .u32 (kW ++ List.replicate 85 0) ++ ints .u32 (zB9 l) = ints .u32 (imgD k l) := by
 unfold imgD; rw [if_pos h]; simp [ints]
theorem img_c {k : Int} (l : List Int) (h : ¬ k < 2) : ints .u32 (zB9 l) = ints .u32 (imgD k l) := by
 unfold imgD; rw [if_neg h]
theorem kW_s (i : Nat) : ints .u32 (kW ++ List.replicate i 0) ++ [[V.int .u32 0]] = ints .u32 (kW ++ List.replicate (i + 1) 0) := by
 rw [List.replicate_succ']; simp [ints]
theorem zQ8 (kind : Int) (l : List Int) (hl : l.length ≤ 60)
  (hrun : zAD Tryz.prog 35 [.st (newD (imgD 1 l)).row, nilE, lv 87] (.tup [.st (itD (newD (imgD 1 l)) 87).row, .sl 4 false [], iv 0, iv 0])) :
  zAD Tryz.prog 13 [iv kind, .sl 1 false (ints .i64 l)] (.st (mkD (kind % 3) l).row) := by
 have hr := zAq kind 3 (by decide) (by decide)
 have hcode := zPK l (by omega)
 have hcl : (ints .u32 (zB9 l)).length = l.length := by rw [zAP, zC5]
 have hil := zHt (kind % 3) l
 have hnew := zRz (imgD (kind % 3) l) (by omega)
 have hmk : mkD (kind % 3) l = if kind % 3 = 1 then itD (newD (imgD (kind % 3) l)) 87 else newD (imgD (kind % 3) l) := rfl
 have hil2 : ¬ (256 : Int) < ((ints .u32 (imgD (kind % 3) l)).length : Int) := by rw [zAP]; omega
 by_cases hk2 : kind % 3 < 2
 ·have hap2 := img_k l hk2
  by_cases hk1 : kind % 3 = 1
  ·rw [hmk, if_pos hk1]
   rw [hk1] at hnew hap2 hil2 ⊢
   refine sX Tryz.func13 Tryz.ntmps13 ?_;intros;refine wr ?_
   refine cX (hr) ?_;intros;refine wr ?_
   refine gT10 @hk2 rfl ?_;intros;refine wr ?_
   refine cX (As.kernel_ok) ?_;intros;refine wr ?_
   obtain ⟨I, hI⟩ : ∃ I : Nat → St → Prop, I = (fun kk ss => ∃ (i : Nat) , i ≤ 85 ∧ kk = 85 - i ∧ (True) ∧ ss = ⟨47, [(5, .own 3), (0, iv (kind % 3)), (1, .sl 1 false (ints .i64 l)), (4, .ptr 0 49 0 0)], 6, [(3, some ⟨25, 1, false, false, ints .u32 (kW ++ List.replicate i 0)⟩), (0, some ⟨42, 49, true, false, [zMR0]⟩)], 0⟩) := ⟨_, rfl⟩
   refine lX I (id) (by rw [hI]; exact ⟨0, by simp, rfl, trivial, rfl⟩) ?_
   intro kk ss hIk _
   rw [hI] at hIk
   obtain ⟨i, hi, rfl, hx, rfl⟩ := hIk
   have hL : (ints .u32 (kW ++ List.replicate i 0)).length = 75 + i := by rw [zAP, List.length_append, List.length_replicate]; rfl
   have hap := kW_s i
   refine au1 @hL ?_;intros;refine wr ?_
   refine zAA rfl (fun hh => ?_) (fun hh => ?_)
   ·simp at hh
    refine au1 (kX3 @hL @hap @maxLen.eq_1) ?_;intros;refine wr ?_
    exact aX (fun x => if x = 3 then 7 else x) (by rw [hI]; exact ⟨i + 1, by omega, rfl, trivial, rfl⟩) (kX2 (zAC (n := (i : Int) + 1) (by omega) (by omega)) @hap)
   ·simp at hh
    have hi85 : i = 85 := by omega
    subst hi85
    generalize hZ : kW ++ List.replicate 85 0 = Z at hL hap2 ⊢
    refine au1 @hL ?_;intros;refine wr ?_
    refine cY (hcode) (kX4 @hL @hcl @maxLen.eq_1 @hap2) ?_;intros;refine wr ?_
    refine gF11 @hil2 rfl @hil2 ?_;intros;refine wr ?_
    refine cX (hnew) ?_;intros;refine wr ?_
    refine gT10 @hk1 rfl ?_;intros;refine wr ?_
    refine cX (hrun) ?_;intros;refine wr ?_
    refine zAI ?_
    refine zAB ?_
    simp
  ·rw [hmk, if_neg hk1]
   refine sX Tryz.func13 Tryz.ntmps13 ?_;intros;refine wr ?_
   refine cX (hr) ?_;intros;refine wr ?_
   refine gT10 @hk2 rfl ?_;intros;refine wr ?_
   refine cX (As.kernel_ok) ?_;intros;refine wr ?_
   obtain ⟨I, hI⟩ : ∃ I : Nat → St → Prop, I = (fun kk ss => ∃ (i : Nat) , i ≤ 85 ∧ kk = 85 - i ∧ (True) ∧ ss = ⟨47, [(5, .own 3), (0, iv (kind % 3)), (1, .sl 1 false (ints .i64 l)), (4, .ptr 0 49 0 0)], 6, [(3, some ⟨25, 1, false, false, ints .u32 (kW ++ List.replicate i 0)⟩), (0, some ⟨42, 49, true, false, [zMR0]⟩)], 0⟩) := ⟨_, rfl⟩
   refine lX I (id) (by rw [hI]; exact ⟨0, by simp, rfl, trivial, rfl⟩) ?_
   intro kk ss hIk _
   rw [hI] at hIk
   obtain ⟨i, hi, rfl, hx, rfl⟩ := hIk
   have hL : (ints .u32 (kW ++ List.replicate i 0)).length = 75 + i := by rw [zAP, List.length_append, List.length_replicate]; rfl
   have hap := kW_s i
   refine au1 @hL ?_;intros;refine wr ?_
   refine zAA rfl (fun hh => ?_) (fun hh => ?_)
   ·simp at hh
    refine au1 (kX3 @hL @hap @maxLen.eq_1) ?_;intros;refine wr ?_
    exact aX (fun x => if x = 3 then 7 else x) (by rw [hI]; exact ⟨i + 1, by omega, rfl, trivial, rfl⟩) (kX2 (zAC (n := (i : Int) + 1) (by omega) (by omega)) @hap)
   ·simp at hh
    have hi85 : i = 85 := by omega
    subst hi85
    generalize hZ : kW ++ List.replicate 85 0 = Z at hL hap2 ⊢
    refine au1 @hL ?_;intros;refine wr ?_
    refine cY (hcode) (kX4 @hL @hcl @maxLen.eq_1 @hap2) ?_;intros;refine wr ?_
    refine gF11 @hil2 rfl @hil2 ?_;intros;refine wr ?_
    refine cX (hnew) ?_;intros;refine wr ?_
    refine gF10 @hk1 rfl ?_;intros;refine wr ?_
    refine zAI ?_
    refine zAB ?_
    simp
 ·have hap2 := img_c l hk2
  rw [hmk, if_neg (by omega)]
  refine sX Tryz.func13 Tryz.ntmps13 ?_;intros;refine wr ?_
  refine cX (hr) ?_;intros;refine wr ?_
  refine gF10 @hk2 rfl ?_;intros;refine wr ?_
  refine cY (hcode) (kX3 @hcl @maxLen.eq_1 @hap2) ?_;intros;refine wr ?_
  refine gF11 @hil2 rfl @hil2 ?_;intros;refine wr ?_
  refine cX (hnew) ?_;intros;refine wr ?_
  have hk1 : ¬ kind % 3 = 1 := by omega
  refine gF10 @hk1 rfl ?_;intros;refine wr ?_
  refine zAI ?_
  refine zAB ?_
  simp
end Go.Proofs.YtjmhjieflbnehaaGreat
end
