/- A part of the proof of ReplicaJoins. -/
import Derived.Test.YtjmhjieflbnehaaGreatP26
import Derived.Test.YtjmhjieflbnehaaGreatP28
set_option linter.unusedSimpArgs false
set_option linter.unusedVariables false
set_option maxHeartbeats 16000000
set_option maxRecDepth 100000
section
namespace Go.Proofs.YtjmhjieflbnehaaGreat
open Go.Ab Go.RowKit
theorem zQ3 (m : MchD) (h1 : m.mem.length ≤ 100000) : zAD Tryz.prog 81 [.st m.row] (.st (rowM m (.new 25 1 (ints .u32 m.mem)))) := by
 refine sX Tryz.func81 Tryz.ntmps81 ?_;intros;refine wr ?_
 refine cX (zK1 m.mem h1) ?_;intros;refine wr ?_
 refine zAB ?_
 simp
theorem zOX (m : MchD) (hM : OkM m) : zAD Tryz.prog 84 [.st m.row] (.bool (rdsD m)) := by
 have hr := zJh m hM
 have hc := zEO hM
 obtain ⟨w, hw⟩ : ∃ w, w = wAt m.mem ((zAM m).cpu.pc / 4) := ⟨_, rfl⟩
 have hww : W32 w := by rw [hw]; exact zMQ hM.w _
 have hl := zQT m.mem (zAM m).cpu.pc 4 (.inr rfl) hc.pc
 have hE : rdsD m = (decide ((zAM m).cpu.csr 0 % 2 = 1) && zAU m.mem (zAM m).cpu.pc 4 && validD (decI w) && decide ((decI w).op = 60) && decide ((decI w).imm = 2)) := by rw [hw]; rfl
 have hL : zBl m.mem (zAM m).cpu.pc 4 = w := by rw [hw]; rfl
 rw [hL] at hl
 have hk := zO7 (hc.csr 0)
 generalize (zAM m).cpu = c at *
 rw [hE]
 by_cases h0 : c.csr 0 % 2 = 0
 ·refine sZ Tryz.func84 Tryz.ntmps84 ?_
  exact wx1 (qX1 (hr)) trivial (kX2 @hk @h0)
 ·have h1 : c.csr 0 % 2 = 1 := by omega
  cases hwi : zAU m.mem c.pc 4 with
  | false =>
   rw [hwi] at hl
   simp only [Bool.false_eq_true, if_false] at hl
   have hd := zDb 0 ⟨by omega, by omega⟩
   refine sZ Tryz.func84 Tryz.ntmps84 ?_
   exact wx1 (qX3 (hr) (hl) (hd)) trivial (kX3 @hk @h1 @decV.eq_1)
  | true =>
   rw [hwi] at hl
   simp only [if_true] at hl
   have hd := zDb w hww
   unfold decV at hd
   cases hv : validD (decI w) with
   | false =>
    rw [hv, if_neg (by simp)] at hd
    refine sZ Tryz.func84 Tryz.ntmps84 ?_
    exact wx1 (qX3 (hr) (hl) (hd)) trivial (kX2 @hk @h1)
   | true =>
    rw [hv, if_pos rfl] at hd
    refine sZ Tryz.func84 Tryz.ntmps84 ?_
    exact wx1 (qX3 (hr) (hl) (hd)) trivial (kX2 @hk @h1)
theorem zPW {nx : Nat} {ob : List (Nat × Option Ob)} (id j : Nat) (m : MchD) (v : Int) (hob : lookO ob id = some (mchO m (.own j))) (hj : lookO ob j = some (memO m.mem)) (hi : id < nx) (hjn : j < nx) (hne : id ≠ j) :
  InlC Tryz.prog 142 [.ptr id 49 0 0, iv 3, uv v] nx ob fun r nx' ob' => r = .sl 0 true [] ∧ zCm nx ob id j { m with tim := armD v } nx' ob' := by
 have n1 : ¬ j = id := fun e => hne e.symm
 refine InlC.of Tryz.func142 rfl (by kernel_rfl) rfl ?_
 simp only [Tryz.ntmps142, St.startI, argT]
 refine au1 (kX2 @hob @hj) ?_;intros;refine wr ?_
 refine gF00 rfl ?_;intros;refine wr ?_
 refine gF00 rfl ?_;intros;refine wr ?_
 refine gT01 rfl @hob ?_;intros;refine wr ?_
 refine cZ (zTW v) @hob @hob ?_;intros;refine wr ?_
 refine zAB ?_
 simp
 exact ⟨by omega, by simp [lookO], by simp [lookO, n1, hj], fun i h1 h2 h3 => by simp [lookO, h2]⟩
theorem zQt {nx : Nat} {ob : List (Nat × Option Ob)} (id j : Nat) (m : MchD) (v : Int) (hM : OkM m) (hob : lookO ob id = some (mchO m (.own j))) (hj : lookO ob j = some (memO m.mem)) (hi : id < nx) (hjn : j < nx) (hne : id ≠ j) :
  InlC Tryz.prog 142 [.ptr id 49 0 0, iv 7, uv v] nx ob fun r nx' ob' => r = .sl 4 false [] ∧ zCm nx ob id j { m with nc := (zAd m.nc m.mem 7 v m.count).1 } nx' ob' := by
 have n1 : ¬ j = id := fun e => hne e.symm
 have hn : zE0 m.nc m.mem 7 v m.count := zMu m.nc m.mem 7 v m.count (by omega)
 have hE : (zAd m.nc m.mem 7 v m.count).2 = [] := by simp [zAd]
 unfold zE0 at hn
 rw [hE] at hn
 generalize (zAd m.nc m.mem 7 v m.count).1 = N at *
 refine InlC.of Tryz.func142 rfl (by kernel_rfl) rfl ?_
 simp only [Tryz.ntmps142, St.startI, argT]
 refine au1 (kX2 @hob @hj) ?_;intros;refine wr ?_
 refine gF00 rfl ?_;intros;refine wr ?_
 refine gF00 rfl ?_;intros;refine wr ?_
 refine gF00 rfl ?_;intros;refine wr ?_
 refine gF00 rfl ?_;intros;refine wr ?_
 refine gT01 rfl @hob ?_;intros;refine wr ?_
 refine zAE ([0, 1, 2, 3, 4, 5, 6, 7, 8, 9, 10, 11, 12, 13, 14, 15, 16, 17, 18, 19, 20, 21, 22] : List Nat) ([[], [], [1], [1, 2], [1, 2, 3], [], [5], [5, 6], [5, 6, 7], [], [], [], [11], [11, 12], [11, 12, 13], [1, 2, 3, 4, 5, 6, 7, 8, 9, 10, 11, 12, 13, 14], [1, 2, 3, 4, 5, 6, 7, 8, 9, 10, 11, 12, 13, 14, 15], [1, 2, 3, 4, 5, 6, 7, 8, 9, 10, 11, 12, 13, 14, 15, 16], [1, 2, 3, 4, 5, 6, 7, 8, 9, 10, 11, 12, 13, 14, 15, 16], [0, 1, 2, 3, 4, 5, 6, 7, 8, 9, 10, 11, 12, 13, 14, 15, 16, 17], [0, 1, 2, 3, 4, 5, 6, 7, 8, 9, 10, 11, 12, 13, 14, 15, 16, 17, 19], [0, 1, 2, 3, 4, 5, 6, 7, 8, 9, 10, 11, 12, 13, 14, 15, 16, 17, 19, 20], [0, 1, 2, 3, 4, 5, 6, 7, 8, 9, 10, 11, 12, 13, 14, 15, 16, 17, 18, 19, 20, 21]] : List (List Nat)) ([(22, ([[], [], [1], [1, 2], [1, 2, 3], [], [5], [5, 6], [5, 6, 7], [], [], [], [11], [11, 12], [11, 12, 13], [1, 2, 3, 4, 5, 6, 7, 8, 9, 10, 11, 12, 13, 14], [1, 2, 3, 4, 5, 6, 7, 8, 9, 10, 11, 12, 13, 14, 15], [1, 2, 3, 4, 5, 6, 7, 8, 9, 10, 11, 12, 13, 14, 15, 16], [1, 2, 3, 4, 5, 6, 7, 8, 9, 10, 11, 12, 13, 14, 15, 16], [0, 1, 2, 3, 4, 5, 6, 7, 8, 9, 10, 11, 12, 13, 14, 15, 16, 17], [0, 1, 2, 3, 4, 5, 6, 7, 8, 9, 10, 11, 12, 13, 14, 15, 16, 17, 19], [0, 1, 2, 3, 4, 5, 6, 7, 8, 9, 10, 11, 12, 13, 14, 15, 16, 17, 19, 20]], [])), (1, ([], []))] : List (Nat × List (List Nat) × List (Nat × Nat))) (by kernel_rfl) (by kernel_rfl) (by kernel_rfl) ?_
 refine af1 (kX2 @hob @hj) ?_;intros;refine wr ?_
 refine ⟨1, _, hn, ?_⟩
 simp [aftE, noX, noXc, noX1, hob, hj]
 first | refine And.intro zAL ?_ | skip
 refine af1 (kX2 @hob @hj) ?_;intros;refine wr ?_
 refine zAB ?_
 simp
 exact ⟨ by omega, by simp [lookO], by simp [lookO, n1, hj], fun i h1 h2 h3 => by simp [lookO, h2]⟩
theorem zRO {nx : Nat} {ob : List (Nat × Option Ob)} (id j : Nat) (m : MchD) (v : Int) (hM : OkM m) (hob : lookO ob id = some (mchO m (.own j))) (hj : lookO ob j = some (memO m.mem)) (hi : id < nx) (hjn : j < nx) (hne : id ≠ j)(hv : v = 2) :
  InlC Tryz.prog 142 [.ptr id 49 0 0, iv 9, uv v] nx ob fun r nx' ob' => r = .sl 4 false [] ∧ zCm nx ob id j { m with nc := (zAd m.nc m.mem 9 v m.count).1 } nx' ob' := by
 have n1 : ¬ j = id := fun e => hne e.symm
 have hn : zE0 m.nc m.mem 9 v m.count := zNv m.nc m.mem v m.count hM.r.a (by omega)
 have hE : (zAd m.nc m.mem 9 v m.count).2 = [] := by (subst hv; simp [zAd])
 unfold zE0 at hn
 rw [hE] at hn
 generalize (zAd m.nc m.mem 9 v m.count).1 = N at *
 refine InlC.of Tryz.func142 rfl (by kernel_rfl) rfl ?_
 simp only [Tryz.ntmps142, St.startI, argT]
 refine au1 (kX2 @hob @hj) ?_;intros;refine wr ?_
 refine gF00 rfl ?_;intros;refine wr ?_
 refine gF00 rfl ?_;intros;refine wr ?_
 refine gF00 rfl ?_;intros;refine wr ?_
 refine gF00 rfl ?_;intros;refine wr ?_
 refine gT01 rfl @hob ?_;intros;refine wr ?_
 refine zAE ([0, 1, 2, 3, 4, 5, 6, 7, 8, 9, 10, 11, 12, 13, 14, 15, 16, 17, 18, 19, 20, 21, 22] : List Nat) ([[], [], [1], [1, 2], [1, 2, 3], [], [5], [5, 6], [5, 6, 7], [], [], [], [11], [11, 12], [11, 12, 13], [1, 2, 3, 4, 5, 6, 7, 8, 9, 10, 11, 12, 13, 14], [1, 2, 3, 4, 5, 6, 7, 8, 9, 10, 11, 12, 13, 14, 15], [1, 2, 3, 4, 5, 6, 7, 8, 9, 10, 11, 12, 13, 14, 15, 16], [1, 2, 3, 4, 5, 6, 7, 8, 9, 10, 11, 12, 13, 14, 15, 16], [0, 1, 2, 3, 4, 5, 6, 7, 8, 9, 10, 11, 12, 13, 14, 15, 16, 17], [0, 1, 2, 3, 4, 5, 6, 7, 8, 9, 10, 11, 12, 13, 14, 15, 16, 17, 19], [0, 1, 2, 3, 4, 5, 6, 7, 8, 9, 10, 11, 12, 13, 14, 15, 16, 17, 19, 20], [0, 1, 2, 3, 4, 5, 6, 7, 8, 9, 10, 11, 12, 13, 14, 15, 16, 17, 18, 19, 20, 21]] : List (List Nat)) ([(22, ([[], [], [1], [1, 2], [1, 2, 3], [], [5], [5, 6], [5, 6, 7], [], [], [], [11], [11, 12], [11, 12, 13], [1, 2, 3, 4, 5, 6, 7, 8, 9, 10, 11, 12, 13, 14], [1, 2, 3, 4, 5, 6, 7, 8, 9, 10, 11, 12, 13, 14, 15], [1, 2, 3, 4, 5, 6, 7, 8, 9, 10, 11, 12, 13, 14, 15, 16], [1, 2, 3, 4, 5, 6, 7, 8, 9, 10, 11, 12, 13, 14, 15, 16], [0, 1, 2, 3, 4, 5, 6, 7, 8, 9, 10, 11, 12, 13, 14, 15, 16, 17], [0, 1, 2, 3, 4, 5, 6, 7, 8, 9, 10, 11, 12, 13, 14, 15, 16, 17, 19], [0, 1, 2, 3, 4, 5, 6, 7, 8, 9, 10, 11, 12, 13, 14, 15, 16, 17, 19, 20]], [])), (1, ([], []))] : List (Nat × List (List Nat) × List (Nat × Nat))) (by kernel_rfl) (by kernel_rfl) (by kernel_rfl) ?_
 refine af1 (kX2 @hob @hj) ?_;intros;refine wr ?_
 refine ⟨1, _, hn, ?_⟩
 simp [aftE, noX, noXc, noX1, hob, hj]
 first | refine And.intro zAL ?_ | skip
 refine af1 (kX2 @hob @hj) ?_;intros;refine wr ?_
 refine zAB ?_
 simp
 exact ⟨ by omega, by simp [lookO], by simp [lookO, n1, hj], fun i h1 h2 h3 => by simp [lookO, h2]⟩
end Go.Proofs.YtjmhjieflbnehaaGreat
end
