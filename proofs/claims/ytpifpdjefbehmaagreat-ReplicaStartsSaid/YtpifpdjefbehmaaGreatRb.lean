/- Replicas: contracts of slices.Clone, and of what sees whether a machine may be executed. -/
import Derived.Test.YtpifpdjefbehmaaGreatMch
namespace Go.Proofs.YtpifpdjefbehmaaGreat
open Go.Ab Go.RowKit
set_option linter.unusedSimpArgs false
set_option maxRecDepth 100000
set_option maxHeartbeats 8000000
theorem cloneW (xs : List (List V)) (t : Bool) (z : Nat) (hz : z = 1 ∨ (z = 0 ∧ xs = [])) (hb : xs.length ≤ 100000) : Meets Tryz.prog 85 [.sl z t xs] (.new 22 1 xs) := by
  refine Meets.of Tryz.func85 rfl (by kernel_rfl) rfl ?_
  simp only [Tryz.ntmps85, St.start, argT]
  refine au ?_
  repeat intro K hK
  refine wr ?_
  refine ⟨?_, fun hx => ?_⟩
  · refine au ?_
    repeat intro K hK
    refine wr ?_
    refine awp_cond rfl (fun h => by simp at h) (fun _ => ?_)
    refine aum1 @maxLen.eq_1 ?_
    repeat intro K hK
    refine wr ?_
    refine awp_ret ?_
    simp
  · subst hx
    refine au ?_
    repeat intro K hK
    refine wr ?_
    refine awp_cond rfl (fun _ => ?_) (fun h => by simp at h)
    refine au ?_
    repeat intro K hK
    refine wr ?_
    refine awp_nilOwn 2 22 1 (by decide) rfl ?_
    refine awp_ret ?_
    simp
theorem ints_len' (k : IntKind) (l : List Int) : (ints k l).length = l.length := by simp [ints]
theorem pages_ok (l : List Int) : Meets Tryz.prog 87 [memV l] (iv (pagesD l)) := by
  refine Meets.of Tryz.func87 rfl (by kernel_rfl) rfl ?_
  simp only [Tryz.ntmps87, St.start, argT]
  refine au1 @ints_len' ?_
  repeat intro K hK
  refine wr ?_
  (refine au2 @ints_len' @pagesD.eq_1 ?_; (repeat intro K hK); refine wr ?_)
  repeat' ((first | (refine awp_cond rfl (fun h => ?_) (fun h => ?_) <;> (first | (simp [ints_len', pagesD] at h; done) | (simp [ints_len', pagesD] at h) | skip) <;> (first | (exfalso; omega) | skip)) | exact rt2 @ints_len' @pagesD.eq_1 | fail) <;> (refine au2 @ints_len' @pagesD.eq_1 ?_; (repeat intro K hK); refine wr ?_))
theorem conMay_ok (s : Str) : Meets Tryz.prog 141 [.st [.str s]] (.bool (decide ((s.length : Int) ≤ 16))) := by
  refine Meets.of Tryz.func141 rfl (by kernel_rfl) rfl ?_
  simp only [Tryz.ntmps141, St.start, argT]
  refine au ?_
  repeat intro K hK
  refine wr ?_
  (refine au ?_; (repeat intro K hK); refine wr ?_)
  repeat' ((first | (refine awp_cond rfl (fun h => ?_) (fun h => ?_) <;> (first | (simp at h; done) | (simp at h) | skip) <;> (first | (exfalso; omega) | skip)) | exact rt | fail) <;> (refine au ?_; (repeat intro K hK); refine wr ?_))
theorem timMay_ok (t : TimD) : Meets Tryz.prog 142 [.st t.row] (.bool (timMay t)) := by
  refine Meets.of Tryz.func142 rfl (by kernel_rfl) rfl ?_
  simp only [Tryz.ntmps142, St.start, argT]
  refine au ?_
  repeat intro K hK
  refine wr ?_
  (refine au1 @timMay.eq_1 ?_; (repeat intro K hK); refine wr ?_)
  repeat' ((first | (refine awp_cond rfl (fun h => ?_) (fun h => ?_) <;> (first | (simp [timMay] at h; done) | (simp [timMay] at h) | skip) <;> (first | (exfalso; omega) | skip)) | exact rt1 @timMay.eq_1 | fail) <;> (refine au1 @timMay.eq_1 ?_; (repeat intro K hK); refine wr ?_))
theorem cmdMay_ok (d : DskD) : Meets Tryz.prog 192 [.st d.row] (.bool (cmdMay d)) := by
  refine Meets.of Tryz.func192 rfl (by kernel_rfl) rfl ?_
  simp only [Tryz.ntmps192, St.start, argT]
  refine au ?_
  repeat intro K hK
  refine wr ?_
  (refine au1 @cmdMay.eq_1 ?_; (repeat intro K hK); refine wr ?_)
  repeat' ((first | (refine awp_cond rfl (fun h => ?_) (fun h => ?_) <;> (first | (simp [cmdMay] at h; done) | (simp [cmdMay] at h) | skip) <;> (first | (exfalso; omega) | skip)) | exact rt1 @cmdMay.eq_1 | fail) <;> (refine au1 @cmdMay.eq_1 ?_; (repeat intro K hK); refine wr ?_))
theorem dskMay_ok (d : DskD) (p : Int) : Meets Tryz.prog 143 [.st d.row, iv p] (.bool (dskMay d p)) := by
  refine Meets.of Tryz.func143 rfl (by kernel_rfl) rfl ?_
  simp only [Tryz.ntmps143, St.start, argT]
  refine au ?_
  repeat intro K hK
  refine wr ?_
  (refine au1 @dskMay.eq_1 ?_; (repeat intro K hK); refine wr ?_)
  repeat' ((first | (refine awp_cond rfl (fun h => ?_) (fun h => ?_) <;> (first | (simp [dskMay] at h; done) | (simp [dskMay] at h) | skip) <;> (first | (exfalso; omega) | skip)) | refine cc1 (cmdMay_ok _) @dskMay.eq_1 ?_ | exact rt1 @dskMay.eq_1 | fail) <;> (refine au1 @dskMay.eq_1 ?_; (repeat intro K hK); refine wr ?_))
theorem nicMay_ok (n : NicD) (p : Int) : Meets Tryz.prog 144 [.st n.row, iv p] (.bool (nicMay n p)) := by
  refine Meets.of Tryz.func144 rfl (by kernel_rfl) rfl ?_
  simp only [Tryz.ntmps144, St.start, argT]
  refine au ?_
  repeat intro K hK
  refine wr ?_
  (refine au1 @nicMay.eq_1 ?_; (repeat intro K hK); refine wr ?_)
  repeat' ((first | (refine awp_cond rfl (fun h => ?_) (fun h => ?_) <;> (first | (simp [nicMay] at h; done) | (simp [nicMay] at h) | skip) <;> (first | (exfalso; omega) | skip)) | exact rt1 @nicMay.eq_1 | fail) <;> (refine au1 @nicMay.eq_1 ?_; (repeat intro K hK); refine wr ?_))
theorem u8a (x : Int) : 0 ≤ IntKind.u8.wrap x := by rw [IntKind.wrap_u8]; omega
theorem u8b (x : Int) : IntKind.u8.wrap x < 256 := by rw [IntKind.wrap_u8]; omega
theorem lit8f : ∀ k : Fin 256, (([0, 1, 2, 2, 3, 3, 3, 3, 4, 4, 4, 4, 4, 4, 4, 4, 5, 5, 5, 5, 5, 5, 5, 5, 5, 5, 5, 5, 5, 5, 5, 5, 6, 6, 6, 6, 6, 6, 6, 6, 6, 6, 6, 6, 6, 6, 6, 6, 6, 6, 6, 6, 6, 6, 6, 6, 6, 6, 6, 6, 6, 6, 6, 6, 7, 7, 7, 7, 7, 7, 7, 7, 7, 7, 7, 7, 7, 7, 7, 7, 7, 7, 7, 7, 7, 7, 7, 7, 7, 7, 7, 7, 7, 7, 7, 7, 7, 7, 7, 7, 7, 7, 7, 7, 7, 7, 7, 7, 7, 7, 7, 7, 7, 7, 7, 7, 7, 7, 7, 7, 7, 7, 7, 7, 7, 7, 7, 7, 8, 8, 8, 8, 8, 8, 8, 8, 8, 8, 8, 8, 8, 8, 8, 8, 8, 8, 8, 8, 8, 8, 8, 8, 8, 8, 8, 8, 8, 8, 8, 8, 8, 8, 8, 8, 8, 8, 8, 8, 8, 8, 8, 8, 8, 8, 8, 8, 8, 8, 8, 8, 8, 8, 8, 8, 8, 8, 8, 8, 8, 8, 8, 8, 8, 8, 8, 8, 8, 8, 8, 8, 8, 8, 8, 8, 8, 8, 8, 8, 8, 8, 8, 8, 8, 8, 8, 8, 8, 8, 8, 8, 8, 8, 8, 8, 8, 8, 8, 8, 8, 8, 8, 8, 8, 8, 8, 8, 8, 8, 8, 8, 8, 8, 8, 8, 8, 8, 8, 8, 8, 8, 8, 8, 8, 8, 8, 8] : List UInt8)[k.val]?.getD 0).toNat = Lib.bitLen k.val := by decide +kernel
theorem lit8 (x : Int) : (([0, 1, 2, 2, 3, 3, 3, 3, 4, 4, 4, 4, 4, 4, 4, 4, 5, 5, 5, 5, 5, 5, 5, 5, 5, 5, 5, 5, 5, 5, 5, 5, 6, 6, 6, 6, 6, 6, 6, 6, 6, 6, 6, 6, 6, 6, 6, 6, 6, 6, 6, 6, 6, 6, 6, 6, 6, 6, 6, 6, 6, 6, 6, 6, 7, 7, 7, 7, 7, 7, 7, 7, 7, 7, 7, 7, 7, 7, 7, 7, 7, 7, 7, 7, 7, 7, 7, 7, 7, 7, 7, 7, 7, 7, 7, 7, 7, 7, 7, 7, 7, 7, 7, 7, 7, 7, 7, 7, 7, 7, 7, 7, 7, 7, 7, 7, 7, 7, 7, 7, 7, 7, 7, 7, 7, 7, 7, 7, 8, 8, 8, 8, 8, 8, 8, 8, 8, 8, 8, 8, 8, 8, 8, 8, 8, 8, 8, 8, 8, 8, 8, 8, 8, 8, 8, 8, 8, 8, 8, 8, 8, 8, 8, 8, 8, 8, 8, 8, 8, 8, 8, 8, 8, 8, 8, 8, 8, 8, 8, 8, 8, 8, 8, 8, 8, 8, 8, 8, 8, 8, 8, 8, 8, 8, 8, 8, 8, 8, 8, 8, 8, 8, 8, 8, 8, 8, 8, 8, 8, 8, 8, 8, 8, 8, 8, 8, 8, 8, 8, 8, 8, 8, 8, 8, 8, 8, 8, 8, 8, 8, 8, 8, 8, 8, 8, 8, 8, 8, 8, 8, 8, 8, 8, 8, 8, 8, 8, 8, 8, 8, 8, 8, 8, 8, 8, 8] : List UInt8)[(IntKind.u8.wrap x).toNat]?.getD 0).toNat = Lib.bitLen (IntKind.u8.wrap x).toNat := lit8f ⟨(IntKind.u8.wrap x).toNat, by have := u8a x; have := u8b x; omega⟩
theorem lit8g (x : Int) (h : (IntKind.u8.wrap x).toNat < ([0, 1, 2, 2, 3, 3, 3, 3, 4, 4, 4, 4, 4, 4, 4, 4, 5, 5, 5, 5, 5, 5, 5, 5, 5, 5, 5, 5, 5, 5, 5, 5, 6, 6, 6, 6, 6, 6, 6, 6, 6, 6, 6, 6, 6, 6, 6, 6, 6, 6, 6, 6, 6, 6, 6, 6, 6, 6, 6, 6, 6, 6, 6, 6, 7, 7, 7, 7, 7, 7, 7, 7, 7, 7, 7, 7, 7, 7, 7, 7, 7, 7, 7, 7, 7, 7, 7, 7, 7, 7, 7, 7, 7, 7, 7, 7, 7, 7, 7, 7, 7, 7, 7, 7, 7, 7, 7, 7, 7, 7, 7, 7, 7, 7, 7, 7, 7, 7, 7, 7, 7, 7, 7, 7, 7, 7, 7, 7, 8, 8, 8, 8, 8, 8, 8, 8, 8, 8, 8, 8, 8, 8, 8, 8, 8, 8, 8, 8, 8, 8, 8, 8, 8, 8, 8, 8, 8, 8, 8, 8, 8, 8, 8, 8, 8, 8, 8, 8, 8, 8, 8, 8, 8, 8, 8, 8, 8, 8, 8, 8, 8, 8, 8, 8, 8, 8, 8, 8, 8, 8, 8, 8, 8, 8, 8, 8, 8, 8, 8, 8, 8, 8, 8, 8, 8, 8, 8, 8, 8, 8, 8, 8, 8, 8, 8, 8, 8, 8, 8, 8, 8, 8, 8, 8, 8, 8, 8, 8, 8, 8, 8, 8, 8, 8, 8, 8, 8, 8, 8, 8, 8, 8, 8, 8, 8, 8, 8, 8, 8, 8, 8, 8, 8, 8, 8, 8] : List UInt8).length) : (([0, 1, 2, 2, 3, 3, 3, 3, 4, 4, 4, 4, 4, 4, 4, 4, 5, 5, 5, 5, 5, 5, 5, 5, 5, 5, 5, 5, 5, 5, 5, 5, 6, 6, 6, 6, 6, 6, 6, 6, 6, 6, 6, 6, 6, 6, 6, 6, 6, 6, 6, 6, 6, 6, 6, 6, 6, 6, 6, 6, 6, 6, 6, 6, 7, 7, 7, 7, 7, 7, 7, 7, 7, 7, 7, 7, 7, 7, 7, 7, 7, 7, 7, 7, 7, 7, 7, 7, 7, 7, 7, 7, 7, 7, 7, 7, 7, 7, 7, 7, 7, 7, 7, 7, 7, 7, 7, 7, 7, 7, 7, 7, 7, 7, 7, 7, 7, 7, 7, 7, 7, 7, 7, 7, 7, 7, 7, 7, 8, 8, 8, 8, 8, 8, 8, 8, 8, 8, 8, 8, 8, 8, 8, 8, 8, 8, 8, 8, 8, 8, 8, 8, 8, 8, 8, 8, 8, 8, 8, 8, 8, 8, 8, 8, 8, 8, 8, 8, 8, 8, 8, 8, 8, 8, 8, 8, 8, 8, 8, 8, 8, 8, 8, 8, 8, 8, 8, 8, 8, 8, 8, 8, 8, 8, 8, 8, 8, 8, 8, 8, 8, 8, 8, 8, 8, 8, 8, 8, 8, 8, 8, 8, 8, 8, 8, 8, 8, 8, 8, 8, 8, 8, 8, 8, 8, 8, 8, 8, 8, 8, 8, 8, 8, 8, 8, 8, 8, 8, 8, 8, 8, 8, 8, 8, 8, 8, 8, 8, 8, 8, 8, 8, 8, 8, 8, 8] : List UInt8)[(IntKind.u8.wrap x).toNat]'h).toNat = Lib.bitLen (IntKind.u8.wrap x).toNat := by
  rw [← lit8 x, List.getElem?_eq_getElem h]; rfl
theorem fd16 (x : Int) : x.fdiv (2 ^ min 16 IntKind.u32.bits) = x / 65536 := by rw [Int.fdiv_eq_ediv_of_nonneg _ (by decide)]; rfl
theorem fd8 (x : Int) : x.fdiv (2 ^ min 8 IntKind.u32.bits) = x / 256 := by rw [Int.fdiv_eq_ediv_of_nonneg _ (by decide)]; rfl
theorem bl_w (x : Int) (k : Nat) (hk : k ≤ 24) (h0 : 0 ≤ x) (h1 : x < 256) : IntKind.i64.wrap ((k : Int) + IntKind.i64.wrap (Lib.bitLen (IntKind.u8.wrap x).toNat)) = k + Lib.bitLen x.toNat := by
  have hw : IntKind.u8.wrap x = x := by rw [IntKind.wrap_u8]; omega
  rw [hw]
  have := Lib.bitLen_le x.toNat 8 (by omega) (by omega)
  rw [wrap_i64_in (n := (Lib.bitLen x.toNat : Int)) (by omega) (by omega), wrap_i64_in (by omega) (by omega)]
theorem i64_16 : IntKind.i64.wrap 16 = 16 := by decide
theorem i64_24 : IntKind.i64.wrap 24 = 24 := by decide
theorem i64_8 : IntKind.i64.wrap 8 = 8 := by decide
theorem bitLen_ok (x : Int) (h0 : 0 ≤ x) (h1 : x ≤ 4294967295) : Meets Tryz.prog 193 [uv x] (iv (bitLen x)) := by
  refine Meets.of Tryz.func193 rfl (by kernel_rfl) rfl ?_
  simp only [Tryz.ntmps193, St.start, argT]
  refine au ?_
  repeat intro K hK
  refine wr ?_
  repeat' (first | (with_reducible first | refine awp_seqK fun K hK => ?_ | refine awp_block ?_) | ((with_reducible first | refine awp_region (by kernel_rfl) ?_ | refine gcall_tt ?_ | refine gcall_ff ?_ | refine gcall_tf ?_ | refine gcall_ft ?_ | refine awp_skip ?_ | refine awp_exit ?_); simp [u8a, u8b, lit8, fd16, fd8, i64_16, i64_24, i64_8]) | ((repeat ((fail_if_success ((with_reducible refine hK _ ?_))); clear hK)); (with_reducible refine hK _ ?_); clear hK) | refine And.intro (by first | omega | assumption | grind) ?_ | (refine awp_cond rfl (fun h => ?_) (fun h => ?_) <;> (first | (simp [u8a, u8b, lit8, fd16, fd8, i64_16, i64_24, i64_8] at h; done) | (simp [u8a, u8b, lit8, fd16, fd8, i64_16, i64_24, i64_8] at h) | skip) <;> (first | (exfalso; omega) | skip)) | (refine awp_ret ?_; simp [u8a, u8b, lit8, fd16, fd8, i64_16, i64_24, i64_8]; (first | done | (simp_all [u8a, u8b, lit8, fd16, fd8, i64_16, i64_24, i64_8]; done) | (simp_all [u8a, u8b, lit8, fd16, fd8, i64_16, i64_24, i64_8]; omega) | grind); done) | (refine awp_fzA ?_; refine awp_ret ?_; simp [u8a, u8b, lit8, fd16, fd8, i64_16, i64_24, i64_8]; (first | done | (simp_all [u8a, u8b, lit8, fd16, fd8, i64_16, i64_24, i64_8]; done) | (simp_all [u8a, u8b, lit8, fd16, fd8, i64_16, i64_24, i64_8]; omega) | grind); done) | (refine awp_ret ?_; simp [u8a, u8b, lit8, fd16, fd8, i64_16, i64_24, i64_8]; done) | (refine awp_fzA ?_; refine awp_ret ?_; simp [u8a, u8b, lit8, fd16, fd8, i64_16, i64_24, i64_8]; done))
  all_goals refine awp_ret ?_
  all_goals simp [lit8g]
  · skip
    have e := bl_w (x / 65536 / 256) 24 (by omega) (by omega) (by omega)
    simp at e
    rw [e]
    have e2 := Lib.bitLen_shift24 x.toNat (by omega) (by omega)
    unfold bitLen
    rw [e2, show (x / 65536 / 256).toNat = x.toNat / 16777216 by omega]
    simp
  · skip
    have e := bl_w (x / 65536) 16 (by omega) (by omega) (by omega)
    simp at e
    rw [e]
    have e2 := Lib.bitLen_shift16 x.toNat (by omega) (by omega)
    unfold bitLen
    rw [e2, show (x / 65536).toNat = x.toNat / 65536 by omega]
    simp
  · skip
    have e := bl_w (x / 256) 8 (by omega) (by omega) (by omega)
    simp at e
    rw [e]
    have e2 := Lib.bitLen_shift8 x.toNat (by omega) (by omega)
    unfold bitLen
    rw [e2, show (x / 256).toNat = x.toNat / 256 by omega]
    simp
  · skip
    have e := bl_w x 0 (by omega) (by omega) (by omega)
    simp at e
    rw [e]
    rfl
theorem balMay_ok (a g p : Int) (h0 : 0 ≤ g) (h1 : g ≤ 4294967295) : Meets Tryz.prog 145 [.st [uv a, uv g], iv p] (.bool (balMay g p)) := by
  refine Meets.of Tryz.func145 rfl (by kernel_rfl) rfl ?_
  simp only [Tryz.ntmps145, St.start, argT]
  refine au ?_
  repeat intro K hK
  refine wr ?_
  (refine au1 @balMay.eq_1 ?_; (repeat intro K hK); refine wr ?_)
  repeat' ((first | (refine awp_cond rfl (fun h => ?_) (fun h => ?_) <;> (first | (simp [balMay] at h; done) | (simp [balMay] at h) | skip) <;> (first | (exfalso; omega) | skip)) | refine cc1 (bitLen_ok _ h0 h1) @balMay.eq_1 ?_ | exact rt1 @balMay.eq_1 | fail) <;> (refine au1 @balMay.eq_1 ?_; (repeat intro K hK); refine wr ?_))
theorem mayDev_ok (m : MchD) (h0 : 0 ≤ m.given) (h1 : m.given ≤ 4294967295) : Meets Tryz.prog 88 [.st m.row] (.bool (decide ((m.keys.length : Int) ≤ 16) && timMay m.tim && dskMay m.dk (pagesD m.mem) && nicMay m.nc (pagesD m.mem) && balMay m.given (pagesD m.mem))) := by
  refine Meets.of Tryz.func88 rfl (by kernel_rfl) rfl ?_
  simp only [Tryz.ntmps88, St.start, argT]
  refine au ?_
  repeat intro K hK
  refine wr ?_
  (refine au ?_; (repeat intro K hK); refine wr ?_)
  repeat' ((first | (refine awp_cond rfl (fun h => ?_) (fun h => ?_) <;> (first | (simp at h; done) | (simp at h) | skip) <;> (first | (exfalso; omega) | skip)) | refine cc (pages_ok m.mem) ?_ | refine cc (conMay_ok m.keys) ?_ | refine cc (timMay_ok m.tim) ?_ | refine cc (dskMay_ok m.dk (pagesD m.mem)) ?_ | refine cc (nicMay_ok m.nc (pagesD m.mem)) ?_ | refine cc (balMay_ok m.tgt m.given (pagesD m.mem) h0 h1) ?_ | exact rt | fail) <;> (refine au ?_; (repeat intro K hK); refine wr ?_))
theorem may_ok (m : MchD) (h0 : 0 ≤ m.given) (h1 : m.given ≤ 4294967295) : Meets Tryz.prog 46 [.st m.row] (.bool (mayD m)) := by
  refine Meets.of Tryz.func46 rfl (by kernel_rfl) rfl ?_
  simp only [Tryz.ntmps46, St.start, argT]
  refine au ?_
  repeat intro K hK
  refine wr ?_
  (refine au1 @mayD.eq_1 ?_; (repeat intro K hK); refine wr ?_)
  repeat' ((first | (refine awp_cond rfl (fun h => ?_) (fun h => ?_) <;> (first | (simp [mayD] at h; done) | (simp [mayD] at h) | skip) <;> (first | (exfalso; omega) | skip)) | refine cc1 (pages_ok m.mem) @mayD.eq_1 ?_ | refine cc1 (mayDev_ok m h0 h1) @mayD.eq_1 ?_ | exact rt1 @mayD.eq_1 | fail) <;> (refine au1 @mayD.eq_1 ?_; (repeat intro K hK); refine wr ?_))
end Go.Proofs.YtpifpdjefbehmaaGreat
