/- bits.Hash, eventlog.sum, Seal. -/
import Derived.Test.YtpifpdjefbehmaaGreatRw
namespace Go.Proofs.YtpifpdjefbehmaaGreat
open Go.Ab Go.RowKit
set_option linter.unusedSimpArgs false
set_option maxRecDepth 100000
set_option maxHeartbeats 16000000
/-- one byte more in a hash -/
def hstep (h : Int) (b : UInt8) : Int := IntKind.u64.wrap (ixor .u64 h (IntKind.u64.wrap (b.toNat : Int)) * 1099511628211)
def hashI (h : Int) (s : Str) : Int := s.foldl hstep h
theorem hash_take (h : Int) (s : Str) (i : Nat) (hi : i < s.length) : hashI h (s.take (i + 1)) = hstep (hashI h (s.take i)) s[i] := by
  unfold hashI
  rw [List.take_succ_eq_append_getElem hi, List.foldl_append]
  rfl
theorem hash_ok (h : Int) (s : Str) (hl : s.length ≤ 1000000) : Meets Tryz.prog 182 [lv h, .str s] (lv (hashI h s)) := by
  refine Meets.of Tryz.func182 rfl (by kernel_rfl) rfl ?_
  simp only [Tryz.ntmps182, St.start, argT]
  refine au ?_
  repeat intro K hK
  refine wr ?_
  obtain ⟨I, hI⟩ : ∃ I : Nat → St → Prop, I = (fun kk ss => ∃ (i : Nat) (g : Int), i ≤ s.length ∧ kk = s.length - i ∧ (g = hashI h (s.take i)) ∧ ss = ⟨20, [(8, .int .i64 i), (7, .int .i64 s.length), (1, .str s), (0, .int .u64 g)], 0, [], 0⟩) := ⟨_, rfl⟩
  refine awp_loopA I (k0 := s.length) (st0 := (fun (i : Nat) (g : Int) => (⟨20, [(8, .int .i64 i), (7, .int .i64 s.length), (1, .str s), (0, .int .u64 g)], 0, [], 0⟩ : St)) 0 h) (ρ0 := id) ⟨rfl, by simp [leT, ltV, lt1, ren, ren1], by simp [leO, lt1, ren1], by simp, by simp⟩ (by rw [hI]; exact ⟨0, h, by simp, by simp, rfl, rfl⟩) ?_
  intro kk ss hIk _
  rw [hI] at hIk
  obtain ⟨i, g, hi, rfl, hx, rfl⟩ := hIk
  refine au ?_
  repeat intro K hK
  refine wr ?_
  refine awp_cond rfl (fun hh => ?_) (fun hh => ?_)
  · simp at hh
    obtain ⟨c, hc⟩ : ∃ c, c = s[i] := ⟨_, rfl⟩
    have hget : s[i]? = some c := by rw [hc]; exact List.getElem?_eq_getElem hh
    have ht := hash_take h s i hh
    rw [← hc] at ht
    refine au1 @hget ?_
    repeat intro K hK
    refine wr ?_
    refine again_of (s.length - (i + 1)) ((fun (i : Nat) (g : Int) => (⟨20, [(8, .int .i64 i), (7, .int .i64 s.length), (1, .str s), (0, .int .u64 g)], 0, [], 0⟩ : St)) (i + 1) (hashI h (s.take (i + 1)))) (id) (by omega) (by rw [hI]; exact ⟨i + 1, (hashI h (s.take (i + 1))), by omega, rfl, rfl, rfl⟩) ⟨rfl, ?_, ?_, ?_, by simp⟩
    · simp [leT, ltV, lt1, ren, ren1, wrap_i64_in (n := (i : Int) + 1) (by omega) (by omega), ht, hx, hstep]
    · simp [leO, lt1, ren1, ht, hx, hstep]
    · (simp; try omega)
  · simp at hh
    have hii : s.take i = s := List.take_of_length_le (by omega)
    refine au ?_
    repeat intro K hK
    refine wr ?_
    refine awp_ret ?_
    simp [hx, hii]
/-- the bytes of a hash -/
def sumD (h : Int) : Str := [56, 48, 40, 32, 24, 16, 8, 0].map fun k : Nat => UInt8.ofNat (IntKind.u8.wrap (h.fdiv (2 ^ k))).toNat
theorem wrapu8_lo (n : Int) : 0 ≤ IntKind.u8.wrap n := by rw [IntKind.wrap_u8]; omega
theorem wrapu8_hi (n : Int) : IntKind.u8.wrap n < 256 := by rw [IntKind.wrap_u8]; omega
theorem b64 : IntKind.u64.bits = 64 := rfl
theorem sum_ok (s : Str) (hl : s.length ≤ 1000000) : Meets Tryz.prog 128 [.str s] (.str (sumD (hashI 14695981039346656037 s))) := by
  obtain ⟨z, hz⟩ : ∃ z, z = hashI 14695981039346656037 s := ⟨_, rfl⟩
  have hh := hash_ok 14695981039346656037 s hl
  rw [← hz] at hh ⊢
  refine Meets.of Tryz.func128 rfl (by kernel_rfl) rfl ?_
  simp only [Tryz.ntmps128, St.start, argT]
  refine au ?_
  repeat intro K hK
  refine wr ?_
  refine cc (hh) ?_
  refine au ?_
  repeat intro K hK
  refine wr ?_
  (refine au5 @wrapu8_lo @wrapu8_hi @sumD.eq_1 @maxLen.eq_1 @b64 ?_; (repeat intro K hK); refine wr ?_)
  repeat' ((first | (refine awp_cond rfl (fun h => ?_) (fun h => ?_) <;> (first | (simp [wrapu8_lo, wrapu8_hi, sumD, maxLen, b64] at h; done) | (simp [wrapu8_lo, wrapu8_hi, sumD, maxLen, b64] at h) | skip) <;> (first | (exfalso; omega) | skip)) | refine awp_rounds 9 ?_ | refine arounds_step fun K hK => ?_ | exact rt5 @wrapu8_lo @wrapu8_hi @sumD.eq_1 @maxLen.eq_1 @b64 | fail) <;> (refine au5 @wrapu8_lo @wrapu8_hi @sumD.eq_1 @maxLen.eq_1 @b64 ?_; (repeat intro K hK); refine wr ?_))
theorem sum_len (h : Int) : (sumD h).length = 8 := by simp [sumD]
/-- a sealed packet, its number and its length below 128 -/
def sealB (n : Int) (b : Str) : Str := UInt8.ofNat n.toNat :: UInt8.ofNat b.length :: b
def sealD (n : Int) (b : Str) : Str := sealB n b ++ sumD (hashI 14695981039346656037 (sealB n b))
theorem seal_ok (n : Int) (b : Str) (h0 : 0 ≤ n) (h1 : n < 128) (hb : b.length < 128) : Meets Tryz.prog 77 [lv n, .str b] (.str (sealD n b)) := by
  have hw : IntKind.u64.wrap (b.length : Int) = (b.length : Int) := by rw [IntKind.wrap_u64]; omega
  have hs := sum_ok (sealB n b) (by simp [sealB]; omega)
  have hl := sum_len (hashI 14695981039346656037 (sealB n b))
  refine Meets.of Tryz.func77 rfl (by kernel_rfl) rfl ?_
  simp only [Tryz.ntmps77, St.start, argT]
  refine au ?_
  repeat intro K hK
  refine wr ?_
  (refine au3 @hw @sealB.eq_1 @sum_len ?_; (repeat intro K hK); refine wr ?_)
  repeat' ((first | (refine awp_cond rfl (fun h => ?_) (fun h => ?_) <;> (first | (simp [hw, sealB, sum_len] at h; done) | (simp [hw, sealB, sum_len] at h) | skip) <;> (first | (exfalso; omega) | skip)) | refine cc3 (putu_ok n h0 h1) @hw @sealB.eq_1 @sum_len ?_ | refine cc3 (putu_ok (b.length : Int) (by omega) (by omega)) @hw @sealB.eq_1 @sum_len ?_ | refine cc3 (hs) @hw @sealB.eq_1 @sum_len ?_ | (refine awp_ret ?_; simp [hw, sealB, sum_len]; (simp [sealD, sealB]); done) | (refine awp_fzA ?_; refine awp_ret ?_; simp [hw, sealB, sum_len]; (simp [sealD, sealB]); done) | fail) <;> (refine au3 @hw @sealB.eq_1 @sum_len ?_; (repeat intro K hK); refine wr ?_))
end Go.Proofs.YtpifpdjefbehmaaGreat
