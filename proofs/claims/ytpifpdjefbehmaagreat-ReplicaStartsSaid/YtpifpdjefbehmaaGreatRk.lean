/- Replicas, the fixed run: the store. -/
import Derived.Test.YtpifpdjefbehmaaGreatRj
namespace Go.Proofs.YtpifpdjefbehmaaGreat
open Go.Ab Go.RowKit
set_option linter.unusedSimpArgs false
set_option maxRecDepth 100000
set_option maxHeartbeats 8000000
theorem next_ex (x : Int) : ∃ a b, Meets Tryz.prog 164 [.int .u64 x] (.tup [.int .u64 a, .int .u64 b]) := by
  apply Exists.intro
  apply Exists.intro
  refine Meets.of Tryz.func164 rfl (by kernel_rfl) rfl ?_
  simp only [Tryz.ntmps164, St.start, argT]
  refine au ?_
  repeat intro K hK
  refine wr ?_
  refine awp_ret ?_
  simp
  exact ⟨rfl, rfl⟩
theorem mix_ex (n k : Int) : ∃ m, Meets Tryz.prog 109 [.int .i64 n, .int .i64 k] (.int .i64 m) := by
  apply Exists.intro
  refine Meets.of Tryz.func109 rfl (by kernel_rfl) rfl ?_
  simp only [Tryz.ntmps109, St.start, argT]
  refine au ?_
  repeat intro K hK
  refine wr ?_
  refine cc (Classical.choose_spec (Classical.choose_spec (next_ex _))) ?_
  refine au ?_
  repeat intro K hK
  refine wr ?_
  refine awp_ret ?_
  simp
  rfl
noncomputable def mixA (n k : Int) : Int := Classical.choose (mix_ex n k)
theorem mix_ok (n k : Int) : Meets Tryz.prog 109 [.int .i64 n, .int .i64 k] (.int .i64 (mixA n k)) := Classical.choose_spec (mix_ex n k)
noncomputable def byteA (n : Int) (i : Nat) : UInt8 := UInt8.ofNat (IntKind.u8.wrap (mixA n ((i : Int) / 9))).toNat
theorem byteA_eq (n : Int) (i : Nat) : IntKind.u8.wrap (mixA n ((i : Int) / 9)) = ((byteA n i).toNat : Int) := by
  have h : 0 ≤ IntKind.u8.wrap (mixA n ((i : Int) / 9)) ∧ IntKind.u8.wrap (mixA n ((i : Int) / 9)) < 256 := by rw [IntKind.wrap_u8]; omega
  unfold byteA
  rw [UInt8.toNat_ofNat']; omega
noncomputable def dataA (n : Int) (k : Nat) : List UInt8 := (List.range k).map (byteA n)
theorem dataA_len (n : Int) (k : Nat) : (dataA n k).length = k := by simp [dataA]
theorem dataA_succ (n : Int) (i : Nat) : bytesX (dataA n i) ++ [[V.int .u8 ((byteA n i).toNat : Int)]] = bytesX (dataA n (i + 1)) := by simp [dataA, bytesX, List.range_succ]
theorem bx_len (n : Int) (i : Nat) : (bytesX (dataA n i)).length = i := by rw [bytesX_len, dataA_len]
@[simp] theorem strs0 : strs [] = [] := rfl
@[simp] theorem bx0 (n : Int) : bytesX (dataA n 0) = [] := by simp [dataA, bytesX]
theorem data_ok (n : Int) : Meets Tryz.prog 60 [iv n, iv 128] (.str (dataA n 128)) := by
  refine Meets.of Tryz.func60 rfl (by kernel_rfl) rfl ?_
  simp only [Tryz.ntmps60, St.start, argT]
  refine au ?_
  repeat intro K hK
  refine wr ?_
  refine awp_nilOwn 5 5 1 (by decide) rfl ?_
  obtain ⟨I, hI⟩ : ∃ I : Nat → St → Prop, I = (fun kk ss => ∃ (i : Nat) , i ≤ 128 ∧ kk = 128 - i ∧ (True) ∧ ss = ⟨22, [(6, .int .i64 i), (5, .own 0), (1, iv 128), (0, iv n)], 1, [(0, some ⟨5, 1, false, false, bytesX (dataA n i)⟩)], 0⟩) := ⟨_, rfl⟩
  refine awp_loopA I (k0 := 128) (st0 := (fun (i : Nat)  => (⟨22, [(6, .int .i64 i), (5, .own 0), (1, iv 128), (0, iv n)], 1, [(0, some ⟨5, 1, false, false, bytesX (dataA n i)⟩)], 0⟩ : St)) 0 ) (ρ0 := id) ⟨rfl, by simp [leT, ltV, lt1, ren, ren1], by simp [leO, lt1, ren1], by simp, by simp⟩ (by rw [hI]; exact ⟨0, by simp, by simp, trivial, rfl⟩) ?_
  intro kk ss hIk _
  rw [hI] at hIk
  obtain ⟨i, hi, rfl, hx, rfl⟩ := hIk
  refine au ?_
  repeat intro K hK
  refine wr ?_
  refine awp_cond rfl (fun h => ?_) (fun h => ?_)
  · simp at h
    have hl := bx_len n i
    have hb := byteA_eq n i
    have hw : IntKind.i64.wrap ((i : Int) / 9) = (i : Int) / 9 := wrap_i64_in (by omega) (by omega)
    refine au1 @hw ?_
    repeat intro K hK
    refine wr ?_
    refine ccm3 (mix_ok n ((i : Int) / 9)) @hl @hb @maxLen.eq_1 ?_
    refine aum3 @hl @hb @maxLen.eq_1 ?_
    repeat intro K hK
    refine wr ?_
    refine again_of (128 - (i + 1)) ((fun (i : Nat)  => (⟨22, [(6, .int .i64 i), (5, .own 0), (1, iv 128), (0, iv n)], 1, [(0, some ⟨5, 1, false, false, bytesX (dataA n i)⟩)], 0⟩ : St)) (i + 1) ) (fun x => if x = 0 then 3 else x) (by omega) (by rw [hI]; exact ⟨i + 1, by omega, rfl, trivial, rfl⟩) ⟨rfl, ?_, ?_, ?_, by simp⟩
    · simp [leT, ltV, lt1, ren, ren1, wrap_i64_in (n := (i : Int) + 1) (by omega) (by omega), dataA_succ]
    · simp [leO, lt1, ren1, dataA_succ]
    · (simp; try omega)
  · simp at h
    have hi : i = 128 := by omega
    subst hi
    have hs := bytesX_str (dataA n 128)
    have hB := bytesX_isB (dataA n 128)
    refine aum2 @hs @hB ?_
    repeat intro K hK
    refine wr ?_
    refine awp_ret ?_
    simp
noncomputable def blocksA : List (List UInt8) := [dataA 1 128, dataA 2 128, dataA 3 128, dataA 4 128]
theorem blocks_ok : Meets Tryz.prog 33 [iv 1] (.new 9 1 (strs blocksA)) := by
  refine Meets.of Tryz.func33 rfl (by kernel_rfl) rfl ?_
  simp only [Tryz.ntmps33, St.start, argT]
  refine au ?_
  repeat intro K hK
  refine wr ?_
  refine awp_nilOwn 3 9 1 (by decide) rfl ?_
  obtain ⟨I, hI⟩ : ∃ I : Nat → St → Prop, I = (fun kk ss => ∃ (i : Nat) , i ≤ 4 ∧ kk = 4 - i ∧ (True) ∧ ss = ⟨17, [(4, .int .i64 i), (3, .own 0), (0, iv 1)], 1, [(0, some ⟨9, 1, false, false, strs (blocksA.take i)⟩)], 0⟩) := ⟨_, rfl⟩
  refine awp_loopA I (k0 := 4) (st0 := (fun (i : Nat)  => (⟨17, [(4, .int .i64 i), (3, .own 0), (0, iv 1)], 1, [(0, some ⟨9, 1, false, false, strs (blocksA.take i)⟩)], 0⟩ : St)) 0 ) (ρ0 := id) ⟨rfl, by simp [leT, ltV, lt1, ren, ren1], by simp [leO, lt1, ren1], by simp, by simp⟩ (by rw [hI]; exact ⟨0, by simp, by simp, trivial, rfl⟩) ?_
  intro kk ss hIk _
  rw [hI] at hIk
  obtain ⟨i, hi, rfl, hx, rfl⟩ := hIk
  refine au ?_
  repeat intro K hK
  refine wr ?_
  refine awp_cond rfl (fun h => ?_) (fun h => ?_)
  · simp at h
    have hw : IntKind.i64.wrap (1 + (i : Int)) = 1 + (i : Int) := wrap_i64_in (by omega) (by omega)
    have hl : (strs (blocksA.take i)).length = i := by rw [sstr_len, List.length_take]; simp [blocksA]; omega
    have hs : strs (blocksA.take i) ++ [[V.str (dataA (1 + (i : Int)) 128)]] = strs (blocksA.take (i + 1)) := by
      have : i = 0 ∨ i = 1 ∨ i = 2 ∨ i = 3 := by omega
      rcases this with rfl | rfl | rfl | rfl <;> simp [blocksA, strs]
    refine au1 @hw ?_
    repeat intro K hK
    refine wr ?_
    refine ccm2 (data_ok (1 + (i : Int))) @hl @maxLen.eq_1 ?_
    refine aum2 @hl @maxLen.eq_1 ?_
    repeat intro K hK
    refine wr ?_
    refine again_of (4 - (i + 1)) ((fun (i : Nat)  => (⟨17, [(4, .int .i64 i), (3, .own 0), (0, iv 1)], 1, [(0, some ⟨9, 1, false, false, strs (blocksA.take i)⟩)], 0⟩ : St)) (i + 1) ) (fun x => if x = 0 then 3 else x) (by omega) (by rw [hI]; exact ⟨i + 1, by omega, rfl, trivial, rfl⟩) ⟨rfl, ?_, ?_, ?_, by simp⟩
    · simp [leT, ltV, lt1, ren, ren1, wrap_i64_in (n := (i : Int) + 1) (by omega) (by omega), hs]
    · simp [leO, lt1, ren1, hs]
    · (simp; try omega)
  · simp at h
    have hi : i = 4 := by omega
    subst hi
    have ht : blocksA.take 4 = blocksA := by simp [blocksA]
    refine au ?_
    repeat intro K hK
    refine wr ?_
    refine awp_ret ?_
    simp [ht]
abbrev storeV (bs : List (List UInt8)) (gen owner : Int) : V := .st [.sl 1 false (strs bs), lv gen, iv owner]
theorem strs_ge (l : List (List UInt8)) (i : Nat) (h : i < (strs l).length) : (strs l)[i]'h = [V.str (l[i]'(by simpa [strs] using h))] := by simp [strs]
theorem valStore_ok (bs : List (List UInt8)) (hb : ∀ b ∈ bs, b.length = 128) (h1 : 1 ≤ bs.length) (h2 : bs.length ≤ 64) : Meets Tryz.prog 59 [storeV bs 0 (-1)] (.bool true) := by
  have hl := sstr_len bs
  refine Meets.of Tryz.func59 rfl (by kernel_rfl) rfl ?_
  simp only [Tryz.ntmps59, St.start, argT]
  refine au1 @hl ?_
  repeat intro K hK
  refine wr ?_
  refine awp_cond rfl (fun h => by simp at h; omega) (fun _ => ?_)
  refine au ?_
  repeat intro K hK
  refine wr ?_
  obtain ⟨I, hI⟩ : ∃ I : Nat → St → Prop, I = (fun kk ss => ∃ (i : Nat) , i ≤ bs.length ∧ kk = bs.length - i ∧ (True) ∧ ss = ⟨53, [(3, .int .i64 i), (1, .ptr 0 3 0 0)], 1, [(0, some ⟨67, 3, true, false, [[.sl 1 false (strs bs), lv 0, iv (-1)]]⟩)], 0⟩) := ⟨_, rfl⟩
  refine awp_loopA I (k0 := bs.length) (st0 := (fun (i : Nat)  => (⟨53, [(3, .int .i64 i), (1, .ptr 0 3 0 0)], 1, [(0, some ⟨67, 3, true, false, [[.sl 1 false (strs bs), lv 0, iv (-1)]]⟩)], 0⟩ : St)) 0 ) (ρ0 := id) ⟨rfl, by simp [leT, ltV, lt1, ren, ren1], by simp [leO, lt1, ren1], by simp, by simp⟩ (by rw [hI]; exact ⟨0, by simp, by simp, trivial, rfl⟩) ?_
  intro kk ss hIk _
  rw [hI] at hIk
  obtain ⟨i, hi, rfl, hx, rfl⟩ := hIk
  refine au1 @hl ?_
  repeat intro K hK
  refine wr ?_
  refine awp_cond rfl (fun h => ?_) (fun h => ?_)
  · simp at h
    obtain ⟨s, hs⟩ : ∃ s, bs[i] = s := ⟨_, rfl⟩
    have hge : s.length = 128 := by have := hb _ (List.getElem_mem h); rwa [hs] at this
    have hsg : (strs bs)[i]? = some [.str s] := by simp [strs, h, hs]
    refine aum3 @hl @hsg @hge ?_
    repeat intro K hK
    refine wr ?_
    refine awp_cond rfl (fun h => by simp at h) (fun _ => ?_)
    refine au ?_
    repeat intro K hK
    refine wr ?_
    refine again_of (bs.length - (i + 1)) ((fun (i : Nat)  => (⟨53, [(3, .int .i64 i), (1, .ptr 0 3 0 0)], 1, [(0, some ⟨67, 3, true, false, [[.sl 1 false (strs bs), lv 0, iv (-1)]]⟩)], 0⟩ : St)) (i + 1) ) (id) (by omega) (by rw [hI]; exact ⟨i + 1, by omega, rfl, trivial, rfl⟩) ⟨rfl, ?_, ?_, ?_, by simp⟩
    · simp [leT, ltV, lt1, ren, ren1, wrap_i64_in (n := (i : Int) + 1) (by omega) (by omega)]
    · simp [leO, lt1, ren1]
    · (simp; try omega)
  · simp at h
    refine au ?_
    repeat intro K hK
    refine wr ?_
    refine awp_ret ?_
    simp
theorem blocksA_len : ∀ b ∈ blocksA, b.length = 128 := by simp [blocksA, dataA_len]
theorem store_ok : Meets Tryz.prog 32 [.sl 1 false (strs blocksA)] (.tup [storeV blocksA 0 (-1), .bool true]) := by
  have hl : (strs blocksA).length = 4 := by rw [sstr_len]; simp [blocksA]
  refine Meets.of Tryz.func32 rfl (by kernel_rfl) rfl ?_
  simp only [Tryz.ntmps32, St.start, argT]
  refine aum2 @hl @maxLen.eq_1 ?_
  repeat intro K hK
  refine wr ?_
  (refine au2 @hl @maxLen.eq_1 ?_; (repeat intro K hK); refine wr ?_)
  repeat' ((first | (refine awp_cond rfl (fun h => ?_) (fun h => ?_) <;> (first | (simp [hl, maxLen] at h; done) | (simp [hl, maxLen] at h) | skip) <;> (first | (exfalso; omega) | skip)) | refine cc2 (valStore_ok blocksA blocksA_len (by simp [blocksA]) (by simp [blocksA])) @hl @maxLen.eq_1 ?_ | exact rt2 @hl @maxLen.eq_1 | fail) <;> (refine au2 @hl @maxLen.eq_1 ?_; (repeat intro K hK); refine wr ?_))
theorem claim_ok : Meets Tryz.prog 34 [storeV blocksA 0 (-1), iv 0, lv 0] (.tup [storeV blocksA 1 0, .bool true]) := by
  refine Meets.of Tryz.func34 rfl (by kernel_rfl) rfl ?_
  simp only [Tryz.ntmps34, St.start, argT]
  refine au ?_
  repeat intro K hK
  refine wr ?_
  (refine au ?_; (repeat intro K hK); refine wr ?_)
  repeat' ((first | (refine awp_cond rfl (fun h => ?_) (fun h => ?_) <;> (first | (simp at h; done) | (simp at h) | skip) <;> (first | (exfalso; omega) | skip)) | refine cc (valStore_ok blocksA blocksA_len (by simp [blocksA]) (by simp [blocksA])) ?_ | exact rt | fail) <;> (refine au ?_; (repeat intro K hK); refine wr ?_))
end Go.Proofs.YtpifpdjefbehmaaGreat
