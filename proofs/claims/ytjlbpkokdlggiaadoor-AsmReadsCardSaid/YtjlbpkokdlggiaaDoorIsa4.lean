/- Contracts of package isa: Encode and Decode; the document's. -/
import Derived.Test.YtjlbpkokdlggiaaDoorIsa3
namespace Go.Proofs.YtjlbpkokdlggiaaDoor
open Go.Ab
set_option linter.unusedSimpArgs false
set_option maxRecDepth 100000
theorem formD_op {op : Int} (h : formD op ≠ 0) : 1 ≤ op ∧ op ≤ 64 := by
  apply Classical.byContradiction
  intro hn
  apply h
  unfold formD
  repeat rw [if_neg (by omega)]
theorem valid_facts {i : InstD} (h : validD i = true) : (1 ≤ i.op ∧ i.op ≤ 64) ∧ (0 ≤ i.a ∧ i.a ≤ 15) ∧ (0 ≤ i.b ∧ i.b ≤ 15) ∧ (0 ≤ i.c ∧ i.c ≤ 15) ∧ (-32768 ≤ i.imm ∧ i.imm ≤ 65535) ∧ (i.c = 0 ∨ i.imm = 0) := by
  have h0 : formD i.op ≠ 0 := by
    unfold validD at h
    simp only [Bool.and_eq_true, decide_eq_true_eq] at h
    exact h.1.1.1.1.1
  refine ⟨formD_op h0, ?_⟩
  rcases formD_cases i.op with q | q | q | q | q | q | q | q | q | q <;> simp [validD, regB, uA, uB, uC, lowD, highD, q] at h <;> omega
def encW (i : InstD) : Int := i.op * 16777216 + i.a * 1048576 + i.b * 65536 + (i.c + i.imm) % 65536
theorem or_zero (x y : Int) (h : x = 0 ∨ y = 0) : IntKind.u32.wrap ((BitVec.ofInt 32 (IntKind.u32.wrap x) ||| BitVec.ofInt 32 (IntKind.u32.wrap y)).toNat : Int) = (x + y) % 4294967296 := by
  have key : ∀ z : Int, IntKind.u32.wrap ((BitVec.ofInt 32 (IntKind.u32.wrap z)).toNat : Int) = z % 4294967296 := fun z => by
    rw [ofInt_toNat, IntKind.wrap_u32, IntKind.wrap_u32]; omega
  have hz : BitVec.ofInt 32 (IntKind.u32.wrap 0) = 0#32 := by decide
  rcases h with rfl | rfl
  · rw [hz, BitVec.zero_or, key, Int.zero_add]
  · rw [hz, BitVec.or_zero, key, Int.add_zero]
set_option maxHeartbeats 8000000 in
theorem encode_ok (i : InstD) : Meets Tryd.prog 18 [.st i.row] (.tup [.int .u32 (if validD i then encW i else 0), .int .i64 (if validD i then 0 else 200)]) := by
  refine Meets.of Tryd.func18 rfl (by kernel_rfl) rfl ?_
  simp only [Tryd.ntmps18, St.start, argT]
  refine au  ?_
  repeat intro K hK
  refine wr ?_
  refine ca (valid_ok i)  ?_
  cases hv : validD i with
  | false =>
    refine au  ?_
    repeat intro K hK
    refine wr ?_
    refine awp_cond rfl (fun _ => ?_) (fun h => by simp at h)
    refine au  ?_
    repeat intro K hK
    refine wr ?_
    refine awp_ret ?_
    simp [hv]
  | true =>
    obtain ⟨f1, f2, f3, f4, f5, f6⟩ := valid_facts hv
    have w1 : IntKind.u32.wrap i.op = i.op := by rw [IntKind.wrap_u32]; omega
    have w2 : IntKind.u32.wrap i.a = i.a := by rw [IntKind.wrap_u32]; omega
    have w3 : IntKind.u32.wrap i.b = i.b := by rw [IntKind.wrap_u32]; omega
    have w4 := or_zero i.c i.imm f6
    rw [BitVec.toNat_or, ofInt_toNat, ofInt_toNat] at w4
    refine au  ?_
    repeat intro K hK
    refine wr ?_
    refine awp_cond rfl (fun h => by simp at h) (fun _ => ?_)
    refine au1 @w1 ?_
    repeat intro K hK
    refine wr ?_
    refine ca3 (set8_ok i.op) @w1 @w2 @w3 ?_
    refine au3 @w1 @w2 @w3 ?_
    repeat intro K hK
    refine wr ?_
    refine ca3 (set4_ok (i.op % 256 * 16777216) i.a (by omega) (by omega) (by omega)) @w1 @w2 @w3 ?_
    refine au3 @w1 @w2 @w3 ?_
    repeat intro K hK
    refine wr ?_
    refine ca3 (set4b_ok (i.op % 256 * 16777216 + i.a % 16 * 1048576) i.b (by omega) (by omega) (by omega)) @w1 @w2 @w3 ?_
    refine au3 @w1 @w2 @w3 ?_
    repeat intro K hK
    refine wr ?_
    refine ca (set16_ok (i.op % 256 * 16777216 + i.a % 16 * 1048576 + i.b % 16 * 65536) (IntKind.u32.wrap ((BitVec.ofInt 32 (IntKind.u32.wrap i.c) ||| BitVec.ofInt 32 (IntKind.u32.wrap i.imm)).toNat : Int)) (by omega) (by omega) (by omega))  ?_
    refine au  ?_
    repeat intro K hK
    refine wr ?_
    refine awp_ret ?_
    simp [encW, hv]
    rw [w4]
    omega
def sext (x : Int) : Int := if x < 32768 then x else x - 65536
def decI (w : Int) : InstD := ⟨w / 16777216 % 256, w / 1048576 % 16, w / 65536 % 16, if formD (w / 16777216 % 256) = 2 then w % 65536 else 0,
  if formD (w / 16777216 % 256) = 2 then 0 else if formD (w / 16777216 % 256) = 3 ∨ formD (w / 16777216 % 256) = 7 then sext (w % 65536) else w % 65536⟩
def zeroI : InstD := ⟨0, 0, 0, 0, 0⟩
abbrev decV (w : Int) : V := .tup [.st (if validD (decI w) then decI w else zeroI).row, .bool (validD (decI w))]
set_option maxHeartbeats 16000000 in
theorem decode_ok (w : Int) : Meets Tryd.prog 15 [.int .u32 w] (decV w) := by
  have c1 : IntKind.i64.wrap (w / 16777216 % 256) = w / 16777216 % 256 := wrap_i64_in (by omega) (by omega)
  have c2 : IntKind.i64.wrap (w / 1048576 % 16) = w / 1048576 % 16 := wrap_i64_in (by omega) (by omega)
  have c3 : IntKind.i64.wrap (w / 65536 % 16) = w / 65536 % 16 := wrap_i64_in (by omega) (by omega)
  have c4 : IntKind.i64.wrap (w % 65536) = w % 65536 := wrap_i64_in (by omega) (by omega)
  have c5 : IntKind.i32.wrap (w % 65536) = w % 65536 := by rw [IntKind.wrap_i32]; omega
  have c6 : IntKind.i32.wrap (if w % 65536 < 32768 then w % 65536 else w % 65536 + 4294901760) = sext (w % 65536) := by rw [IntKind.wrap_i32]; unfold sext; split <;> omega
  refine Meets.of Tryd.func15 rfl (by kernel_rfl) rfl ?_
  simp only [Tryd.ntmps15, St.start, argT]
  refine au  ?_
  repeat intro K hK
  refine wr ?_
  refine ca1 (field8_ok w) @c1 ?_
  refine au1 @c1 ?_
  repeat intro K hK
  refine wr ?_
  refine ca1 (field4_ok w) @c2 ?_
  refine au1 @c2 ?_
  repeat intro K hK
  refine wr ?_
  refine ca1 (field4b_ok w) @c3 ?_
  refine au1 @c3 ?_
  repeat intro K hK
  refine wr ?_
  refine ca (use_ok (w / 16777216 % 256))  ?_
  refine au  ?_
  repeat intro K hK
  refine wr ?_
  refine awp_cond rfl (fun hf => ?_) (fun hf => ?_)
  · simp at hf
    have hv : validD (decI w) = false := by simp [validD, decI, hf]
    refine au  ?_
    repeat intro K hK
    refine wr ?_
    refine awp_fzA ?_
    refine awp_ret ?_
    simp [hv, zeroI]
  simp at hf
  refine au  ?_
  repeat intro K hK
  refine wr ?_
  refine ca (field16_ok w)  ?_
  refine au  ?_
  repeat intro K hK
  refine wr ?_
  by_cases e2 : formD (w / 16777216 % 256) = 2
  · have hd : decI w = ⟨w / 16777216 % 256, w / 1048576 % 16, w / 65536 % 16, w % 65536, 0⟩ := by simp [decI, e2]
    refine awp_cond rfl (fun _ => ?_) (fun h => by simp [uC, e2] at h)
    refine au1 @c4 ?_
    repeat intro K hK
    refine wr ?_
    refine ca (valid_ok (⟨w / 16777216 % 256, w / 1048576 % 16, w / 65536 % 16, w % 65536, 0⟩ : InstD))  ?_
    cases hv : validD (⟨w / 16777216 % 256, w / 1048576 % 16, w / 65536 % 16, w % 65536, 0⟩ : InstD) with
    | false =>
      refine au  ?_
      repeat intro K hK
      refine wr ?_
      refine awp_cond rfl (fun _ => ?_) (fun h => by simp at h)
      refine au  ?_
      repeat intro K hK
      refine wr ?_
      refine awp_fzA ?_
      refine awp_ret ?_
      simp [hd, hv, zeroI]
    | true =>
      refine au  ?_
      repeat intro K hK
      refine wr ?_
      refine awp_cond rfl (fun h => by simp at h) (fun _ => ?_)
      refine au  ?_
      repeat intro K hK
      refine wr ?_
      refine awp_fzA ?_
      refine awp_ret ?_
      simp [hd, hv, zeroI]
  · refine awp_cond rfl (fun h => by simp [uC, e2] at h) (fun _ => ?_)
    refine au  ?_
    repeat intro K hK
    refine wr ?_
    by_cases e3 : formD (w / 16777216 % 256) = 3 ∨ formD (w / 16777216 % 256) = 7
    · have hd : decI w = ⟨w / 16777216 % 256, w / 1048576 % 16, w / 65536 % 16, 0, sext (w % 65536)⟩ := by simp [decI, e2, e3]
      have hl : lowD (formD (w / 16777216 % 256)) = -32768 := by simp [lowD, e3]
      refine awp_cond rfl (fun _ => ?_) (fun h => by simp [hl] at h)
      refine au  ?_
      repeat intro K hK
      refine wr ?_
      refine ca1 (ext_ok (w % 65536) (by omega) (by omega)) @c6 ?_
      refine au1 @c6 ?_
      repeat intro K hK
      refine wr ?_
      refine ca (valid_ok (⟨w / 16777216 % 256, w / 1048576 % 16, w / 65536 % 16, 0, sext (w % 65536)⟩ : InstD))  ?_
      cases hv : validD (⟨w / 16777216 % 256, w / 1048576 % 16, w / 65536 % 16, 0, sext (w % 65536)⟩ : InstD) with
      | false =>
        refine au  ?_
        repeat intro K hK
        refine wr ?_
        refine awp_cond rfl (fun _ => ?_) (fun h => by simp at h)
        refine au  ?_
        repeat intro K hK
        refine wr ?_
        refine awp_fzA ?_
        refine awp_ret ?_
        simp [hd, hv, zeroI]
      | true =>
        refine au  ?_
        repeat intro K hK
        refine wr ?_
        refine awp_cond rfl (fun h => by simp at h) (fun _ => ?_)
        refine au  ?_
        repeat intro K hK
        refine wr ?_
        refine awp_fzA ?_
        refine awp_ret ?_
        simp [hd, hv, zeroI]
    · have hd : decI w = ⟨w / 16777216 % 256, w / 1048576 % 16, w / 65536 % 16, 0, w % 65536⟩ := by simp [decI, e2, e3]
      have hl : lowD (formD (w / 16777216 % 256)) = 0 := by simp [lowD, e3]
      refine awp_cond rfl (fun h => by simp [hl] at h) (fun _ => ?_)
      refine au1 @c5 ?_
      repeat intro K hK
      refine wr ?_
      refine ca (valid_ok (⟨w / 16777216 % 256, w / 1048576 % 16, w / 65536 % 16, 0, w % 65536⟩ : InstD))  ?_
      cases hv : validD (⟨w / 16777216 % 256, w / 1048576 % 16, w / 65536 % 16, 0, w % 65536⟩ : InstD) with
      | false =>
        refine au  ?_
        repeat intro K hK
        refine wr ?_
        refine awp_cond rfl (fun _ => ?_) (fun h => by simp at h)
        refine au  ?_
        repeat intro K hK
        refine wr ?_
        refine awp_fzA ?_
        refine awp_ret ?_
        simp [hd, hv, zeroI]
      | true =>
        refine au  ?_
        repeat intro K hK
        refine wr ?_
        refine awp_cond rfl (fun h => by simp at h) (fun _ => ?_)
        refine au  ?_
        repeat intro K hK
        refine wr ?_
        refine awp_fzA ?_
        refine awp_ret ?_
        simp [hd, hv, zeroI]
theorem or32 (x y : Int) (t : Nat) (h0 : 0 ≤ x) (h1 : x < 4294967296) (hx : x.toNat % 2 ^ t = 0) (y0 : 0 ≤ y) (y1 : y.toNat < 2 ^ t) (hs : x + y < 4294967296) : IntKind.u32.wrap (((x % 4294967296).toNat ||| (y % 4294967296).toNat : Nat) : Int) = x + y := by
  have e1 : x % 4294967296 = x := by omega
  have e2 : y % 4294967296 = y := by omega
  rw [e1, e2]
  have hWd : x.toNat = (x.toNat / 2 ^ t) <<< t := by
    rw [Nat.shiftLeft_eq, Nat.mul_comm]; have := Nat.div_add_mod x.toNat (2 ^ t); omega
  have hor : x.toNat ||| y.toNat = x.toNat + y.toNat := by
    rw [hWd, ← Nat.shiftLeft_add_eq_or_of_lt y1]
  rw [hor, u32_nat _ (by omega)]; omega
theorem or32' (x y : Int) (t : Nat) (h0 : 0 ≤ x) (h1 : x < 4294967296) (hx : x.toNat % 2 ^ t = 0) (y0 : 0 ≤ y) (y1 : y.toNat < 2 ^ t) (hs : x + y < 4294967296) : IntKind.u32.wrap ((BitVec.ofInt 32 x ||| BitVec.ofInt 32 y).toNat : Int) = x + y := by
  rw [BitVec.toNat_or, ofInt_toNat, ofInt_toNat]
  exact or32 x y t h0 h1 hx y0 y1 hs
set_option maxHeartbeats 8000000 in
theorem encodeR_ok (i : InstD) (hi : -2147483648 ≤ i.imm ∧ i.imm ≤ 2147483647) : Meets Tryd.prog 13 [.st i.row] (.tup [.int .u32 (if validD i then encW i else 0), .bool (validD i)]) := by
  refine Meets.of Tryd.func13 rfl (by kernel_rfl) rfl ?_
  simp only [Tryd.ntmps13, St.start, argT]
  refine au  ?_
  repeat intro K hK
  refine wr ?_
  refine ca (validR_ok i hi)  ?_
  cases hv : validD i with
  | false =>
    refine au  ?_
    repeat intro K hK
    refine wr ?_
    refine awp_cond rfl (fun _ => ?_) (fun h => by simp at h)
    refine au  ?_
    repeat intro K hK
    refine wr ?_
    refine awp_ret ?_
    simp [hv]
  | true =>
    obtain ⟨f1, f2, f3, f4, f5, f6⟩ := valid_facts hv
    have w1 : IntKind.u32.wrap i.op = i.op := by rw [IntKind.wrap_u32]; omega
    have w2 : IntKind.u32.wrap i.a = i.a := by rw [IntKind.wrap_u32]; omega
    have w3 : IntKind.u32.wrap i.b = i.b := by rw [IntKind.wrap_u32]; omega
    have w4 : IntKind.u32.wrap i.c = i.c := by rw [IntKind.wrap_u32]; omega
    have s1 : IntKind.u32.wrap (i.op * 16777216) = i.op * 16777216 := by rw [IntKind.wrap_u32]; omega
    have s2 : IntKind.u32.wrap (i.a * 1048576) = i.a * 1048576 := by rw [IntKind.wrap_u32]; omega
    have s3 : IntKind.u32.wrap (i.b * 65536) = i.b * 65536 := by rw [IntKind.wrap_u32]; omega
    refine au  ?_
    repeat intro K hK
    refine wr ?_
    refine awp_cond rfl (fun h => by simp at h) (fun _ => ?_)
    refine au7 @w1 @w2 @w3 @w4 @s1 @s2 @s3 ?_
    repeat intro K hK
    refine wr ?_
    refine awp_ret ?_
    simp [encW, hv, w1, w2, w3, w4, s1, s2, s3]
    have m1 := and_mask (IntKind.u32.wrap i.imm) 16 65536 (by omega) (by decide)
    rw [show (65536 - 1 : Nat) = 65535 from rfl, IntKind.wrap_u32 i.imm] at m1
    have m2 : i.imm % 4294967296 % ((65536 : Nat) : Int) = i.imm % 65536 := by omega
    rw [m2, ← IntKind.wrap_u32 i.imm] at m1
    change IntKind.u32.wrap ((BitVec.ofInt 32 (IntKind.u32.wrap ((BitVec.ofInt 32 (IntKind.u32.wrap ((BitVec.ofInt 32 (IntKind.u32.wrap ((BitVec.ofInt 32 (i.op * 16777216) ||| BitVec.ofInt 32 (i.a * 1048576)).toNat : Int)) ||| BitVec.ofInt 32 (i.b * 65536)).toNat : Int)) ||| BitVec.ofInt 32 (IntKind.u32.wrap ((BitVec.ofInt 32 (IntKind.u32.wrap i.imm) &&& 65535#32).toNat : Int))).toNat : Int)) ||| BitVec.ofInt 32 i.c).toNat : Int) = _
    rw [m1, or32' (i.op * 16777216) (i.a * 1048576) 24 (by omega) (by omega) (by omega) (by omega) (by omega) (by omega),
      or32' (i.op * 16777216 + i.a * 1048576) (i.b * 65536) 20 (by omega) (by omega) (by omega) (by omega) (by omega) (by omega),
      or32' (i.op * 16777216 + i.a * 1048576 + i.b * 65536) (i.imm % 65536) 16 (by omega) (by omega) (by omega) (by omega) (by omega) (by omega)]
    rcases f6 with h | h
    · rw [h, show BitVec.ofInt 32 0 = 0#32 by decide, BitVec.or_zero, ofInt_toNat, u32_nat _ (by omega)]; omega
    · rw [h, or32' (i.op * 16777216 + i.a * 1048576 + i.b * 65536 + 0 % 65536) i.c 16 (by omega) (by omega) (by omega) (by omega) (by omega) (by omega)]; omega
end Go.Proofs.YtjlbpkokdlggiaaDoor
