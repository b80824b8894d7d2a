/- A part of the proof of ReplicaJoins. -/
import Derived.Test.YtjmhjieflbnehaaGreatP08
import Derived.Test.YtjmhjieflbnehaaGreatP19
import Derived.Shelf.Lays
import Derived.Shelf.Strings.Repeat
import Derived.Test.YtjmhjieflbnehaaGreatProg
set_option linter.unusedSimpArgs false
set_option linter.unusedVariables false
set_option maxHeartbeats 16000000
set_option maxRecDepth 100000
section
namespace Go.Proofs.YtjmhjieflbnehaaGreat
open Go.Ab Go.RowKit
def popB (x : Int) : Int := x % 2 + x / 2 % 2 + x / 4 % 2 + x / 8 % 2 + x / 16 % 2 + x / 32 % 2 + x / 64 % 2 + x / 128 % 2
theorem popf : ∀ k : Fin 256, (((([0, 1, 1, 2, 1, 2, 2, 3, 1, 2, 2, 3, 2, 3, 3, 4, 1, 2, 2, 3, 2, 3, 3, 4, 2, 3, 3, 4, 3, 4, 4, 5, 1, 2, 2, 3, 2, 3, 3, 4, 2, 3, 3, 4, 3, 4, 4, 5, 2, 3, 3, 4, 3, 4, 4, 5, 3, 4, 4, 5, 4, 5, 5, 6, 1, 2, 2, 3, 2, 3, 3, 4, 2, 3, 3, 4, 3, 4, 4, 5, 2, 3, 3, 4, 3, 4, 4, 5, 3, 4, 4, 5, 4, 5, 5, 6, 2, 3, 3, 4, 3, 4, 4, 5, 3, 4, 4, 5, 4, 5, 5, 6, 3, 4, 4, 5, 4, 5, 5, 6, 4, 5, 5, 6, 5, 6, 6, 7, 1, 2, 2, 3, 2, 3, 3, 4, 2, 3, 3, 4, 3, 4, 4, 5, 2, 3, 3, 4, 3, 4, 4, 5, 3, 4, 4, 5, 4, 5, 5, 6, 2, 3, 3, 4, 3, 4, 4, 5, 3, 4, 4, 5, 4, 5, 5, 6, 3, 4, 4, 5, 4, 5, 5, 6, 4, 5, 5, 6, 5, 6, 6, 7, 2, 3, 3, 4, 3, 4, 4, 5, 3, 4, 4, 5, 4, 5, 5, 6, 3, 4, 4, 5, 4, 5, 5, 6, 4, 5, 5, 6, 5, 6, 6, 7, 3, 4, 4, 5, 4, 5, 5, 6, 4, 5, 5, 6, 5, 6, 6, 7, 4, 5, 5, 6, 5, 6, 6, 7, 5, 6, 6, 7, 6, 7, 7, 8] : List UInt8))[k.val]?.getD 0).toNat : Int) = popB (k.val : Int) := by decide +kernel
theorem zKN {x : Int} (h0 : 0 ≤ x) (h1 : x < 256) : (((([0, 1, 1, 2, 1, 2, 2, 3, 1, 2, 2, 3, 2, 3, 3, 4, 1, 2, 2, 3, 2, 3, 3, 4, 2, 3, 3, 4, 3, 4, 4, 5, 1, 2, 2, 3, 2, 3, 3, 4, 2, 3, 3, 4, 3, 4, 4, 5, 2, 3, 3, 4, 3, 4, 4, 5, 3, 4, 4, 5, 4, 5, 5, 6, 1, 2, 2, 3, 2, 3, 3, 4, 2, 3, 3, 4, 3, 4, 4, 5, 2, 3, 3, 4, 3, 4, 4, 5, 3, 4, 4, 5, 4, 5, 5, 6, 2, 3, 3, 4, 3, 4, 4, 5, 3, 4, 4, 5, 4, 5, 5, 6, 3, 4, 4, 5, 4, 5, 5, 6, 4, 5, 5, 6, 5, 6, 6, 7, 1, 2, 2, 3, 2, 3, 3, 4, 2, 3, 3, 4, 3, 4, 4, 5, 2, 3, 3, 4, 3, 4, 4, 5, 3, 4, 4, 5, 4, 5, 5, 6, 2, 3, 3, 4, 3, 4, 4, 5, 3, 4, 4, 5, 4, 5, 5, 6, 3, 4, 4, 5, 4, 5, 5, 6, 4, 5, 5, 6, 5, 6, 6, 7, 2, 3, 3, 4, 3, 4, 4, 5, 3, 4, 4, 5, 4, 5, 5, 6, 3, 4, 4, 5, 4, 5, 5, 6, 4, 5, 5, 6, 5, 6, 6, 7, 3, 4, 4, 5, 4, 5, 5, 6, 4, 5, 5, 6, 5, 6, 6, 7, 4, 5, 5, 6, 5, 6, 6, 7, 5, 6, 6, 7, 6, 7, 7, 8] : List UInt8))[x.toNat]?.getD 0).toNat : Int) = popB x := by
 have h := popf ⟨x.toNat, by omega⟩
 rwa [show ((⟨x.toNat, by omega⟩ : Fin 256).val : Int) = x by simp; omega] at h
theorem zE3 (x : Int) : 0 ≤ popB x ∧ popB x ≤ 8 := by unfold popB; omega
theorem pb0 (g : Int) : g % 256 % 2 = g % 2 := by omega
theorem pb1 (g : Int) : g % 256 / 2 % 2 = g / 2 % 2 := by omega
theorem pb2 (g : Int) : g % 256 / 4 % 2 = g / 4 % 2 := by omega
theorem pb3 (g : Int) : g % 256 / 8 % 2 = g / 8 % 2 := by omega
theorem pb4 (g : Int) : g % 256 / 16 % 2 = g / 16 % 2 := by omega
theorem pb5 (g : Int) : g % 256 / 32 % 2 = g / 32 % 2 := by omega
theorem pb6 (g : Int) : g % 256 / 64 % 2 = g / 64 % 2 := by omega
theorem pb7 (g : Int) : g % 256 / 128 % 2 = g / 128 % 2 := by omega
theorem pb9 (g : Int) : g / 256 / 2 % 2 = g / 512 % 2 := by omega
theorem pb10 (g : Int) : g / 256 / 4 % 2 = g / 1024 % 2 := by omega
theorem pb11 (g : Int) : g / 256 / 8 % 2 = g / 2048 % 2 := by omega
theorem pb12 (g : Int) : g / 256 / 16 % 2 = g / 4096 % 2 := by omega
theorem pb13 (g : Int) : g / 256 / 32 % 2 = g / 8192 % 2 := by omega
theorem pb14 (g : Int) : g / 256 / 64 % 2 = g / 16384 % 2 := by omega
theorem pb15 (g : Int) : g / 256 / 128 % 2 = g / 32768 % 2 := by omega
theorem pb17 (g : Int) : g / 65536 / 2 % 2 = g / 131072 % 2 := by omega
theorem pb18 (g : Int) : g / 65536 / 4 % 2 = g / 262144 % 2 := by omega
theorem pb19 (g : Int) : g / 65536 / 8 % 2 = g / 524288 % 2 := by omega
theorem pb20 (g : Int) : g / 65536 / 16 % 2 = g / 1048576 % 2 := by omega
theorem pb21 (g : Int) : g / 65536 / 32 % 2 = g / 2097152 % 2 := by omega
theorem pb22 (g : Int) : g / 65536 / 64 % 2 = g / 4194304 % 2 := by omega
theorem pb23 (g : Int) : g / 65536 / 128 % 2 = g / 8388608 % 2 := by omega
theorem pb25 (g : Int) : g / 16777216 / 2 % 2 = g / 33554432 % 2 := by omega
theorem pb26 (g : Int) : g / 16777216 / 4 % 2 = g / 67108864 % 2 := by omega
theorem pb27 (g : Int) : g / 16777216 / 8 % 2 = g / 134217728 % 2 := by omega
theorem pb28 (g : Int) : g / 16777216 / 16 % 2 = g / 268435456 % 2 := by omega
theorem pb29 (g : Int) : g / 16777216 / 32 % 2 = g / 536870912 % 2 := by omega
theorem pb30 (g : Int) : g / 16777216 / 64 % 2 = g / 1073741824 % 2 := by omega
theorem pb31 (g : Int) : g / 16777216 / 128 % 2 = g / 2147483648 % 2 := by omega
theorem zIk {g : Int} (h : W32 g) : popB (g / 16777216) + popB (g / 65536 % 256) + popB (g / 256 % 256) + popB (g % 256) = countB g := by
 have e : countB g = g % 2 + g / 2 % 2 + g / 4 % 2 + g / 8 % 2 + g / 16 % 2 + g / 32 % 2 + g / 64 % 2 + g / 128 % 2 + g / 256 % 2 + g / 512 % 2 + g / 1024 % 2 + g / 2048 % 2 + g / 4096 % 2 + g / 8192 % 2 + g / 16384 % 2 + g / 32768 % 2 + g / 65536 % 2 + g / 131072 % 2 + g / 262144 % 2 + g / 524288 % 2 + g / 1048576 % 2 + g / 2097152 % 2 + g / 4194304 % 2 + g / 8388608 % 2 + g / 16777216 % 2 + g / 33554432 % 2 + g / 67108864 % 2 + g / 134217728 % 2 + g / 268435456 % 2 + g / 536870912 % 2 + g / 1073741824 % 2 + g / 2147483648 % 2 := by simp [countB, List.range, List.range.loop]
 rw [e]
 unfold popB
 simp only [pb0, pb1, pb2, pb3, pb4, pb5, pb6, pb7, pb9, pb10, pb11, pb12, pb13, pb14, pb15, pb17, pb18, pb19, pb20, pb21, pb22, pb23, pb25, pb26, pb27, pb28, pb29, pb30, pb31]
 clear e
 generalize g % 2 = x0
 generalize g / 2 % 2 = x1
 generalize g / 4 % 2 = x2
 generalize g / 8 % 2 = x3
 generalize g / 16 % 2 = x4
 generalize g / 32 % 2 = x5
 generalize g / 64 % 2 = x6
 generalize g / 128 % 2 = x7
 generalize g / 256 % 2 = x8
 generalize g / 512 % 2 = x9
 generalize g / 1024 % 2 = x10
 generalize g / 2048 % 2 = x11
 generalize g / 4096 % 2 = x12
 generalize g / 8192 % 2 = x13
 generalize g / 16384 % 2 = x14
 generalize g / 32768 % 2 = x15
 generalize g / 65536 % 2 = x16
 generalize g / 131072 % 2 = x17
 generalize g / 262144 % 2 = x18
 generalize g / 524288 % 2 = x19
 generalize g / 1048576 % 2 = x20
 generalize g / 2097152 % 2 = x21
 generalize g / 4194304 % 2 = x22
 generalize g / 8388608 % 2 = x23
 generalize g / 16777216 % 2 = x24
 generalize g / 33554432 % 2 = x25
 generalize g / 67108864 % 2 = x26
 generalize g / 134217728 % 2 = x27
 generalize g / 268435456 % 2 = x28
 generalize g / 536870912 % 2 = x29
 generalize g / 1073741824 % 2 = x30
 generalize g / 2147483648 % 2 = x31
 omega
theorem zDY {g : Int} (h : W32 g) : 0 ≤ countB g ∧ countB g ≤ 32 := by
 rw [← zIk h]
 have := zE3 (g / 16777216); have := zE3 (g / 65536 % 256); have := zE3 (g / 256 % 256); have := zE3 (g % 256)
 omega
theorem u8_in {n : Int} (h0 : 0 ≤ n) (h1 : n < 256) : IntKind.u8.wrap n = n := by rw [IntKind.wrap_u8]; omega
theorem zTI (g : Int) (h : W32 g) : zAD Tryz.prog 325 [uv g] (iv (countB g)) := by
 have h0 := h.1
 have h1 := h.2
 have q1 := zKN (x := g / 16777216) (by omega) (by omega)
 have q2 := zKN (x := g / 65536 % 256) (by omega) (by omega)
 have q3 := zKN (x := g / 256 % 256) (by omega) (by omega)
 have q4 := zKN (x := g % 256) (by omega) (by omega)
 have r1 := zE3 (g / 16777216)
 have r2 := zE3 (g / 65536 % 256)
 have r3 := zE3 (g / 256 % 256)
 have r4 := zE3 (g % 256)
 have e1 : IntKind.u8.wrap (popB (g / 16777216) + popB (g / 65536 % 256)) = popB (g / 16777216) + popB (g / 65536 % 256) := u8_in (by omega) (by omega)
 have e2 : IntKind.u8.wrap (popB (g / 16777216) + popB (g / 65536 % 256) + popB (g / 256 % 256)) = popB (g / 16777216) + popB (g / 65536 % 256) + popB (g / 256 % 256) := u8_in (by omega) (by omega)
 have e3 : IntKind.u8.wrap (popB (g / 16777216) + popB (g / 65536 % 256) + popB (g / 256 % 256) + popB (g % 256)) = countB g := by rw [zIk h]; have := zDY h; exact u8_in (by omega) (by omega)
 have e4 : IntKind.i64.wrap (countB g) = countB g := by have := zDY h; exact zAC (by omega) (by omega)
 refine sZ Tryz.func325 Tryz.ntmps325 ?_
 (refine af1 (kX12 @zMH @zEZ @zBu @zBr @q1 @q2 @q3 @q4 @e1 @e2 @e3 @e4) ?_; (repeat intro K hK); refine wr ?_)
 repeat' ((first | (refine zAA rfl (fun h => ?_) (fun h => ?_) <;> (first | (simp [zMH, zEZ, zBu, zBr, q1, q2, q3, q4, e1, e2, e3, e4] at h; done) | (simp [zMH, zEZ, zBu, zBr, q1, q2, q3, q4, e1, e2, e3, e4] at h) | skip) <;> (first | (exfalso; omega) | skip)) | (refine zAE ([0, 1, 2, 3, 4, 5, 6, 7, 8, 9, 10, 11, 12, 13, 14, 15, 16, 17, 18] : List Nat) ([[], [0], [0, 1], [], [3], [3, 4], [3, 4, 5], [0, 1, 2, 3, 4, 5, 6], [], [8], [8, 9], [8, 9, 10], [0, 1, 2, 3, 4, 5, 6, 7, 8, 9, 10, 11], [], [13], [13, 14], [0, 1, 2, 3, 4, 5, 6, 7, 8, 9, 10, 11, 12, 13, 14, 15], [0, 1, 2, 3, 4, 5, 6, 7, 8, 9, 10, 11, 12, 13, 14, 15, 16], [0, 1, 2, 3, 4, 5, 6, 7, 8, 9, 10, 11, 12, 13, 14, 15, 16, 17]] : List (List Nat)) ([(16, ([[], [0], [0, 1], [], [3], [3, 4], [3, 4, 5], [0, 1, 2, 3, 4, 5, 6], [], [8], [8, 9], [8, 9, 10], [0, 1, 2, 3, 4, 5, 6, 7, 8, 9, 10, 11], [], [13], [13, 14]], [])), (1, ([], [])), (1, ([], [])), (1, ([], []))] : List (Nat × List (List Nat) × List (Nat × Nat))) (by kernel_rfl) (by kernel_rfl) (by kernel_rfl) ?_) | exact rt1 (kX12 @zMH @zEZ @zBu @zBr @q1 @q2 @q3 @q4 @e1 @e2 @e3 @e4) | fail) <;> (refine af1 (kX12 @zMH @zEZ @zBu @zBr @q1 @q2 @q3 @q4 @e1 @e2 @e3 @e4) ?_; (repeat intro K hK); refine wr ?_))
theorem zIg (t g : Int) (hw : W32 g) : zAD Tryz.prog 304 [.st [uv t, uv g]] (iv (countB g)) := by
 refine sZ Tryz.func304 Tryz.ntmps304 ?_
 exact wx (qX1 (zTI g hw)) trivial
theorem zMf (t g : Int) (hw : W32 g) : zAD Tryz.prog 289 [.st [uv t, uv g]] (.bool (zA2 t g)) := by
 have e : IntKind.u32.wrap (countB g) = countB g := by have := zDY hw; exact u32_in (by omega) (by omega)
 refine sZ Tryz.func289 Tryz.ntmps289 ?_
 (refine af1 (kX2 @e @zA2.eq_1) ?_; (repeat intro K hK); refine wr ?_)
 repeat' ((first | (refine zAA rfl (fun h => ?_) (fun h => ?_) <;> (first | (simp [e, zA2] at h; done) | (simp [e, zA2] at h) | skip) <;> (first | (exfalso; omega) | skip)) | refine cc1 (zIg t g hw) (kX2 @e @zA2.eq_1) ?_ | (refine zAE ([0, 1, 2, 3, 4, 5, 6] : List Nat) ([[], [0], [0, 1], [], [3], [0, 1, 2, 3, 4], [0, 1, 2, 3, 4, 5]] : List (List Nat)) ([(5, ([[], [0], [0, 1], [], [3]], [(4, 1)])), (1, ([], [])), (1, ([], []))] : List (Nat × List (List Nat) × List (Nat × Nat))) (by kernel_rfl) (by kernel_rfl) (by kernel_rfl) ?_) | exact rt1 (kX2 @e @zA2.eq_1) | fail) <;> (refine af1 (kX2 @e @zA2.eq_1) ?_; (repeat intro K hK); refine wr ?_))
theorem zQR (t g p : Int) (hw : W32 g) : zAD Tryz.prog 240 [.st [uv t, uv g], iv p] (uv (zRC t g p)) := by
 have e : IntKind.u32.wrap (countB g) = countB g := by have := zDY hw; exact u32_in (by omega) (by omega)
 refine sZ Tryz.func240 Tryz.ntmps240 ?_
 exact wx1 (qX1 (zIg t g hw)) trivial (kX2 @e @zRC.eq_1)
theorem zB4 {C D E G : Prop} (c : C) (d : D) (e : E) (t : C → D → E → G := by intro c d e; (refine af1 e ?_; (repeat intro K hK); refine wr ?_); repeat' ((first | (refine zAA rfl (fun h => ?_) (fun h => ?_) <;> (first | (simp [e] at h; done) | (simp [e] at h) | skip) <;> (first | (exfalso; omega) | skip)) | ((first | refine .inl ⟨1, _, d.1, ?_⟩ | refine ⟨1, _, d.1, ?_⟩); simp [aftC, aftE, noX, noXc, noX1, e]; first | refine And.intro zAL ?_ | skip) | ((first | refine .inl ⟨1, _, d.2.1, ?_⟩ | refine ⟨1, _, d.2.1, ?_⟩); simp [aftC, aftE, noX, noXc, noX1, e]; first | refine And.intro zAL ?_ | skip) | refine cc1 c.1 e ?_ | refine cc1 c.2.1 e ?_ | refine cc1 c.2.2.1 e ?_ | refine cc1 c.2.2.2.1 e ?_ | refine cc1 c.2.2.2.2.1 e ?_ | refine cc1 c.2.2.2.2.2.1 e ?_ | (refine zAE ([0, 1, 2, 3, 4, 5] : List Nat) ([[], [], [], [0], [0, 1, 3], [0, 1, 2, 3, 4]] : List (List Nat)) ([(5, ([[], [], [], [0], [0, 1, 3]], [(2, 3)])), (1, ([], []))] : List (Nat × List (List Nat) × List (Nat × Nat))) (by kernel_rfl) (by kernel_rfl) (by kernel_rfl) ?_) | exact rt1 e | fail) <;> (refine af1 e ?_; (repeat intro K hK); refine wr ?_))) : G := t c d e
theorem zDl (op : Int) : zAD Tryz.prog 231 [iv op] (.bool (zJq op)) := by
 refine sZ Tryz.func231 Tryz.ntmps231 ?_
 exact wx1 trivial trivial @zJq.eq_1
theorem zQ2 {op : Int} (h : zAJ op ≠ 0) : ((1 ≤ op ∧ op ≤ 13) ∨ (16 ≤ op ∧ op ≤ 23)) ∨ op = 24 ∨ (32 ≤ op ∧ op ≤ 36) ∨ (op = 40 ∨ op = 41 ∨ op = 42 ∨ op = 43 ∨ op = 44 ∨ op = 45) ∨ op = 48 ∨ op = 49 ∨ op = 56 ∨ op = 57 ∨ op = 58 ∨ op = 59 ∨ op = 60 ∨ op = 61 ∨ op = 62 ∨ op = 63 ∨ op = 64 := by
 apply Classical.byContradiction
 intro hn
 apply h
 unfold zAJ
 repeat rw [if_neg (by omega)]
theorem zLZ {i : InstD} (h : validD i = true) : zAJ i.op ≠ 0 := by
 unfold validD at h
 simp only [Bool.and_eq_true, decide_eq_true_eq] at h
 exact h.1.1.1.1.1
theorem zA6 {i : InstD} (h : validD i = true) : OkI i := by
 obtain ⟨_, ⟨a0, a1⟩, ⟨b0, b1⟩, ⟨c0, c1⟩, _⟩ := zDj h
 exact ⟨a0, a1, b0, b1, c0, c1⟩
theorem zIO {i : InstD} (h : validD i = true) : lowD (zAJ i.op) ≤ i.imm ∧ i.imm ≤ zAb (zAJ i.op) := by
 unfold validD at h
 simp only [Bool.and_eq_true, decide_eq_true_eq] at h
 exact ⟨h.1.2, h.2⟩
theorem zG9 (c : CpuD) (i : InstD) (hc : OkC c) (hv : validD i = true) (hn : ¬ (32 ≤ i.op ∧ i.op ≤ 36)) : ExOk c i := by
 have hi := zA6 hv
 have hm := zIO hv
 rcases zQ2 (zLZ hv) with h | h | h | h | h | h | h | h | h | h | h | h | h | h | h
 ·exact exA_ok c i hc hi h
 ·exact zR4 c i hc hi h
 ·exact absurd h hn
 ·exact exB_ok c i hc hi h
 ·exact zTL c i hc hi h
 ·exact zSw c i hc hi h
 ·exact zSF c i hc hi h
 ·exact zR0 c i hc hi h
 ·rw [h] at hm; exact zS8 c i hc hi h (by have := hm.1; simp [lowD, zAJ] at this; omega) (by have := hm.2; simp [zAb, zAJ] at this; omega)
 ·rw [h] at hm; exact zSO c i hc hi h (by have := hm.1; simp [lowD, zAJ] at this; omega) (by have := hm.2; simp [zAb, zAJ] at this; omega)
 ·rw [h] at hm; exact zTF c i hc hi h (by have := hm.1; simp [lowD, zAJ] at this; omega) (by have := hm.2; simp [zAb, zAJ] at this; omega)
 ·rw [h] at hm; exact zSP c i hc hi h (by have := hm.1; simp [lowD, zAJ] at this; omega) (by have := hm.2; simp [zAb, zAJ] at this; omega)
 ·exact zSm c i hc hi h
 ·exact zR6 c i hc hi h
 ·exact zSf c i hc hi h
theorem zOv (c : CpuD) (l : List Int) (hc : OkC c) (hl : OkW l) (hb : l.length ≤ 100000) :
  zAD Tryz.prog 173 [.st c.row, memV l] (.tup [.st (zAs c l).1.row, memV (zAs c l).2.1, .st (zAs c l).2.2.row]) := by
 have hf := zPj c l hc hl hb
 have hm := zBy (c := c) (va := c.pc) (s := 4) (acc := 1) hl
 have hn := zBE c l c.pc 4 1
 have hX : zAs c l = (if (zAG c l c.pc 4 1).2.2 ≠ 0 then (zA8 c (zAG c l c.pc 4 1).2.2 c.pc, (zAG c l c.pc 4 1).2.1, zEff) else zBa c (zAG c l c.pc 4 1).2.1 (wAt (zAG c l c.pc 4 1).2.1 ((zAG c l c.pc 4 1).1 / 4))) := rfl
 unfold zIi at hf
 rw [hX]
 clear hX
 generalize zAG c l c.pc 4 1 = R at *
 obtain ⟨a, m, k⟩ := R
 simp only at hf hm hn ⊢
 rw [← hn] at hb
 by_cases hk : k = 0
 ·subst hk
  simp only [if_true] at hf
  rw [if_neg (by simp)]
  generalize wAt m (a / 4) = w at *
  have hd := decode_ok w
  unfold decV at hd
  obtain ⟨i, hi⟩ : ∃ i, i = decI w := ⟨_, rfl⟩
  rw [← hi] at hd
  cases hv : validD i with
  | false =>
   have hE : zBa c m w = (zA8 c 1 w, m, zEff) := by unfold zBa; rw [← hi, if_pos hv]
   rw [hv] at hd
   rw [hE]
   simp only [Bool.false_eq_true, if_false] at hd
   refine sZ Tryz.func173 Tryz.ntmps173 ?_
   exact zB4 (qX3 (hf) (hd) (zCO c 1 w hc)) trivial @zEff.eq_1
  | true =>
   rw [hv] at hd
   simp only [if_true] at hd
   cases hp : zJq i.op with
   | true =>
    by_cases hs : c.csr 0 % 2 = 0
    ·have hE : zBa c m w = (zA8 c 2 w, m, zEff) := by unfold zBa; rw [← hi, if_neg (by simp [hv]), if_pos ⟨hp, hs⟩]
     rw [hE]
     refine sZ Tryz.func173 Tryz.ntmps173 ?_
     exact zB4 (qX5 (hf) (hd) (zDl i.op) (kernel_ok c hc) (zCO c 2 w hc)) trivial (kX3 @hp @hs @zEff.eq_1)
    ·by_cases hl3 : 32 ≤ i.op ∧ i.op ≤ 34
     ·have hE : zBa c m w = ((zAy c m i).1, (zAy c m i).2, zEff) := by
       unfold zBa; rw [← hi, if_neg (by simp [hv]), if_neg (by simp [hp, hs]), if_pos hl3]
      have hL := zLD c m i hc hm hb (zA6 hv)
      rw [hE]
      generalize zAy c m i = Z at *
      refine sZ Tryz.func173 Tryz.ntmps173 ?_
      exact zB4 (qX5 (hf) (hd) (zDl i.op) (kernel_ok c hc) (hL)) trivial (kX3 @hp @hs @zEff.eq_1)
     ·by_cases hs3 : 35 ≤ i.op ∧ i.op ≤ 36
      ·have hE : zBa c m w = ((zAS c m i).1, (zAS c m i).2, zEff) := by
        unfold zBa; rw [← hi, if_neg (by simp [hv]), if_neg (by simp [hp, hs]), if_neg hl3, if_pos hs3]
       have hL := zIo c m i hc hm hb (zA6 hv)
       rw [hE]
       generalize zAS c m i = Z at *
       refine sZ Tryz.func173 Tryz.ntmps173 ?_
       exact zB4 (qX5 (hf) (hd) (zDl i.op) (kernel_ok c hc) (hL)) trivial (kX3 @hp @hs @zEff.eq_1)
      ·have hE : zBa c m w = ((zAH c i).1, m, (zAH c i).2) := by
        unfold zBa; rw [← hi, if_neg (by simp [hv]), if_neg (by simp [hp, hs]), if_neg hl3, if_neg hs3]
       have hL := zG9 c i hc hv (by omega)
       unfold ExOk at hL
       rw [hE]
       generalize zAH c i = Z at *
       refine sZ Tryz.func173 Tryz.ntmps173 ?_
       exact zB4 (qX5 (hf) (hd) (zDl i.op) (kernel_ok c hc) (hL)) trivial (kX3 @hp @hs @zEff.eq_1)
   | false =>
    by_cases hl3 : 32 ≤ i.op ∧ i.op ≤ 34
    ·have hE : zBa c m w = ((zAy c m i).1, (zAy c m i).2, zEff) := by
      unfold zBa; rw [← hi, if_neg (by simp [hv]), if_neg (by simp [hp, hp]), if_pos hl3]
     have hL := zLD c m i hc hm hb (zA6 hv)
     rw [hE]
     generalize zAy c m i = Z at *
     refine sZ Tryz.func173 Tryz.ntmps173 ?_
     exact zB4 (qX5 (hf) (hd) (zDl i.op) (kernel_ok c hc) (hL)) trivial (kX3 @hp @hp @zEff.eq_1)
    ·by_cases hs3 : 35 ≤ i.op ∧ i.op ≤ 36
     ·have hE : zBa c m w = ((zAS c m i).1, (zAS c m i).2, zEff) := by
       unfold zBa; rw [← hi, if_neg (by simp [hv]), if_neg (by simp [hp, hp]), if_neg hl3, if_pos hs3]
      have hL := zIo c m i hc hm hb (zA6 hv)
      rw [hE]
      generalize zAS c m i = Z at *
      refine sZ Tryz.func173 Tryz.ntmps173 ?_
      exact zB4 (qX5 (hf) (hd) (zDl i.op) (kernel_ok c hc) (hL)) trivial (kX3 @hp @hp @zEff.eq_1)
     ·have hE : zBa c m w = ((zAH c i).1, m, (zAH c i).2) := by
       unfold zBa; rw [← hi, if_neg (by simp [hv]), if_neg (by simp [hp, hp]), if_neg hl3, if_neg hs3]
      have hL := zG9 c i hc hv (by omega)
      unfold ExOk at hL
      rw [hE]
      generalize zAH c i = Z at *
      refine sZ Tryz.func173 Tryz.ntmps173 ?_
      exact zB4 (qX5 (hf) (hd) (zDl i.op) (kernel_ok c hc) (hL)) trivial (kX3 @hp @hp @zEff.eq_1)
 ·rw [if_pos hk]
  refine sZ Tryz.func173 Tryz.ntmps173 ?_
  exact zB4 (qX2 (hf) (zCO c k c.pc hc)) trivial (kX2 @hk @zEff.eq_1)
end Go.Proofs.YtjmhjieflbnehaaGreat
end
section
namespace Go.Proofs.YtjmhjieflbnehaaGreat
open Go.Shelf
def zGB : Go.Shelf.Ren := ⟨fun | 105 => 307 | 212 => 327 | 99 => 328 | 165 => 329 | 166 => 247 | 170 => 249 | 169 => 250 | 263 => 336 | 264 => 337 | 206 => 338 | 240 => 309 | 241 => 339 | 276 => 330 | 277 => 341 | n => n, fun | 9 => 9 | 3 => 3 | 4 => 4 | 20 => 20 | 0 => 0 | 46 => 102 | 109 => 418 | 5 => 5 | 72 => 361 | 76 => 364 | 51 => 25 | 146 => 381 | 53 => 24 | 148 => 147 | 70 => 359 | 37 => 149 | 75 => 363 | 127 => 409 | 164 => 421 | 80 => 339 | n => n, fun | n => n⟩
theorem zR8 : Go.Proofs.Lays.n105 Tryz.prog zGB := {
 mixed := by kernel_rfl
 f99 := Tryz.func328.trans (congrArg some (by kernel_rfl))
 f105 := Tryz.func307.trans (congrArg some (by kernel_rfl))
 f165 := Tryz.func329.trans (congrArg some (by kernel_rfl))
 f166 := Tryz.func247.trans (congrArg some (by kernel_rfl))
 f169 := Tryz.func250.trans (congrArg some (by kernel_rfl))
 f170 := Tryz.func249.trans (congrArg some (by kernel_rfl))
 f206 := Tryz.func338.trans (congrArg some (by kernel_rfl))
 f212 := Tryz.func327.trans (congrArg some (by kernel_rfl))
 f240 := Tryz.func309.trans (congrArg some (by kernel_rfl))
 f241 := Tryz.func339.trans (congrArg some (by kernel_rfl))
 f263 := Tryz.func336.trans (congrArg some (by kernel_rfl))
 f264 := Tryz.func337.trans (congrArg some (by kernel_rfl))
 f276 := Tryz.func330.trans (congrArg some (by kernel_rfl))
 f277 := Tryz.func341.trans (congrArg some (by kernel_rfl))
 t0 := Tryz.underlying0
 a0 := Tryz.isAgg0
 z0 := Tryz.sizeOf0
 v0 := Tryz.zeroValue0
 t3 := Tryz.underlying3
 a3 := Tryz.isAgg3
 z3 := Tryz.sizeOf3
 v3 := Tryz.zeroValue3
 t4 := Tryz.underlying4
 a4 := Tryz.isAgg4
 z4 := Tryz.sizeOf4
 v4 := Tryz.zeroValue4
 t5 := Tryz.underlying5
 a5 := Tryz.isAgg5
 z5 := Tryz.sizeOf5
 v5 := Tryz.zeroValue5
 t9 := Tryz.underlying9
 a9 := Tryz.isAgg9
 z9 := Tryz.sizeOf9
 v9 := Tryz.zeroValue9
 t20 := Tryz.underlying20
 a20 := Tryz.isAgg20
 z20 := Tryz.sizeOf20
 v20 := Tryz.zeroValue20
 t37 := Tryz.underlying149
 a37 := Tryz.isAgg149
 z37 := Tryz.sizeOf149
 v37 := Tryz.zeroValue149
 t46 := Tryz.underlying102
 a46 := Tryz.isAgg102
 z46 := Tryz.sizeOf102
 v46 := Tryz.zeroValue102
 t51 := Tryz.underlying25
 a51 := Tryz.isAgg25
 z51 := Tryz.sizeOf25
 v51 := Tryz.zeroValue25
 t53 := Tryz.underlying24
 a53 := Tryz.isAgg24
 z53 := Tryz.sizeOf24
 v53 := Tryz.zeroValue24
 t70 := Tryz.underlying359
 a70 := Tryz.isAgg359
 z70 := Tryz.sizeOf359
 v70 := Tryz.zeroValue359
 t72 := Tryz.underlying361
 a72 := Tryz.isAgg361
 z72 := Tryz.sizeOf361
 v72 := Tryz.zeroValue361
 t75 := Tryz.underlying363
 a75 := Tryz.isAgg363
 z75 := Tryz.sizeOf363
 v75 := Tryz.zeroValue363
 t76 := Tryz.underlying364
 a76 := Tryz.isAgg364
 z76 := Tryz.sizeOf364
 v76 := Tryz.zeroValue364
 t109 := Tryz.underlying418
 a109 := Tryz.isAgg418
 z109 := Tryz.sizeOf418
 v109 := Tryz.zeroValue418
 t127 := Tryz.underlying409
 a127 := Tryz.isAgg409
 z127 := Tryz.sizeOf409
 v127 := Tryz.zeroValue409
 t146 := Tryz.underlying381
 a146 := Tryz.isAgg381
 z146 := Tryz.sizeOf381
 v146 := Tryz.zeroValue381
 t148 := Tryz.underlying147
 a148 := Tryz.isAgg147
 z148 := Tryz.sizeOf147
 v148 := Tryz.zeroValue147
 t164 := Tryz.underlying421
 a164 := Tryz.isAgg421
 z164 := Tryz.sizeOf421
 v164 := Tryz.zeroValue421 }
end Go.Proofs.YtjmhjieflbnehaaGreat
end
section
namespace Go.Proofs.YtjmhjieflbnehaaGreat
open Go.Ab Go.RowKit
open Go.Proofs (Any.strings_Repeat)
theorem zDV {C D E G : Prop} (c : C) (d : D) (e : E) (t : C → D → E → G := by intro c d e; (refine af1 e ?_; (repeat intro K hK); refine wr ?_); repeat' ((first | (refine zAA rfl (fun h => ?_) (fun h => ?_) <;> (first | (simp [e] at h; done) | (simp [e] at h) | skip) <;> (first | (exfalso; omega) | skip)) | ((first | refine .inl ⟨1, _, d.1, ?_⟩ | refine ⟨1, _, d.1, ?_⟩); simp [aftC, aftE, noX, noXc, noX1, e]; first | refine And.intro zAL ?_ | skip) | ((first | refine .inl ⟨1, _, d.2.1, ?_⟩ | refine ⟨1, _, d.2.1, ?_⟩); simp [aftC, aftE, noX, noXc, noX1, e]; first | refine And.intro zAL ?_ | skip) | refine cc1 c.1 e ?_ | refine cc1 c.2.1 e ?_ | refine cc1 c.2.2.1 e ?_ | refine cc1 c.2.2.2.1 e ?_ | refine cc1 c.2.2.2.2.1 e ?_ | refine cc1 c.2.2.2.2.2.1 e ?_ | (refine zAE (rid := 2) ([0, 1, 2, 3, 4] : List Nat) ([[], [], [1], [0, 1, 2], [0, 1, 2, 3]] : List (List Nat)) ([(3, ([[], [], [1]], [(0, 2)])), (1, ([], [])), (1, ([], []))] : List (Nat × List (List Nat) × List (Nat × Nat))) (by kernel_rfl) (by kernel_rfl) (by kernel_rfl) ?_) | (refine zAE (rid := 12) ([0, 1, 2, 3, 4] : List Nat) ([[], [], [1], [0, 1, 2], [0, 1, 2, 3]] : List (List Nat)) ([(3, ([[], [], [1]], [(0, 2)])), (1, ([], [])), (1, ([], []))] : List (Nat × List (List Nat) × List (Nat × Nat))) (by kernel_rfl) (by kernel_rfl) (by kernel_rfl) ?_) | exact rt1 e | fail) <;> (refine af1 e ?_; (repeat intro K hK); refine wr ?_))) : G := t c d e
theorem bldX : Builder.Extra Tryz.prog zGB := { sizeBuilder := by kernel_rfl, liesBuilder := by kernel_rfl, t5 := Tryz.underlying5, a5 := Tryz.isAgg5, z5 := Tryz.sizeOf5, v5 := Tryz.zeroValue5, infoByte := by kernel_rfl, cellsByte := by kernel_rfl, sizeByte := by kernel_rfl, neB5 := by decide }
theorem vals2 {a b : Value} {vals : Array Value} (hs : vals.size = 2) (h0 : vals.getD 0 undef = a) (h1 : vals.getD 1 undef = b) : vals = #[a, b] := by
 apply Array.ext
 ·simpa using hs
 ·intro i hi hi'
  have : i = 0 ∨ i = 1 := by simp at hi'; omega
  rcases this with rfl | rfl
  ·simpa [Array.getD, hi] using h0
  ·simpa [Array.getD, hi] using h1
theorem zPS (n : Nat) : Lib.repeatL ([0] : Str) n = List.replicate n 0 := by
 induction n with
 | zero => rfl
 | succ n ih => simp [Lib.repeatL, List.replicate_succ, ih]
theorem rep_ok : zAD Tryz.prog 307 [.str [0], iv 128] (.str zDv) := by
 refine ⟨by kernel_rfl, fun w Xa vals M hXa hs hrr => ?_⟩
 obtain rfl := vals2 hs (zDF (hrr 0 _ rfl)) (zBw (hrr 1 _ rfl))
 have h := Any.strings_Repeat zR8 bldX ⟨[0].toArray⟩ 128 w (by omega) (by simp [ByteArray.size])
 refine h.mono ?_
 rintro e w' ⟨rfl, hb⟩
 have he : Lib.repeatL (⟨[0].toArray⟩ : ByteArray).data.toList 128 = zDv := zPS 128
 rw [he]
 refine ⟨_, rfl, hb, fun M n' hM => ⟨.str _ _, fun id o ho => ?_, fun id id' o o' g ho => ?_⟩⟩
 ·simp [V.fcells, V.cells, obsL, lookO] at ho
 ·simp [V.fcells, V.cells, obsL, lookO] at ho
theorem pow_in {v : Int} (h0 : 0 ≤ v) (h1 : v < 32) : IntKind.u32.wrap (1 * 2 ^ min v.toNat 32) = 2 ^ v.toNat := by
 have h : ∀ k : Fin 32, IntKind.u32.wrap (1 * 2 ^ min k.val 32) = 2 ^ k.val := by decide +kernel
 exact h ⟨v.toNat, by omega⟩
theorem zNK (t g : Int) (l : List Int) (p v : Int) (hg : W32 g) (hv : W32 v) (hb : l.length ≤ 100000) :
  zAD Tryz.prog 244 [.st [uv t, uv g], memV l, iv p, uv v] (.tup [.st [uv t, uv (zA1 g l p v).1], memV (zA1 g l p v).2]) := by
 have hp := zAf l
 have hcl := zBQ (ints .u32 l) false 1 (.inl rfl) (by rw [zAP]; exact hb)
 by_cases h32 : 32 ≤ v
 ·have hE : zA1 g l p v = (g, l) := by unfold zA1; rw [if_pos h32]
  rw [hE]
  refine sZ Tryz.func244 Tryz.ntmps244 ?_
  exact zDV (qX1 (hcl)) trivial @h32
 ·have hpw := pow_in hv.1 (by omega : v < 32)
  simp at hpw
  have hw1 : IntKind.i64.wrap v = v := zAC (by have := hv.1; omega) (by omega)
  have hia := zPA hg v.toNat (by omega)
  by_cases h10 : p = 10
  ·subst h10
   by_cases hpg : v < pagesD l
   ·by_cases hbit : g / 2 ^ v.toNat % 2 = 0
    ·have hE : zA1 g l 10 v = (ior .u32 g (2 ^ v.toNat), zBW l v zDv) := by unfold zA1; rw [if_neg h32, if_pos rfl, if_pos ⟨hpg, hbit⟩]
     rw [hE]
     refine sZ Tryz.func244 Tryz.ntmps244 ?_
     exact zDV (qX3 (zBS l) (rep_ok) (zEX l v zDv hv.1 hpg (by simp [zDv]))) trivial (kX6 @h32 @hpw @hw1 @hia @hpg @hbit)
    ·have hE : zA1 g l 10 v = (g, l) := by unfold zA1; rw [if_neg h32, if_pos rfl, if_neg (fun q => hbit q.2)]
     rw [hE]
     refine sZ Tryz.func244 Tryz.ntmps244 ?_
     exact zDV (qX2 (zBS l) (hcl)) trivial (kX6 @h32 @hpw @hw1 @hia @hpg @hbit)
   ·have hE : zA1 g l 10 v = (g, l) := by unfold zA1; rw [if_neg h32, if_pos rfl, if_neg (fun q => hpg q.1)]
    rw [hE]
    refine sZ Tryz.func244 Tryz.ntmps244 ?_
    exact zDV (qX2 (zBS l) (hcl)) trivial (kX4 @h32 @hpw @hw1 @hpg)
  ·by_cases h11 : p = 11
   ·subst h11
    have hE : zA1 g l 11 v = (zAQ .u32 g (2 ^ v.toNat), l) := by unfold zA1; rw [if_neg h32]; simp
    rw [hE]
    refine sZ Tryz.func244 Tryz.ntmps244 ?_
    exact zDV (qX1 (hcl)) trivial (kX2 @h32 @hpw)
   ·have hE : zA1 g l p v = (g, l) := by unfold zA1; rw [if_neg h32, if_neg h10, if_neg h11]
    rw [hE]
    refine sZ Tryz.func244 Tryz.ntmps244 ?_
    exact zDV (qX1 (hcl)) trivial (kX4 @h32 @hpw @h10 @h11)
end Go.Proofs.YtjmhjieflbnehaaGreat
end
section
namespace Go.Proofs.YtjmhjieflbnehaaGreat
open Go.Ab Go.RowKit
structure OkD (d : DskD) : Prop where
 a : W32 d.blocks
 b : W32 d.block
 c : W32 d.frame
 e : W32 d.opBlock
 f : W32 d.opFrame
structure OkN (n : NicD) : Prop where
 a : W32 n.frame
 b : W32 n.len
 c : W32 n.buffer
 d : W32 n.got
structure OkM (m : MchD) : Prop where
 c : OkC m.cpu
 w : OkW m.mem
 n : m.mem.length ≤ 1024
 k : m.keys.length ≤ 1000
 t : W32 m.tim.dl
 d : OkD m.dk
 r : OkN m.nc
 tg : W32 m.tgt
 gv : W32 m.given
 ct : 0 ≤ m.count ∧ m.count < 2000000000000000000
theorem zHS (m : MchD) (hM : OkM m) : zAD Tryz.prog 227 [.st m.row] (uv (zE2 m)) := by
 have hb := zMf m.tgt m.given hM.gv
 have ht := zLk m.tim
 have hk := zMB m.keys
 have hd := zG5 m.dk
 have hn := zMU m.nc
 have hE : zE2 m = b2w m.tim.fired + b2w (!decide (m.keys = [])) * 2 + b2w (zBj m.dk) * 4 + b2w m.nc.received * 8 + b2w (zA2 m.tgt m.given) * 16 := rfl
 rw [hE]
 generalize zA2 m.tgt m.given = p4 at *
 generalize zBj m.dk = p2 at *
 generalize (!decide (m.keys = [])) = p1 at *
 refine sX Tryz.func227 Tryz.ntmps227 ?_;(repeat intro K hK);refine wr ?_
 refine zBs (α := Unit) (fun _ => (⟨35, [(3, .ptr 1 5 0 0), (2, uv 0)], 2, [(1, some ⟨396, 5, true, false, [[.bool m.tim.fired, .bool p1, .bool p2, .bool m.nc.received, .bool p4]]⟩)], 0⟩ : St)) (fun _ => True) hK (fun _ hxhJ => ?_) (fun hJ => ?_)
 all_goals clear hK
 ·obtain ⟨p0, hp0⟩ : ∃ p0, p0 = m.tim.fired := ⟨_, rfl⟩
  obtain ⟨p3, hp3⟩ : ∃ p3, p3 = m.nc.received := ⟨_, rfl⟩
  rw [← hp0, ← hp3]
  clear hp0 hp3
  (refine af1 (kX4 @b2w.eq_1 @ior.eq_1 @u32c @i64c) ?_; (repeat intro K hK); refine wr ?_)
  repeat' ((first | (refine zAA rfl (fun h => ?_) (fun h => ?_) <;> (first | (simp [b2w, ior, u32c, i64c] at h; done) | (simp [b2w, ior, u32c, i64c] at h) | skip) <;> (first | (exfalso; omega) | skip)) | refine zAK 6 ?_ | refine zAF fun K hK => ?_ | (refine zBe (.node 2 16 (.node 5 16 (.node 8 16 (.node 11 16 (.node 14 16 (.leaf [0, 1, 2, 3, 4, 5, 6, 7, 8, 9, 10, 11, 12, 13, 14, 15, 16, 17] [[], [0], [0, 1], [], [3], [0, 1, 2, 3, 4], [], [6], [0, 1, 2, 3, 4, 5, 6, 7], [], [9], [0, 1, 2, 3, 4, 5, 6, 7, 8, 9, 10], [], [12], [0, 1, 2, 3, 4, 5, 6, 7, 8, 9, 10, 11, 12, 13], [0, 1, 2, 3, 4, 5, 6, 7, 8, 9, 10, 11, 12, 13, 14], [0, 1, 2, 3, 4, 5, 6, 7, 8, 9, 10, 11, 12, 13, 14], [0, 1, 2, 3, 4, 5, 6, 7, 8, 9, 10, 11, 12, 13, 14, 15, 16]] [(14, ([[], [0], [0, 1], [], [3], [0, 1, 2, 3, 4], [], [6], [0, 1, 2, 3, 4, 5, 6, 7], [], [9], [0, 1, 2, 3, 4, 5, 6, 7, 8, 9, 10], [], [12]], [(4, 2), (7, 2), (7, 5), (10, 2), (10, 5), (10, 8), (13, 2), (13, 5), (13, 8), (13, 11)])), (1, ([], [])), (2, ([[], []], [])), (1, ([], []))]) (.leaf [0, 1, 2, 3, 4, 5, 6, 7, 8, 9, 10, 11, 12, 13, 16, 14, 15, 17] [[], [0], [0, 1], [], [3], [0, 1, 2, 3, 4], [], [6], [0, 1, 2, 3, 4, 5, 6, 7], [], [9], [0, 1, 2, 3, 4, 5, 6, 7, 8, 9, 10], [], [12], [0, 1, 2, 3, 4, 5, 6, 7, 8, 9, 10, 11], [0, 1, 2, 3, 4, 5, 6, 7, 8, 9, 10, 11, 12, 13, 14], [0, 1, 2, 3, 4, 5, 6, 7, 8, 9, 10, 11, 12, 13, 14, 15], [0, 1, 2, 3, 4, 5, 6, 7, 8, 9, 10, 11, 12, 13, 14, 15, 16]] [(15, ([[], [0], [0, 1], [], [3], [0, 1, 2, 3, 4], [], [6], [0, 1, 2, 3, 4, 5, 6, 7], [], [9], [0, 1, 2, 3, 4, 5, 6, 7, 8, 9, 10], [], [12], [0, 1, 2, 3, 4, 5, 6, 7, 8, 9, 10, 11]], [(4, 2), (7, 2), (7, 5), (10, 2), (10, 5), (10, 8), (13, 2), (13, 5), (13, 8), (13, 11), (13, 14)])), (1, ([], [])), (1, ([], [])), (1, ([], []))])) (.leaf [0, 1, 2, 3, 4, 5, 6, 7, 8, 9, 10, 12, 13, 16, 11, 14, 15, 17] [[], [0], [0, 1], [], [3], [0, 1, 2, 3, 4], [], [6], [0, 1, 2, 3, 4, 5, 6, 7], [], [9], [], [11], [0, 1, 2, 3, 4, 5, 6, 7, 8], [0, 1, 2, 3, 4, 5, 6, 7, 8, 9, 10, 13], [0, 1, 2, 3, 4, 5, 6, 7, 8, 9, 10, 11, 12, 13, 14], [0, 1, 2, 3, 4, 5, 6, 7, 8, 9, 10, 11, 12, 13, 14, 15], [0, 1, 2, 3, 4, 5, 6, 7, 8, 9, 10, 11, 12, 13, 14, 15, 16]] [(15, ([[], [0], [0, 1], [], [3], [0, 1, 2, 3, 4], [], [6], [0, 1, 2, 3, 4, 5, 6, 7], [], [9], [], [11], [0, 1, 2, 3, 4, 5, 6, 7, 8], [0, 1, 2, 3, 4, 5, 6, 7, 8, 9, 10, 13]], [(4, 2), (7, 2), (7, 5), (10, 2), (10, 5), (10, 8), (10, 13), (12, 2), (12, 5), (12, 8), (12, 13), (12, 14)])), (1, ([], [])), (1, ([], [])), (1, ([], []))])) (.leaf [0, 1, 2, 3, 4, 5, 6, 7, 9, 10, 12, 13, 16, 8, 11, 14, 15, 17] [[], [0], [0, 1], [], [3], [0, 1, 2, 3, 4], [], [6], [], [8], [], [10], [0, 1, 2, 3, 4, 5], [0, 1, 2, 3, 4, 5, 6, 7, 12], [0, 1, 2, 3, 4, 5, 6, 7, 8, 9, 12, 13], [0, 1, 2, 3, 4, 5, 6, 7, 8, 9, 10, 11, 12, 13, 14], [0, 1, 2, 3, 4, 5, 6, 7, 8, 9, 10, 11, 12, 13, 14, 15], [0, 1, 2, 3, 4, 5, 6, 7, 8, 9, 10, 11, 12, 13, 14, 15, 16]] [(15, ([[], [0], [0, 1], [], [3], [0, 1, 2, 3, 4], [], [6], [], [8], [], [10], [0, 1, 2, 3, 4, 5], [0, 1, 2, 3, 4, 5, 6, 7, 12], [0, 1, 2, 3, 4, 5, 6, 7, 8, 9, 12, 13]], [(4, 2), (7, 2), (7, 5), (7, 12), (9, 2), (9, 5), (9, 12), (9, 13), (11, 2), (11, 5), (11, 12), (11, 13), (11, 14)])), (1, ([], [])), (1, ([], [])), (1, ([], []))])) (.leaf [0, 1, 2, 3, 4, 6, 7, 9, 10, 12, 13, 16, 5, 8, 11, 14, 15, 17] [[], [0], [0, 1], [], [3], [], [5], [], [7], [], [9], [0, 1, 2], [0, 1, 2, 3, 4, 11], [0, 1, 2, 3, 4, 5, 6, 11, 12], [0, 1, 2, 3, 4, 5, 6, 7, 8, 11, 12, 13], [0, 1, 2, 3, 4, 5, 6, 7, 8, 9, 10, 11, 12, 13, 14], [0, 1, 2, 3, 4, 5, 6, 7, 8, 9, 10, 11, 12, 13, 14, 15], [0, 1, 2, 3, 4, 5, 6, 7, 8, 9, 10, 11, 12, 13, 14, 15, 16]] [(15, ([[], [0], [0, 1], [], [3], [], [5], [], [7], [], [9], [0, 1, 2], [0, 1, 2, 3, 4, 11], [0, 1, 2, 3, 4, 5, 6, 11, 12], [0, 1, 2, 3, 4, 5, 6, 7, 8, 11, 12, 13]], [(4, 2), (4, 11), (6, 2), (6, 11), (6, 12), (8, 2), (8, 11), (8, 12), (8, 13), (10, 2), (10, 11), (10, 12), (10, 13), (10, 14)])), (1, ([], [])), (1, ([], [])), (1, ([], []))])) (.leaf [0, 1, 3, 4, 6, 7, 9, 10, 12, 13, 16, 2, 5, 8, 11, 14, 15, 17] [[], [0], [], [2], [], [4], [], [6], [], [8], [], [0, 1, 10], [0, 1, 2, 3, 10, 11], [0, 1, 2, 3, 4, 5, 10, 11, 12], [0, 1, 2, 3, 4, 5, 6, 7, 10, 11, 12, 13], [0, 1, 2, 3, 4, 5, 6, 7, 8, 9, 10, 11, 12, 13, 14], [0, 1, 2, 3, 4, 5, 6, 7, 8, 9, 10, 11, 12, 13, 14, 15], [0, 1, 2, 3, 4, 5, 6, 7, 8, 9, 10, 11, 12, 13, 14, 15, 16]] [(15, ([[], [0], [], [2], [], [4], [], [6], [], [8], [], [0, 1, 10], [0, 1, 2, 3, 10, 11], [0, 1, 2, 3, 4, 5, 10, 11, 12], [0, 1, 2, 3, 4, 5, 6, 7, 10, 11, 12, 13]], [(1, 10), (3, 10), (3, 11), (5, 10), (5, 11), (5, 12), (7, 10), (7, 11), (7, 12), (7, 13), (9, 10), (9, 11), (9, 12), (9, 13), (9, 14)])), (1, ([], [])), (1, ([], [])), (1, ([], []))])) (by kernel_rfl) (by kernel_rfl) ?_; simp only [PT.run]; repeat' (with_reducible apply And.intro); all_goals (simp only [zB0, List.map_cons, List.map_nil, List.getD_cons_zero, List.getD_cons_succ])) | exact rt1 (kX4 @b2w.eq_1 @ior.eq_1 @u32c @i64c) | fail) <;> (refine af1 (kX4 @b2w.eq_1 @ior.eq_1 @u32c @i64c) ?_; (repeat intro K hK); refine wr ?_))
 ·refine zBe (.node 2 16 (.node 5 16 (.node 8 16 (.node 11 16 (.node 14 16 (.leaf [0, 1, 2, 3, 4, 5, 6, 7, 8, 9, 10, 11, 12, 13, 14, 15, 16, 17] [[], [0], [0, 1], [], [3], [0, 1, 2, 3, 4], [], [6], [0, 1, 2, 3, 4, 5, 6, 7], [], [9], [0, 1, 2, 3, 4, 5, 6, 7, 8, 9, 10], [], [12], [0, 1, 2, 3, 4, 5, 6, 7, 8, 9, 10, 11, 12, 13], [0, 1, 2, 3, 4, 5, 6, 7, 8, 9, 10, 11, 12, 13, 14], [0, 1, 2, 3, 4, 5, 6, 7, 8, 9, 10, 11, 12, 13, 14], [0, 1, 2, 3, 4, 5, 6, 7, 8, 9, 10, 11, 12, 13, 14, 15, 16]] [(14, ([[], [0], [0, 1], [], [3], [0, 1, 2, 3, 4], [], [6], [0, 1, 2, 3, 4, 5, 6, 7], [], [9], [0, 1, 2, 3, 4, 5, 6, 7, 8, 9, 10], [], [12]], [(4, 2), (7, 2), (7, 5), (10, 2), (10, 5), (10, 8), (13, 2), (13, 5), (13, 8), (13, 11)])), (1, ([], [])), (2, ([[], []], [])), (1, ([], []))]) (.leaf [0, 1, 2, 3, 4, 5, 6, 7, 8, 9, 10, 11, 12, 13, 16, 14, 15, 17] [[], [0], [0, 1], [], [3], [0, 1, 2, 3, 4], [], [6], [0, 1, 2, 3, 4, 5, 6, 7], [], [9], [0, 1, 2, 3, 4, 5, 6, 7, 8, 9, 10], [], [12], [0, 1, 2, 3, 4, 5, 6, 7, 8, 9, 10, 11], [0, 1, 2, 3, 4, 5, 6, 7, 8, 9, 10, 11, 12, 13, 14], [0, 1, 2, 3, 4, 5, 6, 7, 8, 9, 10, 11, 12, 13, 14, 15], [0, 1, 2, 3, 4, 5, 6, 7, 8, 9, 10, 11, 12, 13, 14, 15, 16]] [(15, ([[], [0], [0, 1], [], [3], [0, 1, 2, 3, 4], [], [6], [0, 1, 2, 3, 4, 5, 6, 7], [], [9], [0, 1, 2, 3, 4, 5, 6, 7, 8, 9, 10], [], [12], [0, 1, 2, 3, 4, 5, 6, 7, 8, 9, 10, 11]], [(4, 2), (7, 2), (7, 5), (10, 2), (10, 5), (10, 8), (13, 2), (13, 5), (13, 8), (13, 11), (13, 14)])), (1, ([], [])), (1, ([], [])), (1, ([], []))])) (.leaf [0, 1, 2, 3, 4, 5, 6, 7, 8, 9, 10, 12, 13, 16, 11, 14, 15, 17] [[], [0], [0, 1], [], [3], [0, 1, 2, 3, 4], [], [6], [0, 1, 2, 3, 4, 5, 6, 7], [], [9], [], [11], [0, 1, 2, 3, 4, 5, 6, 7, 8], [0, 1, 2, 3, 4, 5, 6, 7, 8, 9, 10, 13], [0, 1, 2, 3, 4, 5, 6, 7, 8, 9, 10, 11, 12, 13, 14], [0, 1, 2, 3, 4, 5, 6, 7, 8, 9, 10, 11, 12, 13, 14, 15], [0, 1, 2, 3, 4, 5, 6, 7, 8, 9, 10, 11, 12, 13, 14, 15, 16]] [(15, ([[], [0], [0, 1], [], [3], [0, 1, 2, 3, 4], [], [6], [0, 1, 2, 3, 4, 5, 6, 7], [], [9], [], [11], [0, 1, 2, 3, 4, 5, 6, 7, 8], [0, 1, 2, 3, 4, 5, 6, 7, 8, 9, 10, 13]], [(4, 2), (7, 2), (7, 5), (10, 2), (10, 5), (10, 8), (10, 13), (12, 2), (12, 5), (12, 8), (12, 13), (12, 14)])), (1, ([], [])), (1, ([], [])), (1, ([], []))])) (.leaf [0, 1, 2, 3, 4, 5, 6, 7, 9, 10, 12, 13, 16, 8, 11, 14, 15, 17] [[], [0], [0, 1], [], [3], [0, 1, 2, 3, 4], [], [6], [], [8], [], [10], [0, 1, 2, 3, 4, 5], [0, 1, 2, 3, 4, 5, 6, 7, 12], [0, 1, 2, 3, 4, 5, 6, 7, 8, 9, 12, 13], [0, 1, 2, 3, 4, 5, 6, 7, 8, 9, 10, 11, 12, 13, 14], [0, 1, 2, 3, 4, 5, 6, 7, 8, 9, 10, 11, 12, 13, 14, 15], [0, 1, 2, 3, 4, 5, 6, 7, 8, 9, 10, 11, 12, 13, 14, 15, 16]] [(15, ([[], [0], [0, 1], [], [3], [0, 1, 2, 3, 4], [], [6], [], [8], [], [10], [0, 1, 2, 3, 4, 5], [0, 1, 2, 3, 4, 5, 6, 7, 12], [0, 1, 2, 3, 4, 5, 6, 7, 8, 9, 12, 13]], [(4, 2), (7, 2), (7, 5), (7, 12), (9, 2), (9, 5), (9, 12), (9, 13), (11, 2), (11, 5), (11, 12), (11, 13), (11, 14)])), (1, ([], [])), (1, ([], [])), (1, ([], []))])) (.leaf [0, 1, 2, 3, 4, 6, 7, 9, 10, 12, 13, 16, 5, 8, 11, 14, 15, 17] [[], [0], [0, 1], [], [3], [], [5], [], [7], [], [9], [0, 1, 2], [0, 1, 2, 3, 4, 11], [0, 1, 2, 3, 4, 5, 6, 11, 12], [0, 1, 2, 3, 4, 5, 6, 7, 8, 11, 12, 13], [0, 1, 2, 3, 4, 5, 6, 7, 8, 9, 10, 11, 12, 13, 14], [0, 1, 2, 3, 4, 5, 6, 7, 8, 9, 10, 11, 12, 13, 14, 15], [0, 1, 2, 3, 4, 5, 6, 7, 8, 9, 10, 11, 12, 13, 14, 15, 16]] [(15, ([[], [0], [0, 1], [], [3], [], [5], [], [7], [], [9], [0, 1, 2], [0, 1, 2, 3, 4, 11], [0, 1, 2, 3, 4, 5, 6, 11, 12], [0, 1, 2, 3, 4, 5, 6, 7, 8, 11, 12, 13]], [(4, 2), (4, 11), (6, 2), (6, 11), (6, 12), (8, 2), (8, 11), (8, 12), (8, 13), (10, 2), (10, 11), (10, 12), (10, 13), (10, 14)])), (1, ([], [])), (1, ([], [])), (1, ([], []))])) (.leaf [0, 1, 3, 4, 6, 7, 9, 10, 12, 13, 16, 2, 5, 8, 11, 14, 15, 17] [[], [0], [], [2], [], [4], [], [6], [], [8], [], [0, 1, 10], [0, 1, 2, 3, 10, 11], [0, 1, 2, 3, 4, 5, 10, 11, 12], [0, 1, 2, 3, 4, 5, 6, 7, 10, 11, 12, 13], [0, 1, 2, 3, 4, 5, 6, 7, 8, 9, 10, 11, 12, 13, 14], [0, 1, 2, 3, 4, 5, 6, 7, 8, 9, 10, 11, 12, 13, 14, 15], [0, 1, 2, 3, 4, 5, 6, 7, 8, 9, 10, 11, 12, 13, 14, 15, 16]] [(15, ([[], [0], [], [2], [], [4], [], [6], [], [8], [], [0, 1, 10], [0, 1, 2, 3, 10, 11], [0, 1, 2, 3, 4, 5, 10, 11, 12], [0, 1, 2, 3, 4, 5, 6, 7, 10, 11, 12, 13]], [(1, 10), (3, 10), (3, 11), (5, 10), (5, 11), (5, 12), (7, 10), (7, 11), (7, 12), (7, 13), (9, 10), (9, 11), (9, 12), (9, 13), (9, 14)])), (1, ([], [])), (1, ([], [])), (1, ([], []))])) (by kernel_rfl) (by kernel_rfl) ?_
  simp only [PT.run]
  repeat' (with_reducible apply And.intro)
  all_goals (simp only [zB0, List.map_cons, List.map_nil, List.getD_cons_zero, List.getD_cons_succ]; repeat (first | (with_reducible first | refine zAj fun K hK => ?_ | refine zAa ?_) | ((with_reducible first | refine zAV (by kernel_rfl) ?_ | refine zAm ?_ | refine zAi ?_ | refine zAn ?_ | refine zAl ?_ | refine zBG ?_ | refine zBK ?_ | refine zBL ?_ | refine zBM ?_ | refine zAk ?_ | refine zAh ?_); simp) | ((repeat ((fail_if_success ((with_reducible first | refine hK _ ?_ | refine hK _ _ _ _ ?_))); clear hK)); (with_reducible first | refine hK _ ?_ | refine hK _ _ _ _ ?_); clear hK) | (with_reducible refine zBV fun K hK => ?_; simp) | (with_reducible refine zBX ?_; try simp only [thn, blk]) | (with_reducible refine zBT fun K hK => ?_; simp only [List.take_succ_cons, List.take_zero]) | (with_reducible refine zBI fun K hK => ?_; simp) | (with_reducible refine zBU ?_) | (with_reducible refine zBH ?_; simp only [List.drop_succ_cons, List.drop_zero]; simp only [stS, eT, eO, List.cons_append, List.nil_append, cond_true, cond_false, Bool.and_true, Bool.and_false, Bool.true_and, Bool.false_and]) | (with_reducible refine zA4 ?_ ?_; (· (simp <;> first | omega | grind))) | refine And.intro (by first | omega | assumption | grind) ?_))
  all_goals ((refine cc (ht) ?_))
  all_goals ((refine af ?_); (repeat intro K hK); (refine wr ?_))
  all_goals ((refine cc (hk) ?_))
  all_goals ((refine af ?_); (repeat intro K hK); (refine wr ?_))
  all_goals ((refine cc (hd) ?_))
  all_goals ((refine af ?_); (repeat intro K hK); (refine wr ?_))
  all_goals ((refine cc (hn) ?_))
  all_goals ((refine af ?_); (repeat intro K hK); (refine wr ?_))
  all_goals ((refine cc (hb) ?_))
  all_goals ((refine af ?_); (repeat intro K hK); (refine wr ?_))
  all_goals first
   | (refine hJ () _ (fun x => if x = 1 then 1 else x) trivial ⟨rfl, ?_, ?_, ?_, ?_⟩ <;> (first | (simp [leT, ltV, lt1, ren, ren1]; done) | (simp [leO, lt1, ren1]; done) | fail))
   | (refine hJ () _ (fun x => if x = 1 then 2 else x) trivial ⟨rfl, ?_, ?_, ?_, ?_⟩ <;> (first | (simp [leT, ltV, lt1, ren, ren1]; done) | (simp [leO, lt1, ren1]; done) | fail))
   | (refine hJ () _ (fun x => if x = 1 then 3 else x) trivial ⟨rfl, ?_, ?_, ?_, ?_⟩ <;> (first | (simp [leT, ltV, lt1, ren, ren1]; done) | (simp [leO, lt1, ren1]; done) | fail))
   | (refine hJ () _ (fun x => if x = 1 then 4 else x) trivial ⟨rfl, ?_, ?_, ?_, ?_⟩ <;> (first | (simp [leT, ltV, lt1, ren, ren1]; done) | (simp [leO, lt1, ren1]; done) | fail))
   | (refine hJ () _ (fun x => if x = 1 then 5 else x) trivial ⟨rfl, ?_, ?_, ?_, ?_⟩ <;> (first | (simp [leT, ltV, lt1, ren, ren1]; done) | (simp [leO, lt1, ren1]; done) | fail))
   | (refine hJ () _ (fun x => if x = 1 then 6 else x) trivial ⟨rfl, ?_, ?_, ?_, ?_⟩ <;> (first | (simp [leT, ltV, lt1, ren, ren1]; done) | (simp [leO, lt1, ren1]; done) | fail))
   | (refine hJ () _ (fun x => if x = 1 then 7 else x) trivial ⟨rfl, ?_, ?_, ?_, ?_⟩ <;> (first | (simp [leT, ltV, lt1, ren, ren1]; done) | (simp [leO, lt1, ren1]; done) | fail))
theorem zCD {C D E G : Prop} (c : C) (d : D) (e : E) (t : C → D → E → G := by intro c d e; (refine au1 e ?_; (repeat intro K hK); refine wr ?_); repeat' ((first | (refine zAA rfl (fun h => ?_) (fun h => ?_) <;> (first | (simp [e] at h; done) | (simp [e] at h) | skip) <;> (first | (exfalso; omega) | skip)) | ((first | refine .inl ⟨1, _, d.1, ?_⟩ | refine ⟨1, _, d.1, ?_⟩); simp [aftC, aftE, noX, noXc, noX1, e]; first | refine And.intro zAL ?_ | skip) | ((first | refine .inl ⟨1, _, d.2.1, ?_⟩ | refine ⟨1, _, d.2.1, ?_⟩); simp [aftC, aftE, noX, noXc, noX1, e]; first | refine And.intro zAL ?_ | skip) | refine cc1 c.1 e ?_ | refine cc1 c.2.1 e ?_ | refine cc1 c.2.2.1 e ?_ | refine cc1 c.2.2.2.1 e ?_ | refine cc1 c.2.2.2.2.1 e ?_ | refine cc1 c.2.2.2.2.2.1 e ?_ | refine zAK 6 ?_ | refine zAF fun K hK => ?_ | exact rt1 e | fail) <;> (refine au1 e ?_; (repeat intro K hK); refine wr ?_))) : G := t c d e
theorem zLJ (m : MchD) : 0 ≤ zE2 m ∧ zE2 m ≤ 31 := by
 have hb : ∀ b, 0 ≤ b2w b ∧ b2w b ≤ 1 := fun b => by cases b <;> simp [b2w]
 unfold zE2
 have := hb m.tim.fired; have := hb (!decide (m.keys = [])); have := hb (zBj m.dk); have := hb m.nc.received; have := hb (zA2 m.tgt m.given)
 omega
theorem enabled_ok (m : MchD) (hM : OkM m) : zAD Tryz.prog 170 [.st m.row] (uv (enD m)) := by
 refine sZ Tryz.func170 Tryz.ntmps170 ?_
 (refine af1 @enD.eq_1 ?_; (repeat intro K hK); refine wr ?_)
 repeat' ((first | (refine zAA rfl (fun h => ?_) (fun h => ?_) <;> (first | (simp [enD] at h; done) | (simp [enD] at h) | skip) <;> (first | (exfalso; omega) | skip)) | refine cc1 (zHS m hM) @enD.eq_1 ?_ | (refine zAE ([0, 1, 2, 3, 4, 5, 6, 7] : List Nat) ([[], [0], [], [2], [2, 3], [2, 3, 4], [0, 1, 2, 3, 4, 5], [0, 1, 2, 3, 4, 5, 6]] : List (List Nat)) ([(6, ([[], [0], [], [2], [2, 3], [2, 3, 4]], [(4, 1), (5, 1)])), (1, ([], [])), (1, ([], []))] : List (Nat × List (List Nat) × List (Nat × Nat))) (by kernel_rfl) (by kernel_rfl) (by kernel_rfl) ?_) | exact rt1 @enD.eq_1 | fail) <;> (refine af1 @enD.eq_1 ?_; (repeat intro K hK); refine wr ?_))
structure OkE (e : EffD) : Prop where
 r : e.kind = 1 → 0 ≤ e.reg ∧ e.reg ≤ 15
 v : W32 e.val
theorem OkM.wait {m : MchD} (h : OkM m) (b : Bool) : OkM { m with waiting := b } := ⟨h.c, h.w, h.n, h.k, h.t, h.d, h.r, h.tg, h.gv, h.ct⟩
theorem enD_w (m : MchD) : W32 (enD m) := by unfold enD iand; rw [IntKind.wrap_u32]; constructor <;> omega
theorem zNd (m : MchD) (hM : OkM m) : zAD Tryz.prog 112 [.st m.row] (.bool (zHV m)) := by
 refine sZ Tryz.func112 Tryz.ntmps112 ?_
 exact wx1 (qX1 (enabled_ok m hM)) trivial @zHV.eq_1
theorem zM0 (m : MchD) (hM : OkM m) : zAD Tryz.prog 171 [.st m.row] (.bool (zE9 m)) := by
 refine sZ Tryz.func171 Tryz.ntmps171 ?_
 exact wx1 (qX2 (zEu m hM.gv.1 (by have := hM.gv.2; omega)) (zNd m hM)) trivial @zE9.eq_1
theorem iand8 {x : Int} (h : W32 x) : iand .u32 x 8 = x / 8 % 2 * 8 := zDU x 3 h (by decide)
theorem iand16 {x : Int} (h : W32 x) : iand .u32 x 16 = x / 16 % 2 * 16 := zDU x 4 h (by decide)
theorem zKR (m : MchD) (hM : OkM m) : zAD Tryz.prog 172 [.st m.row] (.st (zAM m).row) := by
 have c2 := zTO (hM.c.csr 0)
 have he := enD_w m
 by_cases q : m.cpu.csr 0 / 2 % 2 = 0
 ·have hE : zAM m = { m with waiting := false } := by unfold zAM; rw [if_pos q]
  rw [hE]
  refine sZ Tryz.func172 Tryz.ntmps172 ?_
  exact wx1 trivial trivial (kX2 @c2 @q)
 ·have i1 := zO7 he
  have i2 := zTO he
  have i4 := iand4 he
  have i8 := iand8 he
  have i16 := iand16 he
  have hen : zAD Tryz.prog 170 [.st ({ m with waiting := false } : MchD).row] (uv (enD m)) := enabled_ok { m with waiting := false } (hM.wait false)
  have z : ∀ x : Int, ¬ x % 2 = 1 → x % 2 = 0 := fun x hx => by omega
  by_cases h0 : enD m % 2 = 1
  ·have hE : zAM m = { m with waiting := false, cpu := zA8 m.cpu (16 + 0) 0 } := by unfold zAM lowB; rw [if_neg (by omega)]; simp [h0]
   rw [hE]
   refine sX Tryz.func172 Tryz.ntmps172 ?_;intros;refine wr ?_
   exact zCD (qX2 (hen) (zCO m.cpu (16 + 0) 0 hM.c)) trivial (kX10 @c2 @q @i1 @i2 @i4 @i8 @i16 @u32c @i64c @h0)
  ·have z0 := z _ h0
   by_cases h1 : enD m / 2 % 2 = 1
   ·have hE : zAM m = { m with waiting := false, cpu := zA8 m.cpu (16 + 1) 0 } := by unfold zAM lowB; rw [if_neg (by omega)]; simp [z0, h1]
    rw [hE]
    refine sX Tryz.func172 Tryz.ntmps172 ?_;intros;refine wr ?_
    exact zCD (qX2 (hen) (zCO m.cpu (16 + 1) 0 hM.c)) trivial (kX11 @c2 @q @i1 @i2 @i4 @i8 @i16 @u32c @i64c @z0 @h1)
   ·have z1 := z _ h1
    by_cases h2 : enD m / 4 % 2 = 1
    ·have hE : zAM m = { m with waiting := false, cpu := zA8 m.cpu (16 + 2) 0 } := by unfold zAM lowB; rw [if_neg (by omega)]; simp [z0, z1, h2]
     rw [hE]
     refine sX Tryz.func172 Tryz.ntmps172 ?_;intros;refine wr ?_
     exact zCD (qX2 (hen) (zCO m.cpu (16 + 2) 0 hM.c)) trivial (kX12 @c2 @q @i1 @i2 @i4 @i8 @i16 @u32c @i64c @z0 @z1 @h2)
    ·have z2 := z _ h2
     by_cases h3 : enD m / 8 % 2 = 1
     ·have hE : zAM m = { m with waiting := false, cpu := zA8 m.cpu (16 + 3) 0 } := by unfold zAM lowB; rw [if_neg (by omega)]; simp [z0, z1, z2, h3]
      rw [hE]
      refine sX Tryz.func172 Tryz.ntmps172 ?_;intros;refine wr ?_
      exact zCD (qX2 (hen) (zCO m.cpu (16 + 3) 0 hM.c)) trivial (kX13 @c2 @q @i1 @i2 @i4 @i8 @i16 @u32c @i64c @z0 @z1 @z2 @h3)
     ·have z3 := z _ h3
      by_cases h4 : enD m / 16 % 2 = 1
      ·have hE : zAM m = { m with waiting := false, cpu := zA8 m.cpu (16 + 4) 0 } := by unfold zAM lowB; rw [if_neg (by omega)]; simp [z0, z1, z2, z3, h4]
       rw [hE]
       refine sX Tryz.func172 Tryz.ntmps172 ?_;intros;refine wr ?_
       exact zCD (qX2 (hen) (zCO m.cpu (16 + 4) 0 hM.c)) trivial (kX14 @c2 @q @i1 @i2 @i4 @i8 @i16 @u32c @i64c @z0 @z1 @z2 @z3 @h4)
      ·have z4 := z _ h4
       have hE : zAM m = { m with waiting := false } := by unfold zAM lowB; rw [if_neg (by omega)]; simp [z0, z1, z2, z3, z4]
       rw [hE]
       refine sX Tryz.func172 Tryz.ntmps172 ?_;intros;refine wr ?_
       exact zCD (qX1 (hen)) trivial (kX14 @c2 @q @i1 @i2 @i4 @i8 @i16 @u32c @i64c @z0 @z1 @z2 @z3 @z4)
theorem OkC.trap {c : CpuD} (h : OkC c) {k b : Int} (hb : W32 b) : OkC (zA8 c k b) := by
 have ht := zM9 (c.csr 0)
 refine ⟨h.x, h.csr 1, fun i => ?_, by simpa [zA8] using ht.2⟩
 simp only [zA8]
 split
 ·exact ⟨ht.1, by omega⟩
 ·split
  ·exact h.pc
  ·split
   ·exact uw_w _
   ·split
    ·exact hb
    ·exact h.csr i
theorem OkC.ret {c : CpuD} (h : OkC c) : OkC (retD c) := by
 have ht := zRu (c.csr 0)
 refine ⟨h.x, h.csr 2, fun i => ?_, by simpa [retD] using ht.2⟩
 simp only [retD]
 split
 ·exact ⟨ht.1, by omega⟩
 ·exact h.csr i
theorem zJ0 (m : MchD) : (zAM m).mem = m.mem := by unfold zAM; split; rfl; split <;> rfl
theorem zEO {m : MchD} (hM : OkM m) : OkC (zAM m).cpu := by
 unfold zAM
 split
 ·exact hM.c
 ·split
  ·exact hM.c
  ·exact hM.c.trap ⟨by decide, by decide⟩
theorem zPR (m : MchD) (hM : OkM m) : zAD Tryz.prog 113 [.st m.row] (.bool (zG2 m)) := by
 have hx := zOv (zAM m).cpu m.mem (zEO hM) hM.w (by have := hM.n; omega)
 have hb := zKR m hM
 have hm := zJ0 m
 have hr := zM0 m hM
 cases hR : zE9 m with
 | false =>
  have hE : zG2 m = false := by unfold zG2; rw [hR]; rfl
  rw [hR] at hr
  rw [hE]
  refine sZ Tryz.func113 Tryz.ntmps113 ?_
  exact wx (qX1 (hr)) trivial
 | true =>
  have hE : zG2 m = (decide ((effD m).kind = 1) && decide ((effD m).port = 2)) := by unfold zG2; rw [hR]; rfl
  rw [hR] at hr
  rw [hE]
  have hF : effD m = (zAs (zAM m).cpu m.mem).2.2 := rfl
  rw [hF]
  generalize zAM m = b at *
  generalize zAs b.cpu m.mem = Z at *
  refine sZ Tryz.func113 Tryz.ntmps113 ?_
  exact wx1 (qX3 (hr) (hb) (hx)) trivial @hm
theorem zJp (m : MchD) (p k : Int) (hM : OkM m) : zAD Tryz.prog 174 [.st m.row, iv p, uv k] (.tup [.st (zAp m p k).1.row, uv (zAp m p k).2]) := by
 refine sZ Tryz.func174 Tryz.ntmps174 ?_
 exact wx1 (qX5 (zP3 m.keys p hM.k) (zPZ m.tim) (zPl m.dk p) (zRN m.nc p) (zQR m.tgt m.given p hM.gv)) trivial @zAp.eq_1
theorem zQE (m : MchD) (e : EvD) (hM : OkM m) (hn : W32 e.n) (hd : e.data.length ≤ 100000) : zAD Tryz.prog 110 [.st m.row, .st e.row] (.tup [.st (zAz m e).1.row, .bool (zAz m e).2]) := by
 have hcl := zBQ (ints .u32 m.mem) false 1 (.inl rfl) (by rw [zAP]; have := hM.n; omega)
 have hmy := zEu m hM.gv.1 (by have := hM.gv.2; omega)
 have hw8 : ∀ n : Int, 0 ≤ n → n ≤ 255 → IntKind.u8.wrap n = n := fun n h0 h1 => u8_in h0 (by omega)
 have hdc := zJV m.dk m.mem e hM.d.f hn (by have := hM.n; omega)
 have hnr := zLo m.nc m.mem e.data hM.r.c hd (by have := hM.n; omega)
 cases hmay : mayD m with
 | false =>
  have hE : zAz m e = (m, false) := by unfold zAz; rw [if_pos (.inl hmay)]
  rw [hE]
  refine sZ Tryz.func110 Tryz.ntmps110 ?_
  exact wx1 (qX2 (hcl) (hmy)) trivial @hmay
 | true =>
  cases hH : m.halted with
  | true =>
   have hE : zAz m e = (m, false) := by unfold zAz; rw [if_pos (.inr hH)]
   rw [hE]
   refine sY Tryz.func110 Tryz.ntmps110 @hmay ?_;intros;refine wr ?_
   refine cX (hcl) ?_;intros;refine wr ?_
   refine cc1 (hmy) @hmay ?_
   refine au ?_;intros;refine wr ?_
   refine gT10 @hH rfl ?_;intros;refine wr ?_
   exact wx trivial trivial
  | false =>
   have hn0 : ¬ (mayD m = false ∨ m.halted = true) := by simp [hmay, hH]
   by_cases k2 : e.kind = 2
   ·by_cases q : e.n = 0 ∧ e.data = []
    ·obtain ⟨q1, q2⟩ := q
     have hE : zAz m e = ({ m with tim := (zHC m.tim).1 }, (zHC m.tim).2) := by unfold zAz; rw [if_neg hn0, if_pos k2, if_pos ⟨q1, q2⟩]
     have htp := zTd m.tim
     rw [hE]
     generalize zHC m.tim = R at *
     refine sY Tryz.func110 Tryz.ntmps110 @hmay ?_;intros;refine wr ?_
     refine cX (hcl) ?_;intros;refine wr ?_
     refine cc1 (hmy) @hmay ?_
     refine au ?_;intros;refine wr ?_
     refine gF10 @hH rfl ?_;intros;refine wr ?_
     exact wx1 (qX1 (htp)) trivial (kX3 @k2 @q1 @q2)
    ·have hE : zAz m e = (m, false) := by unfold zAz; rw [if_neg hn0, if_pos k2, if_neg q]
     rw [hE]
     by_cases q1 : e.n = 0
     ·have q2 : ¬ e.data = [] := fun z => q ⟨q1, z⟩
      refine sY Tryz.func110 Tryz.ntmps110 @hmay ?_;intros;refine wr ?_
      refine cX (hcl) ?_;intros;refine wr ?_
      refine cc1 (hmy) @hmay ?_
      refine au ?_;intros;refine wr ?_
      refine gF10 @hH rfl ?_;intros;refine wr ?_
      exact wx1 trivial trivial (kX3 @k2 @q1 @q2)
     ·refine sY Tryz.func110 Tryz.ntmps110 @hmay ?_;intros;refine wr ?_
      refine cX (hcl) ?_;intros;refine wr ?_
      refine cc1 (hmy) @hmay ?_
      refine au ?_;intros;refine wr ?_
      refine gF10 @hH rfl ?_;intros;refine wr ?_
      exact wx1 trivial trivial (kX2 @k2 @q1)
   ·by_cases k3 : e.kind = 3
    ·by_cases q : e.n ≤ 255 ∧ e.data = []
     ·obtain ⟨q1, q2⟩ := q
      have w8 := hw8 e.n hn.1 q1
      have htp := zSv m.keys e.n hn.1 q1
      have hE : zAz m e = ({ m with keys := (zHL m.keys (UInt8.ofNat e.n.toNat)).1 }, (zHL m.keys (UInt8.ofNat e.n.toNat)).2) := by unfold zAz; rw [if_neg hn0, if_neg k2, if_pos k3, if_pos ⟨q1, q2⟩]
      rw [hE]
      generalize zHL m.keys (UInt8.ofNat e.n.toNat) = R at *
      refine sY Tryz.func110 Tryz.ntmps110 @hmay ?_;intros;refine wr ?_
      refine cX (hcl) ?_;intros;refine wr ?_
      refine cc1 (hmy) @hmay ?_
      refine au ?_;intros;refine wr ?_
      refine gF10 @hH rfl ?_;intros;refine wr ?_
      exact wx1 (qX1 (htp)) trivial (kX4 @k3 @q1 @q2 @w8)
     ·have hE : zAz m e = (m, false) := by unfold zAz; rw [if_neg hn0, if_neg k2, if_pos k3, if_neg q]
      rw [hE]
      by_cases q1 : e.n ≤ 255
      ·have q2 : ¬ e.data = [] := fun z => q ⟨q1, z⟩
       refine sY Tryz.func110 Tryz.ntmps110 @hmay ?_;intros;refine wr ?_
       refine cX (hcl) ?_;intros;refine wr ?_
       refine cc1 (hmy) @hmay ?_
       refine au ?_;intros;refine wr ?_
       refine gF10 @hH rfl ?_;intros;refine wr ?_
       exact wx1 trivial trivial (kX3 @k3 @q1 @q2)
      ·refine sY Tryz.func110 Tryz.ntmps110 @hmay ?_;intros;refine wr ?_
       refine cX (hcl) ?_;intros;refine wr ?_
       refine cc1 (hmy) @hmay ?_
       refine au ?_;intros;refine wr ?_
       refine gF10 @hH rfl ?_;intros;refine wr ?_
       exact wx1 trivial trivial (kX2 @k3 @q1)
    ·by_cases k4 : e.kind = 4
     ·have hE : zAz m e = ({ m with dk := (zAX m.dk m.mem e).1, mem := (zAX m.dk m.mem e).2.1 }, (zAX m.dk m.mem e).2.2) := by unfold zAz; rw [if_neg hn0, if_neg k2, if_neg k3, if_pos k4]
      rw [hE]
      generalize zAX m.dk m.mem e = R at *
      refine sY Tryz.func110 Tryz.ntmps110 @hmay ?_;intros;refine wr ?_
      refine cX (hcl) ?_;intros;refine wr ?_
      refine cc1 (hmy) @hmay ?_
      refine au ?_;intros;refine wr ?_
      refine gF10 @hH rfl ?_;intros;refine wr ?_
      exact wx1 (qX1 (hdc)) trivial (kX2 @k2 @k3)
     ·by_cases k5 : e.kind = 5
      ·by_cases q1 : e.n = 0
       ·have hE : zAz m e = ({ m with nc := (zAv m.nc m.mem e.data).1, mem := (zAv m.nc m.mem e.data).2.1 }, (zAv m.nc m.mem e.data).2.2) := by unfold zAz; rw [if_neg hn0, if_neg k2, if_neg k3, if_neg k4, if_pos k5, if_pos q1]
        rw [hE]
        generalize zAv m.nc m.mem e.data = R at *
        refine sY Tryz.func110 Tryz.ntmps110 @hmay ?_;intros;refine wr ?_
        refine cX (hcl) ?_;intros;refine wr ?_
        refine cc1 (hmy) @hmay ?_
        refine au ?_;intros;refine wr ?_
        refine gF10 @hH rfl ?_;intros;refine wr ?_
        exact wx1 (qX1 (hnr)) trivial (kX2 @k5 @q1)
       ·have hE : zAz m e = (m, false) := by unfold zAz; rw [if_neg hn0, if_neg k2, if_neg k3, if_neg k4, if_pos k5, if_neg q1]
        rw [hE]
        refine sY Tryz.func110 Tryz.ntmps110 @hmay ?_;intros;refine wr ?_
        refine cX (hcl) ?_;intros;refine wr ?_
        refine cc1 (hmy) @hmay ?_
        refine au ?_;intros;refine wr ?_
        refine gF10 @hH rfl ?_;intros;refine wr ?_
        exact wx1 trivial trivial (kX2 @k5 @q1)
      ·by_cases k6 : e.kind = 6
       ·by_cases q2 : e.data = []
        ·have hE : zAz m e = ({ m with tgt := e.n }, true) := by unfold zAz; rw [if_neg hn0, if_neg k2, if_neg k3, if_neg k4, if_neg k5, if_pos k6, if_pos q2]
         rw [hE]
         refine sY Tryz.func110 Tryz.ntmps110 @hmay ?_;intros;refine wr ?_
         refine cX (hcl) ?_;intros;refine wr ?_
         refine cc1 (hmy) @hmay ?_
         refine au ?_;intros;refine wr ?_
         refine gF10 @hH rfl ?_;intros;refine wr ?_
         exact wx1 trivial trivial (kX2 @k6 @q2)
        ·have hE : zAz m e = (m, false) := by unfold zAz; rw [if_neg hn0, if_neg k2, if_neg k3, if_neg k4, if_neg k5, if_pos k6, if_neg q2]
         rw [hE]
         refine sY Tryz.func110 Tryz.ntmps110 @hmay ?_;intros;refine wr ?_
         refine cX (hcl) ?_;intros;refine wr ?_
         refine cc1 (hmy) @hmay ?_
         refine au ?_;intros;refine wr ?_
         refine gF10 @hH rfl ?_;intros;refine wr ?_
         exact wx1 trivial trivial (kX2 @k6 @q2)
       ·have hE : zAz m e = (m, false) := by unfold zAz; rw [if_neg hn0, if_neg k2, if_neg k3, if_neg k4, if_neg k5, if_neg k6]
        rw [hE]
        refine sY Tryz.func110 Tryz.ntmps110 @hmay ?_;intros;refine wr ?_
        refine cX (hcl) ?_;intros;refine wr ?_
        refine cc1 (hmy) @hmay ?_
        refine au ?_;intros;refine wr ?_
        refine gF10 @hH rfl ?_;intros;refine wr ?_
        exact wx1 trivial trivial (kX5 @k2 @k3 @k4 @k5 @k6)
end Go.Proofs.YtjmhjieflbnehaaGreat
end
