/- A part of the proof of ReplicaJoins. -/
import Derived.Test.YtjmhjieflbnehaaGreatP06
import Derived.Test.YtjmhjieflbnehaaGreatP19
import Derived.Test.YtjmhjieflbnehaaGreatP20
set_option linter.unusedSimpArgs false
set_option linter.unusedVariables false
set_option maxHeartbeats 16000000
set_option maxRecDepth 100000
section
namespace Go.Proofs.YtjmhjieflbnehaaGreat
open Go.Ab Go.RowKit
theorem zHu (b : Bool) : zAD Tryz.prog 258 [.bool b] (uv (b2w b)) := by
 refine sZ Tryz.func258 Tryz.ntmps258 ?_
 exact wx1 trivial trivial @b2w.eq_1
theorem zOL (a : Int) : zAD Tryz.prog 259 [iv a] (.bool (decide (1 ≤ a) && decide (a ≤ 3))) := by
 refine sZ Tryz.func259 Tryz.ntmps259 ?_
 exact wx trivial trivial
theorem zOV (a : Int) : zAD Tryz.prog 261 [iv a] (iv (if a = 1 then 4 else if a = 3 then 6 else 5)) := by
 refine sZ Tryz.func261 Tryz.ntmps261 ?_
 exact wx trivial trivial
theorem iand5 {x : Int} (h : 0 ≤ x ∧ x ≤ 31) : decide (iand .u32 x 5 = 4) = (decide (x % 2 = 0) && decide (x / 4 % 2 = 1)) := by
 have e : ∀ k : Fin 32, decide (iand .u32 (k.val : Int) 5 = 4) = (decide ((k.val : Int) % 2 = 0) && decide ((k.val : Int) / 4 % 2 = 1)) := by decide
 have := e ⟨x.toNat, by omega⟩
 rwa [show ((⟨x.toNat, by omega⟩ : Fin 32).val : Int) = x by simp; omega] at this
theorem zNf (c : CpuD) (h : OkC c) : zAD Tryz.prog 260 [.st c.row] (.bool (zC1 c)) := by
 have e := iand5 ⟨(h.csr 0).1, h.s⟩
 refine sZ Tryz.func260 Tryz.ntmps260 ?_
 exact wx1 trivial trivial (kX2 @e @zC1.eq_1)
theorem zOx (op a b : Int) : zAD Tryz.prog 266 [iv op, uv a, uv b] (.bool (zD9 op a b)) := by
 refine sZ Tryz.func266 Tryz.ntmps266 ?_
 exact wx1 trivial trivial @zD9.eq_1
theorem zQa (op : Int) : zAD Tryz.prog 186 [iv op] (.bool (zJq op)) := by
 refine sZ Tryz.func186 Tryz.ntmps186 ?_
 exact wx1 trivial trivial @zJq.eq_1
def zG1 (op : Int) : Int := if op = 16 then 1 else if op = 17 then 3 else if op = 18 then 4 else if op = 19 then 5 else if op = 20 then 6 else if op = 21 then 7 else if op = 22 then 8 else if op = 23 then 12 else op
theorem zDz (op : Int) : zAD Tryz.prog 268 [iv op] (iv (zG1 op)) := by
 refine sZ Tryz.func268 Tryz.ntmps268 ?_
 exact wx1 trivial trivial @zG1.eq_1
theorem zEr (c : CpuD) (r v : Int) (h0 : 0 ≤ r) (h1 : r ≤ 15) : zAD Tryz.prog 141 [.st c.row, iv r, uv v] (.st (c.setR r v).row) := by
 have e := zNP c v h0 h1
 by_cases hr : r = 0
 ·subst hr
  refine sZ Tryz.func141 Tryz.ntmps141 ?_
  exact wx1 trivial trivial @CpuD.setR.eq_1
 ·refine sZ Tryz.func141 Tryz.ntmps141 ?_
  exact wx1 trivial trivial (kX3 @e @CpuD.setR.eq_1 @hr)
theorem zOJ (c : CpuD) (k v : Int) (h0 : 0 ≤ k) (h1 : k ≤ 7) : zAD Tryz.prog 265 [.st c.row, iv k, uv v] (.st (zBC c k v).row) := by
 have hk : k = 0 ∨ k = 1 ∨ k = 2 ∨ k = 3 ∨ k = 4 ∨ k = 5 ∨ k = 6 ∨ k = 7 := by omega
 rcases hk with rfl | rfl | rfl | rfl | rfl | rfl | rfl | rfl
 ·refine sZ Tryz.func265 Tryz.ntmps265 ?_
  exact wx1 trivial trivial (kX2 @zBC.eq_1 @CpuD.setS.eq_1)
 ·refine sZ Tryz.func265 Tryz.ntmps265 ?_
  exact wx1 trivial trivial (kX2 @zBC.eq_1 @CpuD.setS.eq_1)
 ·refine sZ Tryz.func265 Tryz.ntmps265 ?_
  exact wx1 trivial trivial (kX2 @zBC.eq_1 @CpuD.setS.eq_1)
 ·refine sZ Tryz.func265 Tryz.ntmps265 ?_
  exact wx1 trivial trivial (kX2 @zBC.eq_1 @CpuD.setS.eq_1)
 ·refine sZ Tryz.func265 Tryz.ntmps265 ?_
  exact wx1 trivial trivial (kX2 @zBC.eq_1 @CpuD.setS.eq_1)
 ·refine sZ Tryz.func265 Tryz.ntmps265 ?_
  exact wx1 trivial trivial (kX2 @zBC.eq_1 @CpuD.setS.eq_1)
 ·refine sZ Tryz.func265 Tryz.ntmps265 ?_
  exact wx1 trivial trivial (kX2 @zBC.eq_1 @CpuD.setS.eq_1)
 ·refine sZ Tryz.func265 Tryz.ntmps265 ?_
  exact wx1 trivial trivial (kX2 @zBC.eq_1 @CpuD.setS.eq_1)
theorem zSA {s : Int} (h0 : 0 ≤ s) (h1 : s ≤ 31) : ior .u32 (zAQ .u32 (ior .u32 (ior .u32 (zAQ .u32 s 24) (IntKind.u32.wrap (8 * b2w (!decide (iand .u32 s 1 = 0))))) (IntKind.u32.wrap (16 * b2w (!decide (iand .u32 s 2 = 0))))) 2) 1 = zIm s := by
 have e : ∀ k : Fin 32, ior .u32 (zAQ .u32 (ior .u32 (ior .u32 (zAQ .u32 (k.val : Int) 24) (IntKind.u32.wrap (8 * b2w (!decide (iand .u32 (k.val : Int) 1 = 0))))) (IntKind.u32.wrap (16 * b2w (!decide (iand .u32 (k.val : Int) 2 = 0))))) 2) 1 = zIm (k.val : Int) := by decide
 have := e ⟨s.toNat, by omega⟩
 rwa [show ((⟨s.toNat, by omega⟩ : Fin 32).val : Int) = s by simp; omega] at this
theorem rret_s {s : Int} (h0 : 0 ≤ s) (h1 : s ≤ 31) : ior .u32 (ior .u32 (zAQ .u32 s 3) (IntKind.u32.wrap (1 * b2w (!decide (iand .u32 s 8 = 0))))) (IntKind.u32.wrap (2 * b2w (!decide (iand .u32 s 16 = 0)))) = retS s := by
 have e : ∀ k : Fin 32, ior .u32 (ior .u32 (zAQ .u32 (k.val : Int) 3) (IntKind.u32.wrap (1 * b2w (!decide (iand .u32 (k.val : Int) 8 = 0))))) (IntKind.u32.wrap (2 * b2w (!decide (iand .u32 (k.val : Int) 16 = 0)))) = retS (k.val : Int) := by decide
 have := e ⟨s.toNat, by omega⟩
 rwa [show ((⟨s.toNat, by omega⟩ : Fin 32).val : Int) = s by simp; omega] at this
theorem zB3 (c : CpuD) (cause bad : Int) (h : OkC c) : zAD Tryz.prog 183 [.st c.row, iv cause, uv bad] (.st (zA8 c cause bad).row) := by
 have e := zSA (h.csr 0).1 h.s
 refine sZ Tryz.func183 Tryz.ntmps183 ?_
 exact wx1 (qX2 (zHu (!decide (iand .u32 (c.csr 0) 1 = 0))) (zHu (!decide (iand .u32 (c.csr 0) 2 = 0)))) trivial (kX2 @e @zA8.eq_1)
theorem zMO (c : CpuD) (h : OkC c) : zAD Tryz.prog 264 [.st c.row] (.st (retD c).row) := by
 have e := rret_s (h.csr 0).1 h.s
 refine sZ Tryz.func264 Tryz.ntmps264 ?_
 exact wx1 (qX2 (zHu (!decide (iand .u32 (c.csr 0) 8 = 0))) (zHu (!decide (iand .u32 (c.csr 0) 16 = 0)))) trivial (kX2 @e @retD.eq_1)
@[simp] theorem shl8 : IntKind.u32.wrap (4294967295 * 2 ^ (min (8 : Int).toNat 32)) = 4294967040 := by decide
theorem zMT (l : List Int) (a s : Int) (hs : s = 1 ∨ s = 4) (ha : W32 a) : zAD Tryz.prog 184 [memV l, uv a, iv s] (.bool (zAU l a s)) := by
 have hp := zAf l
 have e1 : IntKind.i64.wrap (128 * pagesD l) = 128 * pagesD l := zAC (by omega) (by omega)
 have e2 : IntKind.u32.wrap (128 * pagesD l) = 128 * pagesD l := u32_in (by omega) (by omega)
 have e5 := zIX ha.1
 rcases hs with rfl | rfl
 ·have e6 : zAU l a 1 = decide (a < 128 * pagesD l) := by
   have : (a + 1 ≤ pagesD l * 128) = (a < 128 * pagesD l) := by apply propext; omega
   unfold zAU; simp [this]
  refine sZ Tryz.func184 Tryz.ntmps184 ?_
  exact wx1 (qX1 (zDH l)) trivial (kX6 @e1 @e2 @e5 @e6 @u32c @u64c)
 ·have e6 : zAU l a 4 = (decide (a % 4 = 0) && decide (a < 128 * pagesD l)) := by
   unfold zAU
   by_cases h4 : a % 4 = 0
   ·have : (a + 4 ≤ pagesD l * 128) = (a < 128 * pagesD l) := by apply propext; omega
    simp [h4, this]
   ·simp [h4]
  refine sX Tryz.func184 Tryz.ntmps184 ?_;intros;refine wr ?_
  refine gF01 rfl (kX6 @e1 @e2 @e5 @e6 @u32c @u64c) ?_;intros;refine wr ?_
  first | refine zA3 (zDH l) rfl (fun hgd => ?_) (by simp [obsL]) ?_ | refine zAt (zDH l) rfl (by simp) (fun hgd => ?_) (by simp [obsL]) ?_
  all_goals simp
  all_goals (try (first | exact hgd | (simp at hgd; first | done | assumption | grind)))
  refine au1 (kX6 @e1 @e2 @e5 @e6 @u32c @u64c) ?_;intros;refine wr ?_
  refine zAB ?_
  simp [e1, e2, e5, e6]
  rfl
theorem zQT (l : List Int) (a s : Int) (hs : s = 1 ∨ s = 4) (ha : W32 a) : zAD Tryz.prog 137 [memV l, uv a, iv s] (.tup [uv (if zAU l a s = true then zBl l a s else 0), .bool (zAU l a s)]) := by
 have hW := zMT l a s hs ha
 cases hw : zAU l a s with
 | false =>
  rw [hw] at hW
  refine sZ Tryz.func137 Tryz.ntmps137 ?_
  exact wx (qX1 (hW)) trivial
 | true =>
  rw [hw] at hW
  have hi := zCF hw ha.1
  have e1 := zN4 ha
  obtain ⟨w, hw'⟩ : ∃ w, w = wAt l (a / 4) := ⟨_, rfl⟩
  have e2 := zB7 (k := .u32) (zGC hi)
  rw [← hw'] at e2
  have hw2 := hw'.symm
  have e3 := zAP .u32 l
  have e4 := zIX ha.1
  have e5 : IntKind.u32.wrap (8 * (a % 4)) = 8 * (a % 4) := u32_in (by omega) (by omega)
  have e6 : w.fdiv (2 ^ min (8 * (a % 4)).toNat 32) = w / 2 ^ (8 * (a % 4)).toNat := by
   rw [Nat.min_eq_left (by omega), Int.fdiv_eq_ediv_of_nonneg _ (Int.le_of_lt (Int.pow_pos (by decide)))]
  have e7 : (0 : Int) ≤ a / 4 := by have := ha.1; omega
  have e8 : a / 4 < (l.length : Int) := by omega
  have e9 : w / 2 ^ (8 * (a % 4)).toNat % 256 = byteAt w (a % 4) := rfl
  rcases hs with rfl | rfl
  ·refine sZ Tryz.func137 Tryz.ntmps137 ?_
   exact wx1 (qX1 (hW)) trivial (kX10 @e1 @e2 @e3 @e4 @e5 @e6 @e9 @zBr @zBl.eq_1 @hw2)
  ·refine sZ Tryz.func137 Tryz.ntmps137 ?_
   exact wx1 (qX1 (hW)) trivial (kX6 @e1 @e2 @e3 @e4 @zBl.eq_1 @hw2)
theorem zQC (a b : Int) (ha : W32 a) (hb : W32 b) : zAD Tryz.prog 190 [iv 1, uv a, uv b] (.tup [uv (uw (a + b)), .bool true]) := by
 obtain ⟨e0, e1, e2, e3, e4, e5⟩ := alF a b
 have hpl : zAD Tryz.prog 268 [iv 1] (iv 1) := by have := zDz 1; simpa [zG1] using this
 refine sZ Tryz.func190 Tryz.ntmps190 ?_
 exact wx1 (qX1 (hpl)) trivial (kX2 @e0 @e0)
theorem zNs (a b : Int) (ha : W32 a) (hb : W32 b) : zAD Tryz.prog 190 [iv 16, uv a, uv b] (.tup [uv (uw (a + b)), .bool true]) := by
 obtain ⟨e0, e1, e2, e3, e4, e5⟩ := alF a b
 have hpl : zAD Tryz.prog 268 [iv 16] (iv 1) := by have := zDz 16; simpa [zG1] using this
 refine sZ Tryz.func190 Tryz.ntmps190 ?_
 exact wx1 (qX1 (hpl)) trivial (kX2 @e0 @e0)
theorem zNh (a b : Int) (ha : W32 a) (hb : W32 b) : zAD Tryz.prog 190 [iv 18, uv a, uv b] (.tup [uv (ior .u32 a b), .bool true]) := by
 obtain ⟨e0, e1, e2, e3, e4, e5⟩ := alF a b
 have hpl : zAD Tryz.prog 268 [iv 18] (iv 4) := by have := zDz 18; simpa [zG1] using this
 refine sZ Tryz.func190 Tryz.ntmps190 ?_
 exact wx1 (qX1 (hpl)) trivial (kX2 @e0 @e0)
theorem zNi (a b : Int) (ha : W32 a) (hb : W32 b) : zAD Tryz.prog 190 [iv 20, uv a, uv b] (.tup [uv (uw (a * 2 ^ (b % 32).toNat)), .bool true]) := by
 obtain ⟨e0, e1, e2, e3, e4, e5⟩ := alF a b
 have hpl : zAD Tryz.prog 268 [iv 20] (iv 6) := by have := zDz 20; simpa [zG1] using this
 refine sZ Tryz.func190 Tryz.ntmps190 ?_
 exact wx1 (qX1 (hpl)) trivial (kX3 @e0 @e0 @e3)
theorem zHF (op a b : Int) (ha : W32 a) (hb : W32 b) (h : op = 1 ∨ op = 16 ∨ op = 18 ∨ op = 20) : zAD Tryz.prog 190 [iv op, uv a, uv b] (.tup [uv ((aluD op a b).getD 0), .bool true]) := by
 rcases h with rfl | rfl | rfl | rfl
 ·exact zQC a b ha hb
 ·exact zNs a b ha hb
 ·exact zNh a b ha hb
 ·exact zNi a b ha hb
theorem zPu (n : Int) : IntKind.i16.wrap n = (n + 32768) % 65536 - 32768 := by
 simp only [IntKind.wrap, IntKind.bits, IntKind.signed]
 have e1 : (2 : Int) ^ 16 = 65536 := by decide
 have e2 : (2 : Int) ^ (16 - 1) = 32768 := by decide
 simp only [e1, e2, Bool.true_and, decide_eq_true_eq]
 split <;> omega
theorem zDb (w : Int) (hw : W32 w) : zAD Tryz.prog 138 [uv w] (decV w) := by
 have e1 : w.fdiv 16777216 = w / 16777216 % 256 := by rw [zBu]; have := hw.1; have := hw.2; omega
 have e2 : iand .u32 (w.fdiv 1048576) 15 = w / 1048576 % 16 := by
  rw [Int.fdiv_eq_ediv_of_nonneg _ (by decide)]; exact zBD (w / 1048576) 4 16 (by omega) (by decide)
 have e3 : iand .u32 (w.fdiv 65536) 15 = w / 65536 % 16 := by
  rw [Int.fdiv_eq_ediv_of_nonneg _ (by decide)]; exact zBD (w / 65536) 4 16 (by omega) (by decide)
 have e4 : iand .u32 w 65535 = w % 65536 := zBD w 16 65536 (by omega) (by decide)
 have c1 : IntKind.i64.wrap (w / 16777216 % 256) = w / 16777216 % 256 := zAC (by omega) (by omega)
 have c2 : IntKind.i64.wrap (w / 1048576 % 16) = w / 1048576 % 16 := zAC (by omega) (by omega)
 have c3 : IntKind.i64.wrap (w / 65536 % 16) = w / 65536 % 16 := zAC (by omega) (by omega)
 have c4 : IntKind.i64.wrap (w % 65536) = w % 65536 := zAC (by omega) (by omega)
 have c5 : IntKind.i32.wrap (w % 65536) = w % 65536 := by rw [IntKind.wrap_i32]; omega
 have c6 : IntKind.i16.wrap (w % 65536) = sext (w % 65536) := by rw [zPu]; unfold sext; split <;> omega
 have c7 : IntKind.i32.wrap (sext (w % 65536)) = sext (w % 65536) := by rw [IntKind.wrap_i32]; unfold sext; split <;> omega
 refine sY Tryz.func138 Tryz.ntmps138 (kX6 @e1 @e2 @e3 @c1 @c2 @c3) ?_;intros;refine wr ?_
 refine cX (zFi (w / 16777216 % 256)) ?_;intros;refine wr ?_
 by_cases e0 : zAJ (w / 16777216 % 256) = 0
 ·have hv : validD (decI w) = false := by simp [validD, decI, e0]
  refine gT10 @e0 rfl ?_;intros;refine wr ?_
  refine zAI ?_
  refine zAB ?_
  simp [hv, zC8]
 refine gF10 @e0 rfl ?_;intros;refine wr ?_
 by_cases e2 : zAJ (w / 16777216 % 256) = 2
 ·have hd : decI w = ⟨w / 16777216 % 256, w / 1048576 % 16, w / 65536 % 16, w % 65536, 0⟩ := by simp [decI, e2]
  refine gT11 @e2 rfl (kX2 @e4 @c4) ?_;intros;refine wr ?_
  have hi : -2147483648 ≤ ((⟨w / 16777216 % 256, w / 1048576 % 16, w / 65536 % 16, w % 65536, 0⟩ : InstD)).imm ∧ ((⟨w / 16777216 % 256, w / 1048576 % 16, w / 65536 % 16, w % 65536, 0⟩ : InstD)).imm ≤ 2147483647 := by simp only [sext]; omega
  refine cc (zDK (⟨w / 16777216 % 256, w / 1048576 % 16, w / 65536 % 16, w % 65536, 0⟩ : InstD) hi) ?_
  cases hv : validD (⟨w / 16777216 % 256, w / 1048576 % 16, w / 65536 % 16, w % 65536, 0⟩ : InstD) with
  | false =>
   refine au ?_;intros;refine wr ?_
   refine gT00 rfl ?_;intros;refine wr ?_
   refine zAI ?_
   refine zAB ?_
   simp [hd, hv, zC8]
  | true =>
   refine au ?_;intros;refine wr ?_
   refine gF00 rfl ?_;intros;refine wr ?_
   refine zAI ?_
   refine zAB ?_
   simp [hd, hv, zC8]
 refine gF10 @e2 rfl ?_;intros;refine wr ?_
 by_cases e3 : zAJ (w / 16777216 % 256) = 3
 ·have hd : decI w = ⟨w / 16777216 % 256, w / 1048576 % 16, w / 65536 % 16, 0, sext (w % 65536)⟩ := by simp [decI, e3]
  refine gT10 @e3 rfl ?_;intros;refine wr ?_
  refine gT11 @e3 rfl (kX3 @e4 @c6 @c7) ?_;intros;refine wr ?_
  have hi : -2147483648 ≤ ((⟨w / 16777216 % 256, w / 1048576 % 16, w / 65536 % 16, 0, sext (w % 65536)⟩ : InstD)).imm ∧ ((⟨w / 16777216 % 256, w / 1048576 % 16, w / 65536 % 16, 0, sext (w % 65536)⟩ : InstD)).imm ≤ 2147483647 := by simp only [sext]; omega
  refine cc (zDK (⟨w / 16777216 % 256, w / 1048576 % 16, w / 65536 % 16, 0, sext (w % 65536)⟩ : InstD) hi) ?_
  cases hv : validD (⟨w / 16777216 % 256, w / 1048576 % 16, w / 65536 % 16, 0, sext (w % 65536)⟩ : InstD) with
  | false =>
   refine au ?_;intros;refine wr ?_
   refine gT00 rfl ?_;intros;refine wr ?_
   refine zAI ?_
   refine zAB ?_
   simp [hd, hv, zC8]
  | true =>
   refine au ?_;intros;refine wr ?_
   refine gF00 rfl ?_;intros;refine wr ?_
   refine zAI ?_
   refine zAB ?_
   simp [hd, hv, zC8]
 refine gF10 @e3 rfl ?_;intros;refine wr ?_
 by_cases e7 : zAJ (w / 16777216 % 256) = 7
 ·have hd : decI w = ⟨w / 16777216 % 256, w / 1048576 % 16, w / 65536 % 16, 0, sext (w % 65536)⟩ := by simp [decI, e7]
  refine gT11 @e7 rfl (kX3 @e4 @c6 @c7) ?_;intros;refine wr ?_
  have hi : -2147483648 ≤ ((⟨w / 16777216 % 256, w / 1048576 % 16, w / 65536 % 16, 0, sext (w % 65536)⟩ : InstD)).imm ∧ ((⟨w / 16777216 % 256, w / 1048576 % 16, w / 65536 % 16, 0, sext (w % 65536)⟩ : InstD)).imm ≤ 2147483647 := by simp only [sext]; omega
  refine cc (zDK (⟨w / 16777216 % 256, w / 1048576 % 16, w / 65536 % 16, 0, sext (w % 65536)⟩ : InstD) hi) ?_
  cases hv : validD (⟨w / 16777216 % 256, w / 1048576 % 16, w / 65536 % 16, 0, sext (w % 65536)⟩ : InstD) with
  | false =>
   refine au ?_;intros;refine wr ?_
   refine gT00 rfl ?_;intros;refine wr ?_
   refine zAI ?_
   refine zAB ?_
   simp [hd, hv, zC8]
  | true =>
   refine au ?_;intros;refine wr ?_
   refine gF00 rfl ?_;intros;refine wr ?_
   refine zAI ?_
   refine zAB ?_
   simp [hd, hv, zC8]
 refine cF1 @e7 rfl ?_
 have hd : decI w = ⟨w / 16777216 % 256, w / 1048576 % 16, w / 65536 % 16, 0, w % 65536⟩ := by simp [decI, e2, e3, e7]
 refine au1 (kX2 @e4 @c5) ?_;intros;refine wr ?_
 have hi : -2147483648 ≤ ((⟨w / 16777216 % 256, w / 1048576 % 16, w / 65536 % 16, 0, w % 65536⟩ : InstD)).imm ∧ ((⟨w / 16777216 % 256, w / 1048576 % 16, w / 65536 % 16, 0, w % 65536⟩ : InstD)).imm ≤ 2147483647 := by simp only [sext]; omega
 refine cc (zDK (⟨w / 16777216 % 256, w / 1048576 % 16, w / 65536 % 16, 0, w % 65536⟩ : InstD) hi) ?_
 cases hv : validD (⟨w / 16777216 % 256, w / 1048576 % 16, w / 65536 % 16, 0, w % 65536⟩ : InstD) with
 | false =>
  refine au ?_;intros;refine wr ?_
  refine gT00 rfl ?_;intros;refine wr ?_
  refine zAI ?_
  refine zAB ?_
  simp [hd, hv, zC8]
 | true =>
  refine au ?_;intros;refine wr ?_
  refine gF00 rfl ?_;intros;refine wr ?_
  refine zAI ?_
  refine zAB ?_
  simp [hd, hv, zC8]
abbrev memO (l : List Int) : Ob := ⟨25, 1, false, false, ints .u32 l⟩
theorem zHQ {nx : Nat} {ob : List (Nat × Option Ob)} (j : Nat) (l : List Int) (a v : Int) (ha : W32 a) (hj : lookO ob j = some (memO l)) (hi : (a / 4).toNat < l.length) :
  InlC Tryz.prog 251 [.own j, uv a, iv 4, uv v] nx ob fun r nx' ob' => r = .tup [] ∧ nx' = nx ∧ ob' = (j, some (memO (zCL l a 4 v))) :: ob := by
 have e1 := zN4 ha
 have e3 := zAP .u32 l
 have e7 : (0 : Int) ≤ a / 4 := by have := ha.1; omega
 have e8 : a / 4 < (l.length : Int) := by omega
 refine InlC.of Tryz.func251 rfl (by kernel_rfl) rfl ?_
 simp only [Tryz.ntmps251, St.startI, argT]
 refine au1 (kX2 @hj @e1) ?_;intros;refine wr ?_
 refine cT0 rfl ?_
 have e2 := zB7 (k := .u32) (zGC hi)
 have g2 : ∀ h, (ints .u32 l)[(a / 4).toNat]'h = [uv (wAt l (a / 4))] := fun h => by rw [List.getElem?_eq_getElem h] at e2; simpa using e2
 refine au1 (kX6 @hj @e1 @e3 @e2 @g2 @ints_set) ?_;intros;refine wr ?_
 refine zAB ?_
 simp [zCL, ints_set]
def zE6 (nx : Nat) (ob : List (Nat × Option Ob)) (j : Nat) (l : List Int) (nx' : Nat) (ob' : List (Nat × Option Ob)) : Prop :=
 nx ≤ nx' ∧ lookO ob' j = some (memO l) ∧ ∀ i, i < nx → i ≠ j → lookO ob' i = lookO ob i
theorem zES {nx : Nat} {ob : List (Nat × Option Ob)} (j : Nat) (l : List Int) (hj : lookO ob j = some (memO l)) :
  InlC Tryz.prog 124 [.own j] nx ob fun r nx' ob' => r = iv (pagesD l) ∧ nx' = nx ∧ ob' = ob := by
 have e3 := zAP .u32 l
 refine InlC.of Tryz.func124 rfl (by kernel_rfl) rfl ?_
 simp only [Tryz.ntmps124, St.startI, argT]
 refine au1 (kX2 @hj @e3) ?_;intros;refine wr ?_
 exact wx1 trivial trivial (kX3 @hj @e3 @pagesD.eq_1)
theorem zCz {nx : Nat} {ob : List (Nat × Option Ob)} (j : Nat) (l : List Int) (a s : Int) (hj : lookO ob j = some (memO l)) (hs : s = 1 ∨ s = 4) (ha : W32 a) :
  InlC Tryz.prog 184 [.own j, uv a, iv s] nx ob fun r nx' ob' => r = .bool (zAU l a s) ∧ nx' = nx ∧ ob' = ob := by
 have hpg := zAf l
 have e1 : IntKind.i64.wrap (128 * pagesD l) = 128 * pagesD l := zAC (by omega) (by omega)
 have e2 : IntKind.u32.wrap (128 * pagesD l) = 128 * pagesD l := u32_in (by omega) (by omega)
 have e5 := zIX ha.1
 rcases hs with rfl | rfl
 ·have e6 : zAU l a 1 = decide (a < 128 * pagesD l) := by
   have : (a + 1 ≤ pagesD l * 128) = (a < 128 * pagesD l) := by apply propext; omega
   unfold zAU; simp [this]
  refine InlC.of Tryz.func184 rfl (by kernel_rfl) rfl ?_
  simp only [Tryz.ntmps184, St.startI, argT]
  refine au ?_;intros;refine wr ?_
  refine gF01 rfl (kX3 @e5 @u32c @u64c) ?_;intros;refine wr ?_
  first | refine .inr ((zES j l hj).mono fun r nx' ob' hp => ?_) | refine (zES j l hj).mono fun r nx' ob' hp => ?_ | refine ((zES j l hj).mono fun r nx' ob' hp => ?_).2
  simp only [aftI]
  obtain ⟨rfl, rfl, rfl⟩ := hp
  simp [e1, e2]
  refine au ?_;intros;refine wr ?_
  refine zAB ?_
  simp [e6]
 ·by_cases h4 : a % 4 = 0
  ·have e6 : zAU l a 4 = decide (a < 128 * pagesD l) := by
    unfold zAU
    have : (a + 4 ≤ pagesD l * 128) = (a < 128 * pagesD l) := by apply propext; omega
    simp [h4, this]
   refine InlC.of Tryz.func184 rfl (by kernel_rfl) rfl ?_
   simp only [Tryz.ntmps184, St.startI, argT]
   refine au ?_;intros;refine wr ?_
   refine gF01 rfl (kX4 @e5 @h4 @u32c @u64c) ?_;intros;refine wr ?_
   first | refine .inr ((zES j l hj).mono fun r nx' ob' hp => ?_) | refine (zES j l hj).mono fun r nx' ob' hp => ?_ | refine ((zES j l hj).mono fun r nx' ob' hp => ?_).2
   simp only [aftI]
   obtain ⟨rfl, rfl, rfl⟩ := hp
   simp [e1, e2]
   refine au ?_;intros;refine wr ?_
   refine zAB ?_
   simp [e6]
  ·have e6 : zAU l a 4 = false := by
    unfold zAU
    simp [h4]
   have hb : (a % 4 == 0) = false := by simp [h4]
   refine InlC.of Tryz.func184 rfl (by kernel_rfl) rfl ?_
   simp only [Tryz.ntmps184, St.startI, argT]
   refine au ?_;intros;refine wr ?_
   refine gF01 rfl (kX4 @e5 @hb @u32c @u64c) ?_;intros;refine wr ?_
   refine zAB ?_
   simp [e6]
theorem zOS {nx : Nat} {ob : List (Nat × Option Ob)} (j : Nat) (l : List Int) (a s : Int) (hj : lookO ob j = some (memO l)) (hs : s = 1 ∨ s = 4) (ha : W32 a) :
  InlC Tryz.prog 137 [.own j, uv a, iv s] nx ob fun r nx' ob' => r = .tup [uv (if zAU l a s = true then zBl l a s else 0), .bool (zAU l a s)] ∧ nx' = nx ∧ ob' = ob := by
 have hW : InlC Tryz.prog 184 [.own j, uv a, iv s] nx ob fun r nx' ob' => r = .bool (zAU l a s) ∧ nx' = nx ∧ ob' = ob := zCz j l a s hj hs ha
 cases hw : zAU l a s with
 | false =>
  rw [hw] at hW
  refine InlC.of Tryz.func137 rfl (by kernel_rfl) rfl ?_
  simp only [Tryz.ntmps137, St.startI, argT]
  refine au ?_;intros;refine wr ?_
  first | refine .inr ((hW).mono fun r nx' ob' hp => ?_) | refine (hW).mono fun r nx' ob' hp => ?_ | refine ((hW).mono fun r nx' ob' hp => ?_).2
  simp only [aftI]
  obtain ⟨rfl, rfl, rfl⟩ := hp
  simp
  refine au ?_;intros;refine wr ?_
  refine gT00 rfl ?_;intros;refine wr ?_
  refine zAB ?_
  simp
 | true =>
  rw [hw] at hW
  have hi := zCF hw ha.1
  have e1 := zN4 ha
  obtain ⟨w, hw'⟩ : ∃ w, w = wAt l (a / 4) := ⟨_, rfl⟩
  have e2 := zB7 (k := .u32) (zGC hi)
  rw [← hw'] at e2
  have g2 : ∀ h, (ints .u32 l)[(a / 4).toNat]'h = [uv w] := fun h => by rw [List.getElem?_eq_getElem h] at e2; simpa using e2
  have hw2 := hw'.symm
  have e3 := zAP .u32 l
  have e4 := zIX ha.1
  have e5 : IntKind.u32.wrap (8 * (a % 4)) = 8 * (a % 4) := u32_in (by omega) (by omega)
  have e6 : w.fdiv (2 ^ min (8 * (a % 4)).toNat 32) = w / 2 ^ (8 * (a % 4)).toNat := by
   rw [Nat.min_eq_left (by omega), Int.fdiv_eq_ediv_of_nonneg _ (Int.le_of_lt (Int.pow_pos (by decide)))]
  have e7 : (0 : Int) ≤ a / 4 := by have := ha.1; omega
  have e8 : a / 4 < (l.length : Int) := by omega
  have e9 : w / 2 ^ (8 * (a % 4)).toNat % 256 = byteAt w (a % 4) := rfl
  rcases hs with rfl | rfl
  ·refine InlC.of Tryz.func137 rfl (by kernel_rfl) rfl ?_
   simp only [Tryz.ntmps137, St.startI, argT]
   refine au ?_;intros;refine wr ?_
   first | refine .inr ((hW).mono fun r nx' ob' hp => ?_) | refine (hW).mono fun r nx' ob' hp => ?_ | refine ((hW).mono fun r nx' ob' hp => ?_).2
   simp only [aftI]
   obtain ⟨rfl, rfl, rfl⟩ := hp
   simp
   refine au ?_;intros;refine wr ?_
   refine gF01 rfl (kX5 @hj @e1 @e2 @e3 @g2) ?_;intros;refine wr ?_
   refine gT01 rfl (kX5 @e4 @e5 @e6 @e9 @zBr) ?_;intros;refine wr ?_
   refine zAB ?_
   simp [zBl, hw2]
  ·refine InlC.of Tryz.func137 rfl (by kernel_rfl) rfl ?_
   simp only [Tryz.ntmps137, St.startI, argT]
   refine au ?_;intros;refine wr ?_
   first | refine .inr ((hW).mono fun r nx' ob' hp => ?_) | refine (hW).mono fun r nx' ob' hp => ?_ | refine ((hW).mono fun r nx' ob' hp => ?_).2
   simp only [aftI]
   obtain ⟨rfl, rfl, rfl⟩ := hp
   simp
   refine au ?_;intros;refine wr ?_
   refine gF01 rfl (kX5 @hj @e1 @e2 @e3 @g2) ?_;intros;refine wr ?_
   refine gF00 rfl ?_;intros;refine wr ?_
   refine zAB ?_
   simp [zBl, hw2]
theorem zIY {nx : Nat} {ob : List (Nat × Option Ob)} (j : Nat) (c : CpuD) (l : List Int) (va acc : Int) (hC : OkC c) (hv : W32 va) (ha : acc = 1 ∨ acc = 3) (hp0 : zC1 c = false) (hj : lookO ob j = some (memO l)) (hjn : j < nx) :
  InlC Tryz.prog 185 [.st c.row, .own j, uv va, iv 4, iv acc] nx ob fun r nx' ob' => r = .tup [uv (zAG c l va 4 acc).1, iv (zAG c l va 4 acc).2.2] ∧ zE6 nx ob j (zAG c l va 4 acc).2.1 nx' ob' := by
 have n1 : ¬ j = nx := by omega
 have n2 : ¬ nx = j := by omega
 have hc : zAD Tryz.prog 261 [iv acc] (iv (acc + 3)) := by
  have := zOV acc
  rcases ha with rfl | rfl <;> simpa using this
 have hk : zAD Tryz.prog 259 [iv acc] (.bool true) := by
  have := zOL acc
  rcases ha with rfl | rfl <;> simpa using this
 have hpa := zNf c hC
 have e4 := zIX hv.1
 by_cases hm : va % 4 = 0
 ·rw [hp0] at hpa
  cases hwi : zAU l va 4 with
  | true =>
   have hE : zAG c l va 4 acc = (va, l, 0) := by unfold zAG; rw [if_neg (by omega), if_neg (by simp [hp0]), if_pos hwi]
   rw [hE]
   refine InlC.of Tryz.func185 rfl (by kernel_rfl) rfl ?_
   simp only [Tryz.ntmps185, St.startI, argT]
   refine au ?_;intros;refine wr ?_
   refine cX (hk) ?_;intros;refine wr ?_
   refine gF01 rfl (kX3 @u32c @e4 @hm) ?_;intros;refine wr ?_
   refine gF10 @hm rfl ?_;intros;refine wr ?_
   refine cX (hpa) ?_;intros;refine wr ?_
   refine gT00 rfl ?_;intros;refine wr ?_
   first | refine .inr ((zCz j l va 4 (by simp [lookO, n1, hj]) (by omega) hv).mono fun r nx' ob' hp => ?_) | refine (zCz j l va 4 (by simp [lookO, n1, hj]) (by omega) hv).mono fun r nx' ob' hp => ?_ | refine ((zCz j l va 4 (by simp [lookO, n1, hj]) (by omega) hv).mono fun r nx' ob' hp => ?_).2
   simp only [aftI]
   obtain ⟨rfl, rfl, rfl⟩ := hp
   simp [hwi]
   refine au ?_;intros;refine wr ?_
   refine gF00 rfl ?_;intros;refine wr ?_
   refine zAB ?_
   simp [zE6, lookO, n1, hj]
   refine ⟨by omega, fun i h1 h2 => ?_⟩
   first | (intro h3; omega) | (have r1 : ¬ i = nx := by omega; simp [r1])
  | false =>
   have hE : zAG c l va 4 acc = (0, l, acc + 3) := by unfold zAG; rw [if_neg (by omega), if_neg (by simp [hp0]), if_neg (by simp [hwi])]
   rw [hE]
   refine InlC.of Tryz.func185 rfl (by kernel_rfl) rfl ?_
   simp only [Tryz.ntmps185, St.startI, argT]
   refine au ?_;intros;refine wr ?_
   refine cX (hk) ?_;intros;refine wr ?_
   refine gF01 rfl (kX3 @u32c @e4 @hm) ?_;intros;refine wr ?_
   refine gF10 @hm rfl ?_;intros;refine wr ?_
   refine cX (hpa) ?_;intros;refine wr ?_
   refine gT00 rfl ?_;intros;refine wr ?_
   first | refine .inr ((zCz j l va 4 (by simp [lookO, n1, hj]) (by omega) hv).mono fun r nx' ob' hp => ?_) | refine (zCz j l va 4 (by simp [lookO, n1, hj]) (by omega) hv).mono fun r nx' ob' hp => ?_ | refine ((zCz j l va 4 (by simp [lookO, n1, hj]) (by omega) hv).mono fun r nx' ob' hp => ?_).2
   simp only [aftI]
   obtain ⟨rfl, rfl, rfl⟩ := hp
   simp [hwi]
   refine au ?_;intros;refine wr ?_
   refine gT00 rfl ?_;intros;refine wr ?_
   refine cX (hc) ?_;intros;refine wr ?_
   refine zAB ?_
   simp [zE6, lookO, n1, hj]
   refine ⟨by omega, fun i h1 h2 => ?_⟩
   first | (intro h3; omega) | (have r1 : ¬ i = nx := by omega; simp [r1])
 ·have hE : zAG c l va 4 acc = (0, l, 3) := by unfold zAG; rw [if_pos hm]
  rw [hE]
  refine InlC.of Tryz.func185 rfl (by kernel_rfl) rfl ?_
  simp only [Tryz.ntmps185, St.startI, argT]
  refine au ?_;intros;refine wr ?_
  refine cX (hk) ?_;intros;refine wr ?_
  refine gF01 rfl (kX2 @u32c @e4) ?_;intros;refine wr ?_
  refine gT10 @hm rfl ?_;intros;refine wr ?_
  refine zAB ?_
  simp [zE6, lookO, n1, hj]
  refine ⟨by omega, fun i h1 h2 => ?_⟩
  first | (intro h3; omega) | (have r1 : ¬ i = nx := by omega; simp [r1])
theorem zHa {C D E G : Prop} (c : C) (d : D) (e : E) (t : C → D → E → G := by intro c d e; (refine af1 e ?_; (repeat intro K hK); refine wr ?_); repeat' ((first | (refine zAA rfl (fun h => ?_) (fun h => ?_) <;> (first | (simp [e] at h; done) | (simp [e] at h) | skip) <;> (first | (exfalso; omega) | skip)) | ((first | refine .inl ⟨1, _, d.1, ?_⟩ | refine ⟨1, _, d.1, ?_⟩); simp [aftC, aftE, noX, noXc, noX1, e]; first | refine And.intro zAL ?_ | skip) | ((first | refine .inl ⟨1, _, d.2.1, ?_⟩ | refine ⟨1, _, d.2.1, ?_⟩); simp [aftC, aftE, noX, noXc, noX1, e]; first | refine And.intro zAL ?_ | skip) | refine cc1 c.1 e ?_ | refine cc1 c.2.1 e ?_ | refine cc1 c.2.2.1 e ?_ | refine cc1 c.2.2.2.1 e ?_ | refine cc1 c.2.2.2.2.1 e ?_ | refine cc1 c.2.2.2.2.2.1 e ?_ | (refine zAE (rid := 4) ([0, 1, 2, 3, 4] : List Nat) ([[], [0], [], [0, 1], [0, 1, 2, 3]] : List (List Nat)) ([(4, ([[], [0], [], [0, 1]], [(2, 1), (2, 3)])), (1, ([], []))] : List (Nat × List (List Nat) × List (Nat × Nat))) (by kernel_rfl) (by kernel_rfl) (by kernel_rfl) ?_) | (refine zAE (rid := 6) ([0, 1, 2, 3, 4] : List Nat) ([[], [0], [], [0, 1], [0, 1, 2, 3]] : List (List Nat)) ([(4, ([[], [0], [], [0, 1]], [(2, 1), (2, 3)])), (1, ([], []))] : List (Nat × List (List Nat) × List (Nat × Nat))) (by kernel_rfl) (by kernel_rfl) (by kernel_rfl) ?_) | (refine zAE (rid := 8) ([0, 1, 2, 3, 4, 5, 6, 7, 8, 9] : List Nat) ([[], [], [1], [], [3], [], [3, 4, 5], [3, 4, 5, 6], [0, 1, 2, 3, 4, 5, 6, 7], [0, 1, 2, 3, 4, 5, 6, 7, 8]] : List (List Nat)) ([(8, ([[], [], [1], [], [3], [], [3, 4, 5], [3, 4, 5, 6]], [])), (1, ([], [])), (1, ([], []))] : List (Nat × List (List Nat) × List (Nat × Nat))) (by kernel_rfl) (by kernel_rfl) (by kernel_rfl) ?_) | (refine zAE (rid := 10) ([0, 1, 2, 3, 4, 5, 6, 7, 8, 9, 10] : List Nat) ([[], [], [1], [1, 2], [], [4], [], [4, 5, 6], [4, 5, 6, 7], [0, 1, 2, 3, 4, 5, 6, 7, 8], [0, 1, 2, 3, 4, 5, 6, 7, 8, 9]] : List (List Nat)) ([(9, ([[], [], [1], [1, 2], [], [4], [], [4, 5, 6], [4, 5, 6, 7]], [])), (1, ([], [])), (1, ([], []))] : List (Nat × List (List Nat) × List (Nat × Nat))) (by kernel_rfl) (by kernel_rfl) (by kernel_rfl) ?_) | (refine zAE (rid := 14) ([0, 1, 2, 3, 4, 5, 6, 7, 8, 9] : List Nat) ([[], [0], [0, 1], [], [3], [], [3, 4, 5], [3, 4, 5, 6], [0, 1, 2, 3, 4, 5, 6, 7], [0, 1, 2, 3, 4, 5, 6, 7, 8]] : List (List Nat)) ([(8, ([[], [0], [0, 1], [], [3], [], [3, 4, 5], [3, 4, 5, 6]], [])), (1, ([], [])), (1, ([], []))] : List (Nat × List (List Nat) × List (Nat × Nat))) (by kernel_rfl) (by kernel_rfl) (by kernel_rfl) ?_) | (refine zAE (rid := 22) ([0, 1, 2, 3] : List Nat) ([[], [], [0], [0, 1, 2]] : List (List Nat)) ([(3, ([[], [], [0]], [(1, 2)])), (1, ([], []))] : List (Nat × List (List Nat) × List (Nat × Nat))) (by kernel_rfl) (by kernel_rfl) (by kernel_rfl) ?_) | exact rt1 e | fail) <;> (refine af1 e ?_; (repeat intro K hK); refine wr ?_))) : G := t c d e
theorem zKY {C D E G : Prop} (c : C) (d : D) (e : E) (t : C → D → E → G := by intro c d e; (refine af1 e ?_; (repeat intro K hK); refine wr ?_); repeat' ((first | (refine zAA rfl (fun h => ?_) (fun h => ?_) <;> (first | (simp [e] at h; done) | (simp [e] at h) | skip) <;> (first | (exfalso; omega) | skip)) | ((first | refine .inl ⟨1, _, d.1, ?_⟩ | refine ⟨1, _, d.1, ?_⟩); simp [aftC, aftE, noX, noXc, noX1, e]; first | refine And.intro zAL ?_ | skip) | ((first | refine .inl ⟨1, _, d.2.1, ?_⟩ | refine ⟨1, _, d.2.1, ?_⟩); simp [aftC, aftE, noX, noXc, noX1, e]; first | refine And.intro zAL ?_ | skip) | refine cc1 c.1 e ?_ | refine cc1 c.2.1 e ?_ | refine cc1 c.2.2.1 e ?_ | refine cc1 c.2.2.2.1 e ?_ | refine cc1 c.2.2.2.2.1 e ?_ | refine cc1 c.2.2.2.2.2.1 e ?_ | (refine zAE (rid := 11) ([0, 1, 2, 3, 4, 5, 6, 7, 8, 9] : List Nat) ([[], [0], [], [0, 1, 2], [0, 1, 2, 3], [], [5], [5, 6], [0, 1, 2, 3, 4, 5, 6, 7], [0, 1, 2, 3, 4, 5, 6, 7, 8]] : List (List Nat)) ([(8, ([[], [0], [], [0, 1, 2], [0, 1, 2, 3], [], [5], [5, 6]], [])), (1, ([], [])), (1, ([], []))] : List (Nat × List (List Nat) × List (Nat × Nat))) (by kernel_rfl) (by kernel_rfl) (by kernel_rfl) ?_) | (refine zAE (rid := 3) ([0, 1, 2, 3, 4, 5, 6, 7, 8, 9, 10, 11, 12] : List Nat) ([[], [0], [], [2], [], [2, 3, 4], [2, 3, 4, 5], [], [7], [], [7, 8, 9], [7, 8, 9, 10], [0, 1, 2, 3, 4, 5, 6, 7, 8, 9, 10, 11]] : List (List Nat)) ([(12, ([[], [0], [], [2], [], [2, 3, 4], [2, 3, 4, 5], [], [7], [], [7, 8, 9], [7, 8, 9, 10]], [])), (1, ([], []))] : List (Nat × List (List Nat) × List (Nat × Nat))) (by kernel_rfl) (by kernel_rfl) (by kernel_rfl) ?_) | exact rt1 e | fail) <;> (refine af1 e ?_; (repeat intro K hK); refine wr ?_))) : G := t c d e
abbrev SyOk (c : CpuD) (i : InstD) : Prop := zAD Tryz.prog 187 [.st c.row, .st i.row] (.tup [.st (zAH c i).1.row, .st (zAH c i).2.row])
abbrev JuOk (c : CpuD) (i : InstD) : Prop := zAD Tryz.prog 188 [.st c.row, .st i.row] (.st (zAH c i).1.row)
theorem zSx (c : CpuD) (i : InstD) (hc : OkC c) (hi : OkI i) (hop : i.op = 57) : SyOk c i := by
 obtain ⟨a0, a1, b0, b1, c0, c1⟩ := hi
 have g := zAW c b0 b1
 have ga := zAW c a0 a1
 have hE : zAH c i = (retD c, zEff) := by unfold zAH; simp [hop]
 unfold SyOk
 rw [hE]
 refine sZ Tryz.func187 Tryz.ntmps187 ?_
 exact zHa (qX1 (zMO c hc)) trivial (kX6 @g @ga @hop @zAw @CpuD.setP.eq_1 @zEff.eq_1)
theorem zTh (c : CpuD) (i : InstD) (hc : OkC c) (hi : OkI i) (hop : i.op = 59)(k0 : 0 ≤ i.imm) (k1 : i.imm ≤ 7) : SyOk c i := by
 obtain ⟨a0, a1, b0, b1, c0, c1⟩ := hi
 have g := zAW c b0 b1
 have ga := zAW c a0 a1
 have hE : zAH c i = ((zBC c i.imm (c.x i.a.toNat)).setP (uw (c.pc + 4)), zEff) := by unfold zAH; simp [hop]
 unfold SyOk
 rw [hE]
 refine sZ Tryz.func187 Tryz.ntmps187 ?_
 exact zHa (qX1 (zOJ c i.imm (c.x i.a.toNat) k0 k1)) trivial (kX8 @g @ga @hop @zAw @CpuD.setP.eq_1 @zEff.eq_1 @zH5 (zFy k0 k1))
theorem zSX (c : CpuD) (i : InstD) (hc : OkC c) (hi : OkI i) (hop : i.op = 61)(k0 : 0 ≤ i.imm) (k1 : i.imm ≤ 11) : SyOk c i := by
 obtain ⟨a0, a1, b0, b1, c0, c1⟩ := hi
 have g := zAW c b0 b1
 have ga := zAW c a0 a1
 have hE : zAH c i = (c.setP (uw (c.pc + 4)), ⟨2, i.imm, 0, c.x i.a.toNat⟩) := by unfold zAH; simp [hop]
 unfold SyOk
 rw [hE]
 refine sZ Tryz.func187 Tryz.ntmps187 ?_
 exact zHa trivial trivial (kX7 @g @ga @hop @zAw @CpuD.setP.eq_1 @zEff.eq_1 (zFy k0 k1))
theorem zRS (c : CpuD) (i : InstD) (hc : OkC c) (hi : OkI i) (hh : i.op = 40 ∨ i.op = 41 ∨ i.op = 42 ∨ i.op = 43 ∨ i.op = 44 ∨ i.op = 45) : JuOk c i := by
 obtain ⟨a0, a1, b0, b1, c0, c1⟩ := hi
 have g := zAW c b0 b1
 have ga := zAW c a0 a1
 have hE : zAH c i = (c.setP (if zD9 i.op (c.x i.a.toNat) (c.x i.b.toNat) = true then uw (c.pc + uw (4 * uw i.imm)) else uw (c.pc + 4)), zEff) := by unfold zAH; rw [if_neg (by omega), if_pos (by omega)]
 have ht := zOx i.op (c.x i.a.toNat) (c.x i.b.toNat)
 have d1 : ¬ i.op = 48 := by omega
 have d2 : ¬ i.op = 49 := by omega
 unfold JuOk
 rw [hE]
 generalize zD9 i.op (c.x i.a.toNat) (c.x i.b.toNat) = t at *
 cases t
 ·refine sZ Tryz.func188 Tryz.ntmps188 ?_
  exact zKY (qX1 (ht)) trivial (kX6 @g @ga @d1 @d2 @CpuD.setP.eq_1 @zEff.eq_1)
 ·refine sZ Tryz.func188 Tryz.ntmps188 ?_
  exact zKY (qX1 (ht)) trivial (kX6 @g @ga @d1 @d2 @CpuD.setP.eq_1 @zEff.eq_1)
@[simp] theorem nn1 (n : Nat) : (n = n + 1) = False := by simp
@[simp] theorem nn2 (n : Nat) : (n + 1 = n) = False := by simp
@[simp] theorem nn3 (n : Nat) : (n = n + 1 + 1) = False := by apply eq_false; omega
@[simp] theorem nn4 (n : Nat) : (n + 1 + 1 = n) = False := by apply eq_false; omega
@[simp] theorem nn5 (n : Nat) : (n = n + 1 + 1 + 1) = False := by apply eq_false; omega
@[simp] theorem nn6 (n : Nat) : (n + 1 + 1 + 1 = n) = False := by apply eq_false; omega
theorem zKr {nx : Nat} {ob : List (Nat × Option Ob)} (j : Nat) (c : CpuD) (l : List Int) (i : InstD) (hc : OkC c) (hl : OkW l) (hi : OkI i) (hop : i.op = 35) (hp0 : zC1 c = false) (hj : lookO ob j = some (memO l)) (hjn : j < nx) :
  InlC Tryz.prog 189 [.st c.row, .own j, .st i.row] nx ob fun r nx' ob' => r = .st (zAS c l i).1.row ∧ zE6 nx ob j (zAS c l i).2 nx' ob' := by
 obtain ⟨a0, a1, b0, b1, c0, c1⟩ := hi
 have g := zAW c b0 b1
 have ga := zAW c a0 a1
 obtain ⟨va, hva⟩ : ∃ va, va = uw (c.x i.b.toNat + uw i.imm) := ⟨_, rfl⟩
 have hv : W32 va := by rw [hva]; exact uw_w _
 have va' : IntKind.u32.wrap (c.x i.b.toNat + IntKind.u32.wrap i.imm) = va := hva.symm
 have n1 : ¬ j = nx := by omega
 have n2 : ¬ j = nx + 1 := by omega
 have n3 : ¬ j = nx + 1 + 1 := by omega
 have o1 : ¬ nx = j := by omega
 have o2 : ¬ nx + 1 = j := by omega
 have o3 : ¬ nx + 1 + 1 = j := by omega
 obtain ⟨R, hR⟩ : ∃ R, R = zAG c l va 4 3 := ⟨_, rfl⟩
 have hin := zCj (c := c) (l := l) (va := va) (s := 4) (acc := 3) (by omega) (by decide) hc hv
 have hn := zBE c l va 4 3
 have hw := zBy (c := c) (va := va) (s := 4) (acc := 3) hl
 have hE : zAS c l i = (if R.2.2 ≠ 0 then (zA8 c R.2.2 va, R.2.1) else (c.setP (uw (c.pc + 4)), zCL R.2.1 R.1 4 (c.x i.a.toNat))) := by
  rw [hR, hva]; simp only [zAS, zAY, hop]; rfl
 have hr : ∀ {nx : Nat} {ob : List (Nat × Option Ob)}, lookO ob j = some (memO l) → j < nx → InlC Tryz.prog 185 [.st c.row, .own j, uv va, iv 4, iv 3] nx ob fun r nx' ob' => r = .tup [uv R.1, iv R.2.2] ∧ zE6 nx ob j R.2.1 nx' ob' := fun h1 h2 => by
  rw [hR]; exact zIY j c l va 3 hc hv (by omega) hp0 h1 h2
 rw [← hR] at hin hn hw
 obtain ⟨a, m, k⟩ := R
 simp only at hin hn hw hr hE
 refine InlC.of Tryz.func189 rfl (by kernel_rfl) rfl ?_
 simp only [Tryz.ntmps189, St.startI, argT]
 refine au1 (kX2 @g @hop) ?_;intros;refine wr ?_
 refine zAE ([0, 1, 2, 3, 4, 5, 6, 7, 8, 9] : List Nat) ([[], [0], [], [0, 1, 2], [0, 1, 2, 3], [], [5], [5, 6], [0, 1, 2, 3, 4, 5, 6, 7], [0, 1, 2, 3, 4, 5, 6, 7, 8]] : List (List Nat)) ([(8, ([[], [0], [], [0, 1, 2], [0, 1, 2, 3], [], [5], [5, 6]], [])), (1, ([], [])), (1, ([], []))] : List (Nat × List (List Nat) × List (Nat × Nat))) (by kernel_rfl) (by kernel_rfl) (by kernel_rfl) ?_
 refine af1 (kX3 @g @hop @va') ?_;intros;refine wr ?_
 refine af1 (kX3 @g @hop @va') ?_;intros;refine wr ?_
 refine zCt @hop rfl @hop ?_;intros;refine wr ?_
 refine zCt @hop rfl @hop ?_;intros;refine wr ?_
 first | refine .inr ((hr (by simp [lookO, n1, n2, n3, hj]) (by omega)).mono fun r nx' ob' hp => ?_) | refine (hr (by simp [lookO, n1, n2, n3, hj]) (by omega)).mono fun r nx' ob' hp => ?_ | refine ((hr (by simp [lookO, n1, n2, n3, hj]) (by omega)).mono fun r nx' ob' hp => ?_).2
 simp only [aftI]
 obtain ⟨rfl, g1, g2, g3⟩ := hp
 have y1 := g3 nx (by omega) (by omega)
 have y2 := g3 (nx + 1) (by omega) (by omega)
 have y3 := g3 (nx + 1 + 1) (by omega) (by omega)
 simp [lookO] at y1 y2 y3
 simp
 refine af ?_;intros;refine wr ?_
 by_cases hk : k = 0
 ·obtain ⟨i1, i2⟩ := hin hk
  have hx := zCF i1 i2.1
  rw [← hn] at hx
  have i3 : zAU m a 4 = true := by rw [zBf hn]; exact i1
  refine zBY @hk rfl ?_;intros;refine wr ?_
  refine gT01f rfl (kX4 @y1 @y2 @ga @hop) ?_;intros;refine wr ?_
  have e1 : zAS c l i = (c.setP (uw (c.pc + 4)), zCL m a 4 (c.x i.a.toNat)) := by rw [hE, if_neg (by simp [hk])]
  first | refine .inr ((zHQ j m a (c.x i.a.toNat) i2 g2 hx).mono fun r nx' ob' hp => ?_) | refine (zHQ j m a (c.x i.a.toNat) i2 g2 hx).mono fun r nx' ob' hp => ?_ | refine ((zHQ j m a (c.x i.a.toNat) i2 g2 hx).mono fun r nx' ob' hp => ?_).2
  simp only [aftI]
  obtain ⟨rfl, rfl, rfl⟩ := hp
  simp
  refine af1 (kX6 @y1 @y2 @y3 @o1 @o2 @o3) ?_;intros;refine wr ?_
  refine zAB ?_
  simp [CpuD.setP, e1]
  refine ⟨by omega, by simp [lookO, n1, n2, n3, g2], fun i h1 h2 => ?_⟩
  have r1 : ¬ i = nx := by omega
  have r2 : ¬ i = nx + 1 := by omega
  have r3 : ¬ i = nx + 1 + 1 := by omega
  have e := g3 i (by omega) h2
  simp [lookO, r1, r2, r3] at e
  simp [lookO, r1, r2, r3, h2, e]
 ·have e1 : zAS c l i = (zA8 c k va, m) := by rw [hE, if_pos hk]
  refine zCt @hk rfl @y1 ?_;intros;refine wr ?_
  refine cZf (zB3 c k va hc) @y3 @y3 ?_;intros;refine wr ?_
  refine zAB ?_
  simp [e1]
  refine ⟨by omega, by simp [lookO, n1, n2, n3, g2], fun i h1 h2 => ?_⟩
  have r1 : ¬ i = nx := by omega
  have r2 : ¬ i = nx + 1 := by omega
  have r3 : ¬ i = nx + 1 + 1 := by omega
  have e := g3 i (by omega) h2
  simp [lookO, r1, r2, r3] at e
  simp [lookO, r1, r2, r3, h2, e]
theorem zRl (c : CpuD) (i : InstD) (hc : OkC c) (hv : validD i = true) (h : i.op = 57 ∨ i.op = 59 ∨ i.op = 61) : SyOk c i := by
 have hi := zA6 hv
 have hm := zIO hv
 rcases h with h | h | h
 ·exact zSx c i hc hi h
 ·rw [h] at hm; exact zTh c i hc hi h (by have := hm.1; simp [lowD, zAJ] at this; omega) (by have := hm.2; simp [zAb, zAJ] at this; omega)
 ·rw [h] at hm; exact zSX c i hc hi h (by have := hm.1; simp [lowD, zAJ] at this; omega) (by have := hm.2; simp [zAb, zAJ] at this; omega)
theorem zRv (c : CpuD) (i : InstD) (h : i.op < 56) : (zAH c i).2 = zEff := by
 unfold zAH
 by_cases e1 : i.op = 24
 ·rw [if_pos e1]
 rw [if_neg e1]
 by_cases e2 : 40 ≤ i.op ∧ i.op ≤ 45
 ·rw [if_pos e2]
 rw [if_neg e2]
 by_cases e3 : i.op = 48
 ·rw [if_pos e3]
 rw [if_neg e3]
 by_cases e4 : i.op = 49
 ·rw [if_pos e4]
 rw [if_neg e4]
 iterate 9 rw [if_neg (by omega)]
end Go.Proofs.YtjmhjieflbnehaaGreat
end
