/- A part of the proof of ReplicaJoins. -/
import Derived.Test.YtjmhjieflbnehaaGreatP16
import Derived.Test.YtjmhjieflbnehaaGreatP17
set_option linter.unusedSimpArgs false
set_option linter.unusedVariables false
set_option maxHeartbeats 16000000
set_option maxRecDepth 100000
section
namespace Go.Proofs.YtjmhjieflbnehaaGreat
open Go.Ab Go.RowKit
theorem zP7 (a b : Int) (ha : W32 a) (hb : W32 b) : zAD Tryz.prog 303 [iv 20, uv a, uv b] (.tup [uv (uw (a * 2 ^ (b % 32).toNat)), .bool true]) := by
 obtain ⟨e0, e1, e2, e3, e4, e5⟩ := alF a b
 refine sZ Tryz.func303 Tryz.ntmps303 ?_
 exact wx trivial trivial
theorem zSE (a b : Int) (ha : W32 a) (hb : W32 b) : zAD Tryz.prog 303 [iv 7, uv a, uv b] (.tup [uv (a / 2 ^ (b % 32).toNat), .bool true]) := by
 obtain ⟨e0, e1, e2, e3, e4, e5⟩ := alF a b
 refine sZ Tryz.func303 Tryz.ntmps303 ?_
 exact wx trivial trivial
theorem zPI (a b : Int) (ha : W32 a) (hb : W32 b) : zAD Tryz.prog 303 [iv 21, uv a, uv b] (.tup [uv (a / 2 ^ (b % 32).toNat), .bool true]) := by
 obtain ⟨e0, e1, e2, e3, e4, e5⟩ := alF a b
 refine sZ Tryz.func303 Tryz.ntmps303 ?_
 exact wx trivial trivial
theorem zTm (a b : Int) (ha : W32 a) (hb : W32 b) : zAD Tryz.prog 303 [iv 8, uv a, uv b] (.tup [uv (uw (sw a / 2 ^ (b % 32).toNat)), .bool true]) := by
 obtain ⟨e0, e1, e2, e3, e4, e5⟩ := alF a b
 refine sZ Tryz.func303 Tryz.ntmps303 ?_
 exact wx trivial trivial
theorem zPw (a b : Int) (ha : W32 a) (hb : W32 b) : zAD Tryz.prog 303 [iv 22, uv a, uv b] (.tup [uv (uw (sw a / 2 ^ (b % 32).toNat)), .bool true]) := by
 obtain ⟨e0, e1, e2, e3, e4, e5⟩ := alF a b
 refine sZ Tryz.func303 Tryz.ntmps303 ?_
 exact wx trivial trivial
theorem zTS (a b : Int) (ha : W32 a) (hb : W32 b) : zAD Tryz.prog 303 [iv 9, uv a, uv b] (.tup [uv (uw (a * b)), .bool true]) := by
 obtain ⟨e0, e1, e2, e3, e4, e5⟩ := alF a b
 refine sZ Tryz.func303 Tryz.ntmps303 ?_
 exact wx trivial trivial
theorem zPP (a b : Int) (ha : W32 a) (hb : W32 b) : zAD Tryz.prog 303 [iv 10, uv a, uv b] (.tup [uv (divQ a b), .bool true]) := by
 obtain ⟨e0, e1, e2, e3, e4, e5⟩ := alF a b
 refine sZ Tryz.func303 Tryz.ntmps303 ?_
 exact wx (qX1 (zRY a b ha hb)) trivial
theorem zQr (a b : Int) (ha : W32 a) (hb : W32 b) : zAD Tryz.prog 303 [iv 11, uv a, uv b] (.tup [uv (divR a b), .bool true]) := by
 obtain ⟨e0, e1, e2, e3, e4, e5⟩ := alF a b
 refine sZ Tryz.func303 Tryz.ntmps303 ?_
 exact wx (qX1 (zRY a b ha hb)) trivial
theorem zPc (a b : Int) (ha : W32 a) (hb : W32 b) : zAD Tryz.prog 303 [iv 12, uv a, uv b] (.tup [uv (b2w (decide (sw a < sw b))), .bool true]) := by
 obtain ⟨e0, e1, e2, e3, e4, e5⟩ := alF a b
 refine sZ Tryz.func303 Tryz.ntmps303 ?_
 exact wx (qX1 (zHk _)) trivial
theorem zPi (a b : Int) (ha : W32 a) (hb : W32 b) : zAD Tryz.prog 303 [iv 23, uv a, uv b] (.tup [uv (b2w (decide (sw a < sw b))), .bool true]) := by
 obtain ⟨e0, e1, e2, e3, e4, e5⟩ := alF a b
 refine sZ Tryz.func303 Tryz.ntmps303 ?_
 exact wx (qX1 (zHk _)) trivial
theorem zQU (a b : Int) (ha : W32 a) (hb : W32 b) : zAD Tryz.prog 303 [iv 13, uv a, uv b] (.tup [uv (b2w (decide (a < b))), .bool true]) := by
 obtain ⟨e0, e1, e2, e3, e4, e5⟩ := alF a b
 refine sZ Tryz.func303 Tryz.ntmps303 ?_
 exact wx (qX1 (zHk _)) trivial
theorem alu_ok (op a b : Int) (ha : W32 a) (hb : W32 b) (h : (1 ≤ op ∧ op ≤ 13) ∨ (16 ≤ op ∧ op ≤ 23)) : zAD Tryz.prog 303 [iv op, uv a, uv b] (.tup [uv ((aluD op a b).getD 0), .bool true]) := by
 have hk : op = 1 ∨ op = 16 ∨ op = 2 ∨ op = 3 ∨ op = 17 ∨ op = 4 ∨ op = 18 ∨ op = 5 ∨ op = 19 ∨ op = 6 ∨ op = 20 ∨ op = 7 ∨ op = 21 ∨ op = 8 ∨ op = 22 ∨ op = 9 ∨ op = 10 ∨ op = 11 ∨ op = 12 ∨ op = 23 ∨ op = 13 := by omega
 rcases hk with rfl | rfl | rfl | rfl | rfl | rfl | rfl | rfl | rfl | rfl | rfl | rfl | rfl | rfl | rfl | rfl | rfl | rfl | rfl | rfl | rfl
 ·exact zSV a b ha hb
 ·exact zPH a b ha hb
 ·exact zTn a b ha hb
 ·exact zSI a b ha hb
 ·exact zPV a b ha hb
 ·exact zSK a b ha hb
 ·exact zQl a b ha hb
 ·exact zRy a b ha hb
 ·exact zQZ a b ha hb
 ·exact zTB a b ha hb
 ·exact zP7 a b ha hb
 ·exact zSE a b ha hb
 ·exact zPI a b ha hb
 ·exact zTm a b ha hb
 ·exact zPw a b ha hb
 ·exact zTS a b ha hb
 ·exact zPP a b ha hb
 ·exact zQr a b ha hb
 ·exact zPc a b ha hb
 ·exact zPi a b ha hb
 ·exact zQU a b ha hb
end Go.Proofs.YtjmhjieflbnehaaGreat
end
