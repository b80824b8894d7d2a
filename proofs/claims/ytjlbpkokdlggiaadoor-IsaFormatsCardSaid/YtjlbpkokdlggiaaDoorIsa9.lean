/- The laws IsaEncodes, IsaDecodes, IsaBits, IsaUnused: the plain part. -/
import Derived.Test.YtjlbpkokdlggiaaDoorIsa8
namespace Go.Proofs.YtjlbpkokdlggiaaDoor
open Go.Ab
set_option linter.unusedSimpArgs false
set_option maxRecDepth 100000
theorem valid_more {i : InstD} (h : validD i = true) : (formD i.op = 2 → i.imm = 0) ∧ (formD i.op ≠ 2 → i.c = 0) ∧ ((formD i.op = 3 ∨ formD i.op = 7) → -32768 ≤ i.imm ∧ i.imm ≤ 32767) ∧ (¬ (formD i.op = 3 ∨ formD i.op = 7) → 0 ≤ i.imm ∧ i.imm ≤ 65535) := by
  rcases formD_cases i.op with q | q | q | q | q | q | q | q | q | q <;> simp [validD, regB, uA, uB, uC, lowD, highD, q] at h ⊢ <;> omega
theorem dec_enc {i : InstD} (h : validD i = true) : decI (encW i) = i := by
  obtain ⟨f1, f2, f3, f4, f5, f6⟩ := valid_facts h
  obtain ⟨m1, m2, m3, m4⟩ := valid_more h
  have e1 : encW i / 16777216 % 256 = i.op := by unfold encW; omega
  have e2 : encW i / 1048576 % 16 = i.a := by unfold encW; omega
  have e3 : encW i / 65536 % 16 = i.b := by unfold encW; omega
  have e4 : encW i % 65536 = (i.c + i.imm) % 65536 := by unfold encW; omega
  unfold decI
  rw [e1, e2, e3, e4]
  obtain ⟨op, a, b, c, imm⟩ := i
  simp only [InstD.mk.injEq, true_and] at *
  by_cases g : formD op = 2
  · rw [if_pos g, if_pos g, m1 g]; omega
  · rw [if_neg g, if_neg g, m2 g]
    refine ⟨rfl, ?_⟩
    by_cases g2 : formD op = 3 ∨ formD op = 7
    · have := m3 g2
      rw [if_pos g2]; unfold sext; split <;> omega
    · have := m4 g2
      rw [if_neg g2]; omega
theorem enc_dec {w : Int} (h0 : 0 ≤ w) (h1 : w < 4294967296) : encW (decI w) = w := by
  unfold encW decI sext
  simp only
  split
  · omega
  · split
    · split <;> omega
    · omega
theorem encW_range {i : InstD} (h : validD i = true) : 0 ≤ encW i ∧ encW i < 4294967296 := by
  obtain ⟨f1, f2, f3, f4, f5, f6⟩ := valid_facts h
  unfold encW; omega
theorem imm_range {i : InstD} (h : validD i = true) : -2147483648 ≤ i.imm ∧ i.imm ≤ 2147483647 := by
  obtain ⟨f1, f2, f3, f4, f5, f6⟩ := valid_facts h
  omega
end Go.Proofs.YtjlbpkokdlggiaaDoor
