/- The law IsaUnused, walked. (Numbers of seat r2.D.) -/
import Derived.Test.YtjlbpkokdlggiaaDoorIsb1
namespace Go.Proofs.YtjlbpkokdlggiaaDoor
open Go.Ab
set_option linter.unusedSimpArgs false
set_option maxRecDepth 100000
theorem or_mid (q r c s t : Nat) (hr : r < 2 ^ s) (hc : c * 2 ^ s + r < 2 ^ t) : (q * 2 ^ t + r) ||| (c * 2 ^ s) = q * 2 ^ t + c * 2 ^ s + r := by
  have e1 : q * 2 ^ t = q <<< t := (Nat.shiftLeft_eq q t).symm
  have e2 : c * 2 ^ s = c <<< s := (Nat.shiftLeft_eq c s).symm
  rw [e2] at hc
  rw [e1, e2]
  rw [Nat.shiftLeft_add_eq_or_of_lt (by omega), Nat.or_assoc, Nat.or_comm r, ← Nat.shiftLeft_add_eq_or_of_lt hr, ← Nat.shiftLeft_add_eq_or_of_lt hc, Nat.add_assoc]
theorem or_word (w c : Int) (s t : Nat) (A : Int) (hA : A = ((2 ^ s : Nat) : Int)) (ht : t ≤ 32) (h0 : 0 ≤ w) (h1 : w < 4294967296) (c0 : 0 ≤ c) (c1 : c < 16) (hr : w.toNat % 2 ^ t < 2 ^ s) (hc : c.toNat * 2 ^ s + w.toNat % 2 ^ t < 2 ^ t) :
    IntKind.u32.wrap ((BitVec.ofInt 32 w ||| BitVec.ofInt 32 (IntKind.u32.wrap (IntKind.u32.wrap c * A))).toNat : Int) = w + c * A := by
  obtain ⟨W, rfl⟩ : ∃ W : Nat, w = W := ⟨w.toNat, by omega⟩
  obtain ⟨C, rfl⟩ : ∃ C : Nat, c = C := ⟨c.toNat, by omega⟩
  simp only [Int.toNat_natCast] at hr hc
  have h32 : 2 ^ t ≤ 4294967296 := Nat.pow_le_pow_right (by omega) ht
  rw [hA, u32_nat C (by omega)]
  have e : ((C : Int) * ((2 ^ s : Nat) : Int)) = ((C * 2 ^ s : Nat) : Int) := by push_cast; rfl
  rw [e, u32_nat (C * 2 ^ s) (by omega)]
  have hb : ∀ m : Nat, BitVec.ofInt 32 (m : Int) = BitVec.ofNat 32 m := fun m => by simp
  rw [hb W, hb (C * 2 ^ s), BitVec.toNat_or, BitVec.toNat_ofNat, BitVec.toNat_ofNat, Nat.mod_eq_of_lt (show W < 2 ^ 32 by omega), Nat.mod_eq_of_lt (show C * 2 ^ s < 2 ^ 32 by omega)]
  have hW : W = W / 2 ^ t * 2 ^ t + W % 2 ^ t := by have := Nat.div_add_mod W (2 ^ t); rw [Nat.mul_comm] at this; omega
  have key := or_mid (W / 2 ^ t) (W % 2 ^ t) C s t hr hc
  rw [← hW] at key
  have hsum : W / 2 ^ t * 2 ^ t + C * 2 ^ s + W % 2 ^ t = W + C * 2 ^ s := by omega
  rw [key, hsum]
  have hlt : W ||| C * 2 ^ s < 2 ^ 32 := Nat.or_lt_two_pow (by omega) (by omega)
  rw [key, hsum] at hlt
  rw [u32_nat _ (by omega)]
  push_cast; rfl
theorem dec_bad (w : Int) (h : validD (decI w) = false) : ∃ j : InstD, Meets Tryd.prog 15 [.int .u32 w] (.tup [.st j.row, .bool false]) := by
  have := decode_ok w
  rw [decV, h] at this
  exact ⟨_, this⟩
set_option maxHeartbeats 8000000 in
theorem unused_ok (n c0 : Int) : Meets Tryd.prog 6 [.int .i64 n, .int .i64 c0] (.bool true) := by
  have hin := inst_ok n
  have hv := instA_valid n
  generalize instA n = i at *
  have hr := encW_range hv
  obtain ⟨f1, f2, f3, f4, f5, f6⟩ := valid_facts hv
  obtain ⟨m1, m2, m3, m4⟩ := valid_more hv
  have hc0 := Int.emod_nonneg c0 (show (15 : Int) ≠ 0 by omega)
  have hc1 := Int.emod_lt_of_pos c0 (show (0 : Int) < 15 by omega)
  have wc : IntKind.i64.wrap (1 + c0 % 15) = 1 + c0 % 15 := wrap_i64_in (by omega) (by omega)
  have wd : IntKind.i32.wrap (1 + c0 % 15) = 1 + c0 % 15 := by rw [IntKind.wrap_i32]; omega
  generalize hcc : 1 + c0 % 15 = c at *
  have hc2 : 1 ≤ c ∧ c ≤ 15 := by omega
  refine Meets.of Tryd.func6 rfl (by kernel_rfl) rfl ?_
  simp only [Tryd.ntmps6, St.start, argT]
  repeat (first | (with_reducible refine awp_seqK fun K hK => ?_) | (with_reducible refine awp_block ?_) | (with_reducible refine awp_region (by kernel_rfl) ?_; simp) | (first | (with_reducible refine hK _ ?_; clear hK) | (clear hK; (first | (with_reducible refine hK _ ?_; clear hK) | (clear hK; (first | (with_reducible refine hK _ ?_; clear hK) | (clear hK; (first | (with_reducible refine hK _ ?_; clear hK) | (clear hK; (first | (with_reducible refine hK _ ?_; clear hK) | (clear hK; (first | (with_reducible refine hK _ ?_; clear hK) | (clear hK; (first | (with_reducible refine hK _ ?_; clear hK) | (clear hK; (first | (with_reducible refine hK _ ?_; clear hK) | (clear hK; (first | (with_reducible refine hK _ ?_; clear hK) | (clear hK; (first | (with_reducible refine hK _ ?_; clear hK) | (clear hK; (first | (with_reducible refine hK _ ?_; clear hK) | (clear hK; (first | (with_reducible refine hK _ ?_; clear hK)))))))))))))))))))))))) | ((with_reducible first | refine gcall_tt ?_ | refine gcall_ff ?_ | refine gcall_tf ?_ | refine gcall_ft ?_); simp) | (with_reducible refine awp_skip ?_; simp) | (with_reducible refine awp_exit ?_; simp) | (refine And.intro (by first | omega | assumption | grind) ?_))
  first | refine ⟨0, _, hin, ?_⟩ | refine ⟨0, _, Meets.wk (hin) (by simp), ?_⟩
  simp [aftC, aftE]
  repeat (first | (with_reducible refine awp_seqK fun K hK => ?_) | (with_reducible refine awp_block ?_) | (with_reducible refine awp_region (by kernel_rfl) ?_; simp) | (first | (with_reducible refine hK _ ?_; clear hK) | (clear hK; (first | (with_reducible refine hK _ ?_; clear hK) | (clear hK; (first | (with_reducible refine hK _ ?_; clear hK) | (clear hK; (first | (with_reducible refine hK _ ?_; clear hK) | (clear hK; (first | (with_reducible refine hK _ ?_; clear hK) | (clear hK; (first | (with_reducible refine hK _ ?_; clear hK) | (clear hK; (first | (with_reducible refine hK _ ?_; clear hK) | (clear hK; (first | (with_reducible refine hK _ ?_; clear hK) | (clear hK; (first | (with_reducible refine hK _ ?_; clear hK) | (clear hK; (first | (with_reducible refine hK _ ?_; clear hK) | (clear hK; (first | (with_reducible refine hK _ ?_; clear hK) | (clear hK; (first | (with_reducible refine hK _ ?_; clear hK)))))))))))))))))))))))) | ((with_reducible first | refine gcall_tt ?_ | refine gcall_ff ?_ | refine gcall_tf ?_ | refine gcall_ft ?_); simp) | (with_reducible refine awp_skip ?_; simp) | (with_reducible refine awp_exit ?_; simp) | (refine And.intro (by first | omega | assumption | grind) ?_))
  first | refine ⟨0, _, encode_ok i, ?_⟩ | refine ⟨0, _, Meets.wk (encode_ok i) (by simp), ?_⟩
  simp [aftC, aftE]
  repeat (first | (with_reducible refine awp_seqK fun K hK => ?_) | (with_reducible refine awp_block ?_) | (with_reducible refine awp_region (by kernel_rfl) ?_; simp [hv]) | (first | (with_reducible refine hK _ ?_; clear hK) | (clear hK; (first | (with_reducible refine hK _ ?_; clear hK) | (clear hK; (first | (with_reducible refine hK _ ?_; clear hK) | (clear hK; (first | (with_reducible refine hK _ ?_; clear hK) | (clear hK; (first | (with_reducible refine hK _ ?_; clear hK) | (clear hK; (first | (with_reducible refine hK _ ?_; clear hK) | (clear hK; (first | (with_reducible refine hK _ ?_; clear hK) | (clear hK; (first | (with_reducible refine hK _ ?_; clear hK) | (clear hK; (first | (with_reducible refine hK _ ?_; clear hK) | (clear hK; (first | (with_reducible refine hK _ ?_; clear hK) | (clear hK; (first | (with_reducible refine hK _ ?_; clear hK) | (clear hK; (first | (with_reducible refine hK _ ?_; clear hK)))))))))))))))))))))))) | ((with_reducible first | refine gcall_tt ?_ | refine gcall_ff ?_ | refine gcall_tf ?_ | refine gcall_ft ?_); simp [hv]) | (with_reducible refine awp_skip ?_; simp [hv]) | (with_reducible refine awp_exit ?_; simp [hv]) | (refine And.intro (by first | omega | assumption | grind) ?_))
  first | refine ⟨0, _, round_ok c0 15 (by omega) (by omega), ?_⟩ | refine ⟨0, _, Meets.wk (round_ok c0 15 (by omega) (by omega)) (by simp), ?_⟩
  simp [aftC, aftE, hcc, wc]
  repeat (first | (with_reducible refine awp_seqK fun K hK => ?_) | (with_reducible refine awp_block ?_) | (with_reducible refine awp_region (by kernel_rfl) ?_; simp [hcc, wc, hv]) | (first | (with_reducible refine hK _ ?_; clear hK) | (clear hK; (first | (with_reducible refine hK _ ?_; clear hK) | (clear hK; (first | (with_reducible refine hK _ ?_; clear hK) | (clear hK; (first | (with_reducible refine hK _ ?_; clear hK) | (clear hK; (first | (with_reducible refine hK _ ?_; clear hK) | (clear hK; (first | (with_reducible refine hK _ ?_; clear hK) | (clear hK; (first | (with_reducible refine hK _ ?_; clear hK) | (clear hK; (first | (with_reducible refine hK _ ?_; clear hK) | (clear hK; (first | (with_reducible refine hK _ ?_; clear hK) | (clear hK; (first | (with_reducible refine hK _ ?_; clear hK) | (clear hK; (first | (with_reducible refine hK _ ?_; clear hK) | (clear hK; (first | (with_reducible refine hK _ ?_; clear hK)))))))))))))))))))))))) | ((with_reducible first | refine gcall_tt ?_ | refine gcall_ff ?_ | refine gcall_tf ?_ | refine gcall_ft ?_); simp [hcc, wc, hv]) | (with_reducible refine awp_skip ?_; simp [hcc, wc, hv]) | (with_reducible refine awp_exit ?_; simp [hcc, wc, hv]) | (refine And.intro (by first | omega | assumption | grind) ?_))
  refine awp_cond rfl (fun h0 => ?_) (fun h0 => ?_)
  · simp at h0
    have hf : formD i.op = 2 := by unfold formD; rw [if_pos h0]
    have hi := m1 hf
    have hw : encW i = i.op * 16777216 + i.a * 1048576 + i.b * 65536 + i.c := by unfold encW; omega
    have ho := or_word (encW i) c 4 8 16 (by decide) (by omega) hr.1 hr.2 (by omega) (by omega) (by omega) (by omega)
    obtain ⟨j, hj⟩ := dec_bad (encW i + c * 16) (by
      have e1 : (encW i + c * 16) / 16777216 % 256 = i.op := by omega
      have e4 : (encW i + c * 16) % 65536 = i.c + c * 16 := by omega
      simp only [validD, decI, e1, hf, if_pos, uC, regB, e4, decide_true, if_true, Bool.and_eq_false_iff, decide_eq_false_iff_not]
      omega)
    have hv2 : validD ⟨i.op, i.a, i.b, i.c, c⟩ = false := by
      simp only [validD, hf, highD, Bool.and_eq_false_iff, decide_eq_false_iff_not]
      right; omega
    have hval := valid_ok ⟨i.op, i.a, i.b, i.c, c⟩
    rw [hv2] at hval
    repeat (first | (with_reducible refine awp_seqK fun K hK => ?_) | (with_reducible refine awp_block ?_) | (with_reducible refine awp_region (by kernel_rfl) ?_; simp [wd]) | (first | (with_reducible refine hK _ ?_; clear hK) | (clear hK; (first | (with_reducible refine hK _ ?_; clear hK) | (clear hK; (first | (with_reducible refine hK _ ?_; clear hK) | (clear hK; (first | (with_reducible refine hK _ ?_; clear hK) | (clear hK; (first | (with_reducible refine hK _ ?_; clear hK) | (clear hK; (first | (with_reducible refine hK _ ?_; clear hK) | (clear hK; (first | (with_reducible refine hK _ ?_; clear hK) | (clear hK; (first | (with_reducible refine hK _ ?_; clear hK) | (clear hK; (first | (with_reducible refine hK _ ?_; clear hK) | (clear hK; (first | (with_reducible refine hK _ ?_; clear hK) | (clear hK; (first | (with_reducible refine hK _ ?_; clear hK) | (clear hK; (first | (with_reducible refine hK _ ?_; clear hK)))))))))))))))))))))))) | ((with_reducible first | refine gcall_tt ?_ | refine gcall_ff ?_ | refine gcall_tf ?_ | refine gcall_ft ?_); simp [wd]) | (with_reducible refine awp_skip ?_; simp [wd]) | (with_reducible refine awp_exit ?_; simp [wd]) | (refine And.intro (by first | omega | assumption | grind) ?_))
    first | refine ⟨0, _, (ho ▸ hj), ?_⟩ | refine ⟨0, _, Meets.wk ((ho ▸ hj)) (by simp), ?_⟩
    simp [aftC, aftE]
    repeat (first | (with_reducible refine awp_seqK fun K hK => ?_) | (with_reducible refine awp_block ?_) | (with_reducible refine awp_region (by kernel_rfl) ?_; simp) | (first | (with_reducible refine hK _ ?_; clear hK) | (clear hK; (first | (with_reducible refine hK _ ?_; clear hK) | (clear hK; (first | (with_reducible refine hK _ ?_; clear hK) | (clear hK; (first | (with_reducible refine hK _ ?_; clear hK) | (clear hK; (first | (with_reducible refine hK _ ?_; clear hK) | (clear hK; (first | (with_reducible refine hK _ ?_; clear hK) | (clear hK; (first | (with_reducible refine hK _ ?_; clear hK) | (clear hK; (first | (with_reducible refine hK _ ?_; clear hK) | (clear hK; (first | (with_reducible refine hK _ ?_; clear hK) | (clear hK; (first | (with_reducible refine hK _ ?_; clear hK) | (clear hK; (first | (with_reducible refine hK _ ?_; clear hK) | (clear hK; (first | (with_reducible refine hK _ ?_; clear hK)))))))))))))))))))))))) | ((with_reducible first | refine gcall_tt ?_ | refine gcall_ff ?_ | refine gcall_tf ?_ | refine gcall_ft ?_); simp) | (with_reducible refine awp_skip ?_; simp) | (with_reducible refine awp_exit ?_; simp) | (refine And.intro (by first | omega | assumption | grind) ?_))
    first | refine ⟨0, _, hval, ?_⟩ | refine ⟨0, _, Meets.wk (hval) (by simp), ?_⟩
    simp [aftC, aftE]
    repeat (first | (with_reducible refine awp_seqK fun K hK => ?_) | (with_reducible refine awp_block ?_) | (with_reducible refine awp_region (by kernel_rfl) ?_; simp) | (first | (with_reducible refine hK _ ?_; clear hK) | (clear hK; (first | (with_reducible refine hK _ ?_; clear hK) | (clear hK; (first | (with_reducible refine hK _ ?_; clear hK) | (clear hK; (first | (with_reducible refine hK _ ?_; clear hK) | (clear hK; (first | (with_reducible refine hK _ ?_; clear hK) | (clear hK; (first | (with_reducible refine hK _ ?_; clear hK) | (clear hK; (first | (with_reducible refine hK _ ?_; clear hK) | (clear hK; (first | (with_reducible refine hK _ ?_; clear hK) | (clear hK; (first | (with_reducible refine hK _ ?_; clear hK) | (clear hK; (first | (with_reducible refine hK _ ?_; clear hK) | (clear hK; (first | (with_reducible refine hK _ ?_; clear hK) | (clear hK; (first | (with_reducible refine hK _ ?_; clear hK)))))))))))))))))))))))) | ((with_reducible first | refine gcall_tt ?_ | refine gcall_ff ?_ | refine gcall_tf ?_ | refine gcall_ft ?_); simp) | (with_reducible refine awp_skip ?_; simp) | (with_reducible refine awp_exit ?_; simp) | (refine And.intro (by first | omega | assumption | grind) ?_))
    first | refine ⟨0, _, awake_ok, ?_⟩ | refine ⟨0, _, Meets.wk (awake_ok) (by simp), ?_⟩
    simp [aftC, aftE]
    repeat (first | (with_reducible refine awp_seqK fun K hK => ?_) | (with_reducible refine awp_block ?_) | (with_reducible refine awp_region (by kernel_rfl) ?_; simp) | (first | (with_reducible refine hK _ ?_; clear hK) | (clear hK; (first | (with_reducible refine hK _ ?_; clear hK) | (clear hK; (first | (with_reducible refine hK _ ?_; clear hK) | (clear hK; (first | (with_reducible refine hK _ ?_; clear hK) | (clear hK; (first | (with_reducible refine hK _ ?_; clear hK) | (clear hK; (first | (with_reducible refine hK _ ?_; clear hK) | (clear hK; (first | (with_reducible refine hK _ ?_; clear hK) | (clear hK; (first | (with_reducible refine hK _ ?_; clear hK) | (clear hK; (first | (with_reducible refine hK _ ?_; clear hK) | (clear hK; (first | (with_reducible refine hK _ ?_; clear hK) | (clear hK; (first | (with_reducible refine hK _ ?_; clear hK) | (clear hK; (first | (with_reducible refine hK _ ?_; clear hK)))))))))))))))))))))))) | ((with_reducible first | refine gcall_tt ?_ | refine gcall_ff ?_ | refine gcall_tf ?_ | refine gcall_ft ?_); simp) | (with_reducible refine awp_skip ?_; simp) | (with_reducible refine awp_exit ?_; simp) | (refine And.intro (by first | omega | assumption | grind) ?_))
    refine awp_ret ?_
    simp
  simp at h0
  have hf : formD i.op ≠ 2 := by
    intro e
    have : 1 ≤ i.op ∧ i.op ≤ 13 := by
      apply Classical.byContradiction
      intro hn
      unfold formD at e
      rw [if_neg hn] at e
      (repeat' split at e) <;> omega
    omega
  have hi := m2 hf
  have hv2 : validD ⟨i.op, i.a, i.b, c, i.imm⟩ = false := by
    have : regB c (uC (formD i.op)) = false := by
      simp only [uC, regB, decide_eq_true_eq, if_neg hf, decide_eq_false_iff_not]
      omega
    simp only [validD, this, Bool.and_false, Bool.false_and]
  have hval := valid_ok ⟨i.op, i.a, i.b, c, i.imm⟩
  rw [hv2] at hval
  repeat (first | (with_reducible refine awp_seqK fun K hK => ?_) | (with_reducible refine awp_block ?_) | (with_reducible refine awp_region (by kernel_rfl) ?_; simp) | (first | (with_reducible refine hK _ ?_; clear hK) | (clear hK; (first | (with_reducible refine hK _ ?_; clear hK) | (clear hK; (first | (with_reducible refine hK _ ?_; clear hK) | (clear hK; (first | (with_reducible refine hK _ ?_; clear hK) | (clear hK; (first | (with_reducible refine hK _ ?_; clear hK) | (clear hK; (first | (with_reducible refine hK _ ?_; clear hK) | (clear hK; (first | (with_reducible refine hK _ ?_; clear hK) | (clear hK; (first | (with_reducible refine hK _ ?_; clear hK) | (clear hK; (first | (with_reducible refine hK _ ?_; clear hK) | (clear hK; (first | (with_reducible refine hK _ ?_; clear hK) | (clear hK; (first | (with_reducible refine hK _ ?_; clear hK) | (clear hK; (first | (with_reducible refine hK _ ?_; clear hK)))))))))))))))))))))))) | ((with_reducible first | refine gcall_tt ?_ | refine gcall_ff ?_ | refine gcall_tf ?_ | refine gcall_ft ?_); simp) | (with_reducible refine awp_skip ?_; simp) | (with_reducible refine awp_exit ?_; simp) | (refine And.intro (by first | omega | assumption | grind) ?_))
  first | refine ⟨0, _, hval, ?_⟩ | refine ⟨0, _, Meets.wk (hval) (by simp), ?_⟩
  simp [aftC, aftE]
  repeat (first | (with_reducible refine awp_seqK fun K hK => ?_) | (with_reducible refine awp_block ?_) | (with_reducible refine awp_region (by kernel_rfl) ?_; simp) | (first | (with_reducible refine hK _ ?_; clear hK) | (clear hK; (first | (with_reducible refine hK _ ?_; clear hK) | (clear hK; (first | (with_reducible refine hK _ ?_; clear hK) | (clear hK; (first | (with_reducible refine hK _ ?_; clear hK) | (clear hK; (first | (with_reducible refine hK _ ?_; clear hK) | (clear hK; (first | (with_reducible refine hK _ ?_; clear hK) | (clear hK; (first | (with_reducible refine hK _ ?_; clear hK) | (clear hK; (first | (with_reducible refine hK _ ?_; clear hK) | (clear hK; (first | (with_reducible refine hK _ ?_; clear hK) | (clear hK; (first | (with_reducible refine hK _ ?_; clear hK) | (clear hK; (first | (with_reducible refine hK _ ?_; clear hK) | (clear hK; (first | (with_reducible refine hK _ ?_; clear hK)))))))))))))))))))))))) | ((with_reducible first | refine gcall_tt ?_ | refine gcall_ff ?_ | refine gcall_tf ?_ | refine gcall_ft ?_); simp) | (with_reducible refine awp_skip ?_; simp) | (with_reducible refine awp_exit ?_; simp) | (refine And.intro (by first | omega | assumption | grind) ?_))
  refine awp_cond rfl (fun h => by simp at h) (fun _ => ?_)
  repeat (first | (with_reducible refine awp_seqK fun K hK => ?_) | (with_reducible refine awp_block ?_) | (with_reducible refine awp_region (by kernel_rfl) ?_; simp) | (first | (with_reducible refine hK _ ?_; clear hK) | (clear hK; (first | (with_reducible refine hK _ ?_; clear hK) | (clear hK; (first | (with_reducible refine hK _ ?_; clear hK) | (clear hK; (first | (with_reducible refine hK _ ?_; clear hK) | (clear hK; (first | (with_reducible refine hK _ ?_; clear hK) | (clear hK; (first | (with_reducible refine hK _ ?_; clear hK) | (clear hK; (first | (with_reducible refine hK _ ?_; clear hK) | (clear hK; (first | (with_reducible refine hK _ ?_; clear hK) | (clear hK; (first | (with_reducible refine hK _ ?_; clear hK) | (clear hK; (first | (with_reducible refine hK _ ?_; clear hK) | (clear hK; (first | (with_reducible refine hK _ ?_; clear hK) | (clear hK; (first | (with_reducible refine hK _ ?_; clear hK)))))))))))))))))))))))) | ((with_reducible first | refine gcall_tt ?_ | refine gcall_ff ?_ | refine gcall_tf ?_ | refine gcall_ft ?_); simp) | (with_reducible refine awp_skip ?_; simp) | (with_reducible refine awp_exit ?_; simp) | (refine And.intro (by first | omega | assumption | grind) ?_))
  refine awp_cond rfl (fun h1 => ?_) (fun h1 => ?_)
  · simp at h1
    have hq : uB (formD i.op) = false := by
      unfold formD
      (repeat' split) <;> first | rfl | omega
    have hb : i.b = 0 := by
      simp only [validD, Bool.and_eq_true] at hv
      have := hv.1.1.1.2
      rw [hq] at this
      simpa [regB] using this
    have hw : encW i = i.op * 16777216 + i.a * 1048576 + (i.c + i.imm) % 65536 := by unfold encW; omega
    have ho := or_word (encW i) c 16 20 65536 (by decide) (by omega) hr.1 hr.2 (by omega) (by omega) (by omega) (by omega)
    obtain ⟨j, hj⟩ := dec_bad (encW i + c * 65536) (by
      have e1 : (encW i + c * 65536) / 16777216 % 256 = i.op := by omega
      have e4 : (encW i + c * 65536) / 65536 % 16 = c := by omega
      have : regB c (uB (formD i.op)) = false := by
        rw [hq]; simp [regB]; omega
      simp only [validD, decI, e1, e4, this, Bool.and_false, Bool.false_and])
    repeat (first | (with_reducible refine awp_seqK fun K hK => ?_) | (with_reducible refine awp_block ?_) | (with_reducible refine awp_region (by kernel_rfl) ?_; simp) | (first | (with_reducible refine hK _ ?_; clear hK) | (clear hK; (first | (with_reducible refine hK _ ?_; clear hK) | (clear hK; (first | (with_reducible refine hK _ ?_; clear hK) | (clear hK; (first | (with_reducible refine hK _ ?_; clear hK) | (clear hK; (first | (with_reducible refine hK _ ?_; clear hK) | (clear hK; (first | (with_reducible refine hK _ ?_; clear hK) | (clear hK; (first | (with_reducible refine hK _ ?_; clear hK) | (clear hK; (first | (with_reducible refine hK _ ?_; clear hK) | (clear hK; (first | (with_reducible refine hK _ ?_; clear hK) | (clear hK; (first | (with_reducible refine hK _ ?_; clear hK) | (clear hK; (first | (with_reducible refine hK _ ?_; clear hK) | (clear hK; (first | (with_reducible refine hK _ ?_; clear hK)))))))))))))))))))))))) | ((with_reducible first | refine gcall_tt ?_ | refine gcall_ff ?_ | refine gcall_tf ?_ | refine gcall_ft ?_); simp) | (with_reducible refine awp_skip ?_; simp) | (with_reducible refine awp_exit ?_; simp) | (refine And.intro (by first | omega | assumption | grind) ?_))
    first | refine ⟨0, _, (ho ▸ hj), ?_⟩ | refine ⟨0, _, Meets.wk ((ho ▸ hj)) (by simp), ?_⟩
    simp [aftC, aftE]
    repeat (first | (with_reducible refine awp_seqK fun K hK => ?_) | (with_reducible refine awp_block ?_) | (with_reducible refine awp_region (by kernel_rfl) ?_; simp) | (first | (with_reducible refine hK _ ?_; clear hK) | (clear hK; (first | (with_reducible refine hK _ ?_; clear hK) | (clear hK; (first | (with_reducible refine hK _ ?_; clear hK) | (clear hK; (first | (with_reducible refine hK _ ?_; clear hK) | (clear hK; (first | (with_reducible refine hK _ ?_; clear hK) | (clear hK; (first | (with_reducible refine hK _ ?_; clear hK) | (clear hK; (first | (with_reducible refine hK _ ?_; clear hK) | (clear hK; (first | (with_reducible refine hK _ ?_; clear hK) | (clear hK; (first | (with_reducible refine hK _ ?_; clear hK) | (clear hK; (first | (with_reducible refine hK _ ?_; clear hK) | (clear hK; (first | (with_reducible refine hK _ ?_; clear hK) | (clear hK; (first | (with_reducible refine hK _ ?_; clear hK)))))))))))))))))))))))) | ((with_reducible first | refine gcall_tt ?_ | refine gcall_ff ?_ | refine gcall_tf ?_ | refine gcall_ft ?_); simp) | (with_reducible refine awp_skip ?_; simp) | (with_reducible refine awp_exit ?_; simp) | (refine And.intro (by first | omega | assumption | grind) ?_))
    first | refine ⟨0, _, awake_ok, ?_⟩ | refine ⟨0, _, Meets.wk (awake_ok) (by simp), ?_⟩
    simp [aftC, aftE]
    repeat (first | (with_reducible refine awp_seqK fun K hK => ?_) | (with_reducible refine awp_block ?_) | (with_reducible refine awp_region (by kernel_rfl) ?_; simp) | (first | (with_reducible refine hK _ ?_; clear hK) | (clear hK; (first | (with_reducible refine hK _ ?_; clear hK) | (clear hK; (first | (with_reducible refine hK _ ?_; clear hK) | (clear hK; (first | (with_reducible refine hK _ ?_; clear hK) | (clear hK; (first | (with_reducible refine hK _ ?_; clear hK) | (clear hK; (first | (with_reducible refine hK _ ?_; clear hK) | (clear hK; (first | (with_reducible refine hK _ ?_; clear hK) | (clear hK; (first | (with_reducible refine hK _ ?_; clear hK) | (clear hK; (first | (with_reducible refine hK _ ?_; clear hK) | (clear hK; (first | (with_reducible refine hK _ ?_; clear hK) | (clear hK; (first | (with_reducible refine hK _ ?_; clear hK) | (clear hK; (first | (with_reducible refine hK _ ?_; clear hK)))))))))))))))))))))))) | ((with_reducible first | refine gcall_tt ?_ | refine gcall_ff ?_ | refine gcall_tf ?_ | refine gcall_ft ?_); simp) | (with_reducible refine awp_skip ?_; simp) | (with_reducible refine awp_exit ?_; simp) | (refine And.intro (by first | omega | assumption | grind) ?_))
    refine awp_ret ?_
    simp
  repeat (first | (with_reducible refine awp_seqK fun K hK => ?_) | (with_reducible refine awp_block ?_) | (with_reducible refine awp_region (by kernel_rfl) ?_; simp) | (first | (with_reducible refine hK _ ?_; clear hK) | (clear hK; (first | (with_reducible refine hK _ ?_; clear hK) | (clear hK; (first | (with_reducible refine hK _ ?_; clear hK) | (clear hK; (first | (with_reducible refine hK _ ?_; clear hK) | (clear hK; (first | (with_reducible refine hK _ ?_; clear hK) | (clear hK; (first | (with_reducible refine hK _ ?_; clear hK) | (clear hK; (first | (with_reducible refine hK _ ?_; clear hK) | (clear hK; (first | (with_reducible refine hK _ ?_; clear hK) | (clear hK; (first | (with_reducible refine hK _ ?_; clear hK) | (clear hK; (first | (with_reducible refine hK _ ?_; clear hK) | (clear hK; (first | (with_reducible refine hK _ ?_; clear hK) | (clear hK; (first | (with_reducible refine hK _ ?_; clear hK)))))))))))))))))))))))) | ((with_reducible first | refine gcall_tt ?_ | refine gcall_ff ?_ | refine gcall_tf ?_ | refine gcall_ft ?_); simp) | (with_reducible refine awp_skip ?_; simp) | (with_reducible refine awp_exit ?_; simp) | (refine And.intro (by first | omega | assumption | grind) ?_))
  first | refine ⟨0, _, awake_ok, ?_⟩ | refine ⟨0, _, Meets.wk (awake_ok) (by simp), ?_⟩
  simp [aftC, aftE]
  repeat (first | (with_reducible refine awp_seqK fun K hK => ?_) | (with_reducible refine awp_block ?_) | (with_reducible refine awp_region (by kernel_rfl) ?_; simp) | (first | (with_reducible refine hK _ ?_; clear hK) | (clear hK; (first | (with_reducible refine hK _ ?_; clear hK) | (clear hK; (first | (with_reducible refine hK _ ?_; clear hK) | (clear hK; (first | (with_reducible refine hK _ ?_; clear hK) | (clear hK; (first | (with_reducible refine hK _ ?_; clear hK) | (clear hK; (first | (with_reducible refine hK _ ?_; clear hK) | (clear hK; (first | (with_reducible refine hK _ ?_; clear hK) | (clear hK; (first | (with_reducible refine hK _ ?_; clear hK) | (clear hK; (first | (with_reducible refine hK _ ?_; clear hK) | (clear hK; (first | (with_reducible refine hK _ ?_; clear hK) | (clear hK; (first | (with_reducible refine hK _ ?_; clear hK) | (clear hK; (first | (with_reducible refine hK _ ?_; clear hK)))))))))))))))))))))))) | ((with_reducible first | refine gcall_tt ?_ | refine gcall_ff ?_ | refine gcall_tf ?_ | refine gcall_ft ?_); simp) | (with_reducible refine awp_skip ?_; simp) | (with_reducible refine awp_exit ?_; simp) | (refine And.intro (by first | omega | assumption | grind) ?_))
  refine awp_ret ?_
  simp
end Go.Proofs.YtjlbpkokdlggiaaDoor
