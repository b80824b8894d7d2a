/- The law IsaBits, walked. (Numbers of seat r2.D.) -/
import Derived.Test.YtjlbpkokdlggiaaDoorIsa9
namespace Go.Proofs.YtjlbpkokdlggiaaDoor
open Go.Ab
set_option linter.unusedSimpArgs false
set_option maxRecDepth 100000
theorem dec_ne {i : InstD} (w : Int) (h0 : 0 ≤ w) (h1 : w < 4294967296) (hw : w ≠ encW i) : ∃ (j : InstD) (ok : Bool), Meets Tryd.prog 15 [.int .u32 w] (.tup [.st j.row, .bool ok]) ∧ (ok = true → j ≠ i) := by
  refine ⟨_, _, decode_ok w, fun hok e => hw ?_⟩
  rw [if_pos hok] at e
  rw [← enc_dec h0 h1, e]
theorem xor_ne (w : Int) (k : Nat) (h0 : 0 ≤ w) (h1 : w < 4294967296) (hk : k < 32) (u : Int) (hu : u = k) :
    IntKind.u32.wrap ((BitVec.ofInt 32 w ^^^ BitVec.ofInt 32 (IntKind.u32.wrap (2 ^ min u.toNat 32))).toNat : Int) ≠ w ∧ 0 ≤ IntKind.u32.wrap ((BitVec.ofInt 32 w ^^^ BitVec.ofInt 32 (IntKind.u32.wrap (2 ^ min u.toNat 32))).toNat : Int) ∧
      IntKind.u32.wrap ((BitVec.ofInt 32 w ^^^ BitVec.ofInt 32 (IntKind.u32.wrap (2 ^ min u.toNat 32))).toNat : Int) < 4294967296 := by
  refine ⟨?_, by rw [IntKind.wrap_u32]; omega, by rw [IntKind.wrap_u32]; omega⟩
  subst hu
  have hp : 2 ^ k < 4294967296 := by
    have : (2 : Nat) ^ k ≤ 2 ^ 31 := Nat.pow_le_pow_right (by omega) (by omega)
    omega
  have hpi : ((2 : Int) ^ min ((k : Int)).toNat 32) = ((2 ^ k : Nat) : Int) := by
    rw [Int.toNat_natCast, Nat.min_eq_left (by omega)]; push_cast; rfl
  rw [hpi, u32_nat _ hp]
  obtain ⟨W, rfl⟩ : ∃ W : Nat, w = W := ⟨w.toNat, by omega⟩
  rw [BitVec.toNat_xor, ofInt_toNat, ofInt_toNat]
  have e1 : ((W : Int) % 4294967296).toNat = W := by omega
  have e2 : (((2 ^ k : Nat) : Int) % 4294967296).toNat = 2 ^ k := by
    have hp' : ((2 ^ k : Nat) : Int) < 4294967296 := Int.ofNat_lt.2 hp
    rw [Int.emod_eq_of_lt (Int.natCast_nonneg _) hp', Int.toNat_natCast]
  rw [e1, e2, u32_nat _ (by have := Nat.xor_lt_two_pow (n := 32) (show W < 2 ^ 32 by omega) (show 2 ^ k < 2 ^ 32 by omega); omega)]
  intro e
  have e3 : W ^^^ 2 ^ k = W := by omega
  have e4 : (W ^^^ 2 ^ k).testBit k = W.testBit k := by rw [e3]
  rw [Nat.testBit_xor, Nat.testBit_two_pow_self] at e4
  cases hb : W.testBit k <;> simp [hb] at e4
set_option maxHeartbeats 8000000 in
theorem bits_ok (n bit : Int) : Meets Tryd.prog 5 [.int .i64 n, .int .i64 bit] (.bool true) := by
  have hv := instA_valid n
  have hr := encW_range hv
  have hb0 := Int.emod_nonneg bit (show (32 : Int) ≠ 0 by omega)
  have hb1 := Int.emod_lt_of_pos bit (show (0 : Int) < 32 by omega)
  have wb : IntKind.u64.wrap (bit % 32) = ((bit % 32).toNat : Nat) := by rw [IntKind.wrap_u64]; omega
  obtain ⟨x1, x2, x3⟩ := xor_ne (encW (instA n)) (bit % 32).toNat hr.1 hr.2 (by omega) _ wb
  obtain ⟨j, ok, hd, hj⟩ := dec_ne _ x2 x3 x1
  refine Meets.of Tryd.func5 rfl (by kernel_rfl) rfl ?_
  simp only [Tryd.ntmps5, St.start, argT]
  repeat (first | (with_reducible refine awp_seqK fun K hK => ?_) | (with_reducible refine awp_block ?_) | (with_reducible refine awp_region (by kernel_rfl) ?_; simp) | (first | (with_reducible refine hK _ ?_; clear hK) | (clear hK; (first | (with_reducible refine hK _ ?_; clear hK) | (clear hK; (first | (with_reducible refine hK _ ?_; clear hK) | (clear hK; (first | (with_reducible refine hK _ ?_; clear hK) | (clear hK; (first | (with_reducible refine hK _ ?_; clear hK) | (clear hK; (first | (with_reducible refine hK _ ?_; clear hK) | (clear hK; (first | (with_reducible refine hK _ ?_; clear hK) | (clear hK; (first | (with_reducible refine hK _ ?_; clear hK) | (clear hK; (first | (with_reducible refine hK _ ?_; clear hK) | (clear hK; (first | (with_reducible refine hK _ ?_; clear hK) | (clear hK; (first | (with_reducible refine hK _ ?_; clear hK) | (clear hK; (first | (with_reducible refine hK _ ?_; clear hK)))))))))))))))))))))))) | ((with_reducible first | refine gcall_tt ?_ | refine gcall_ff ?_ | refine gcall_tf ?_ | refine gcall_ft ?_); simp) | (with_reducible refine awp_skip ?_; simp) | (with_reducible refine awp_exit ?_; simp) | (refine And.intro (by first | omega | assumption | grind) ?_))
  first | refine ⟨0, _, inst_ok n, ?_⟩ | refine ⟨0, _, Meets.wk (inst_ok n) (by simp), ?_⟩
  simp [aftC, aftE]
  repeat (first | (with_reducible refine awp_seqK fun K hK => ?_) | (with_reducible refine awp_block ?_) | (with_reducible refine awp_region (by kernel_rfl) ?_; simp) | (first | (with_reducible refine hK _ ?_; clear hK) | (clear hK; (first | (with_reducible refine hK _ ?_; clear hK) | (clear hK; (first | (with_reducible refine hK _ ?_; clear hK) | (clear hK; (first | (with_reducible refine hK _ ?_; clear hK) | (clear hK; (first | (with_reducible refine hK _ ?_; clear hK) | (clear hK; (first | (with_reducible refine hK _ ?_; clear hK) | (clear hK; (first | (with_reducible refine hK _ ?_; clear hK) | (clear hK; (first | (with_reducible refine hK _ ?_; clear hK) | (clear hK; (first | (with_reducible refine hK _ ?_; clear hK) | (clear hK; (first | (with_reducible refine hK _ ?_; clear hK) | (clear hK; (first | (with_reducible refine hK _ ?_; clear hK) | (clear hK; (first | (with_reducible refine hK _ ?_; clear hK)))))))))))))))))))))))) | ((with_reducible first | refine gcall_tt ?_ | refine gcall_ff ?_ | refine gcall_tf ?_ | refine gcall_ft ?_); simp) | (with_reducible refine awp_skip ?_; simp) | (with_reducible refine awp_exit ?_; simp) | (refine And.intro (by first | omega | assumption | grind) ?_))
  first | refine ⟨0, _, encode_ok (instA n), ?_⟩ | refine ⟨0, _, Meets.wk (encode_ok (instA n)) (by simp), ?_⟩
  simp [aftC, aftE]
  repeat (first | (with_reducible refine awp_seqK fun K hK => ?_) | (with_reducible refine awp_block ?_) | (with_reducible refine awp_region (by kernel_rfl) ?_; simp [hv]) | (first | (with_reducible refine hK _ ?_; clear hK) | (clear hK; (first | (with_reducible refine hK _ ?_; clear hK) | (clear hK; (first | (with_reducible refine hK _ ?_; clear hK) | (clear hK; (first | (with_reducible refine hK _ ?_; clear hK) | (clear hK; (first | (with_reducible refine hK _ ?_; clear hK) | (clear hK; (first | (with_reducible refine hK _ ?_; clear hK) | (clear hK; (first | (with_reducible refine hK _ ?_; clear hK) | (clear hK; (first | (with_reducible refine hK _ ?_; clear hK) | (clear hK; (first | (with_reducible refine hK _ ?_; clear hK) | (clear hK; (first | (with_reducible refine hK _ ?_; clear hK) | (clear hK; (first | (with_reducible refine hK _ ?_; clear hK) | (clear hK; (first | (with_reducible refine hK _ ?_; clear hK)))))))))))))))))))))))) | ((with_reducible first | refine gcall_tt ?_ | refine gcall_ff ?_ | refine gcall_tf ?_ | refine gcall_ft ?_); simp [hv]) | (with_reducible refine awp_skip ?_; simp [hv]) | (with_reducible refine awp_exit ?_; simp [hv]) | (refine And.intro (by first | omega | assumption | grind) ?_))
  refine awp_cond rfl (fun h => by simp at h) (fun _ => ?_)
  repeat (first | (with_reducible refine awp_seqK fun K hK => ?_) | (with_reducible refine awp_block ?_) | (with_reducible refine awp_region (by kernel_rfl) ?_; simp) | (first | (with_reducible refine hK _ ?_; clear hK) | (clear hK; (first | (with_reducible refine hK _ ?_; clear hK) | (clear hK; (first | (with_reducible refine hK _ ?_; clear hK) | (clear hK; (first | (with_reducible refine hK _ ?_; clear hK) | (clear hK; (first | (with_reducible refine hK _ ?_; clear hK) | (clear hK; (first | (with_reducible refine hK _ ?_; clear hK) | (clear hK; (first | (with_reducible refine hK _ ?_; clear hK) | (clear hK; (first | (with_reducible refine hK _ ?_; clear hK) | (clear hK; (first | (with_reducible refine hK _ ?_; clear hK) | (clear hK; (first | (with_reducible refine hK _ ?_; clear hK) | (clear hK; (first | (with_reducible refine hK _ ?_; clear hK) | (clear hK; (first | (with_reducible refine hK _ ?_; clear hK)))))))))))))))))))))))) | ((with_reducible first | refine gcall_tt ?_ | refine gcall_ff ?_ | refine gcall_tf ?_ | refine gcall_ft ?_); simp) | (with_reducible refine awp_skip ?_; simp) | (with_reducible refine awp_exit ?_; simp) | (refine And.intro (by first | omega | assumption | grind) ?_))
  first | refine ⟨0, _, round_ok bit 32 (by omega) (by omega), ?_⟩ | refine ⟨0, _, Meets.wk (round_ok bit 32 (by omega) (by omega)) (by simp), ?_⟩
  simp [aftC, aftE]
  repeat (first | (with_reducible refine awp_seqK fun K hK => ?_) | (with_reducible refine awp_block ?_) | (with_reducible refine awp_region (by kernel_rfl) ?_; simp [hv]) | (first | (with_reducible refine hK _ ?_; clear hK) | (clear hK; (first | (with_reducible refine hK _ ?_; clear hK) | (clear hK; (first | (with_reducible refine hK _ ?_; clear hK) | (clear hK; (first | (with_reducible refine hK _ ?_; clear hK) | (clear hK; (first | (with_reducible refine hK _ ?_; clear hK) | (clear hK; (first | (with_reducible refine hK _ ?_; clear hK) | (clear hK; (first | (with_reducible refine hK _ ?_; clear hK) | (clear hK; (first | (with_reducible refine hK _ ?_; clear hK) | (clear hK; (first | (with_reducible refine hK _ ?_; clear hK) | (clear hK; (first | (with_reducible refine hK _ ?_; clear hK) | (clear hK; (first | (with_reducible refine hK _ ?_; clear hK) | (clear hK; (first | (with_reducible refine hK _ ?_; clear hK)))))))))))))))))))))))) | ((with_reducible first | refine gcall_tt ?_ | refine gcall_ff ?_ | refine gcall_tf ?_ | refine gcall_ft ?_); simp [hv]) | (with_reducible refine awp_skip ?_; simp [hv]) | (with_reducible refine awp_exit ?_; simp [hv]) | (refine And.intro (by first | omega | assumption | grind) ?_))
  first | refine ⟨0, _, hd, ?_⟩ | refine ⟨0, _, Meets.wk (hd) (by simp), ?_⟩
  simp [aftC, aftE]
  repeat (first | (with_reducible refine awp_seqK fun K hK => ?_) | (with_reducible refine awp_block ?_) | (with_reducible refine awp_region (by kernel_rfl) ?_; simp) | (first | (with_reducible refine hK _ ?_; clear hK) | (clear hK; (first | (with_reducible refine hK _ ?_; clear hK) | (clear hK; (first | (with_reducible refine hK _ ?_; clear hK) | (clear hK; (first | (with_reducible refine hK _ ?_; clear hK) | (clear hK; (first | (with_reducible refine hK _ ?_; clear hK) | (clear hK; (first | (with_reducible refine hK _ ?_; clear hK) | (clear hK; (first | (with_reducible refine hK _ ?_; clear hK) | (clear hK; (first | (with_reducible refine hK _ ?_; clear hK) | (clear hK; (first | (with_reducible refine hK _ ?_; clear hK) | (clear hK; (first | (with_reducible refine hK _ ?_; clear hK) | (clear hK; (first | (with_reducible refine hK _ ?_; clear hK) | (clear hK; (first | (with_reducible refine hK _ ?_; clear hK)))))))))))))))))))))))) | ((with_reducible first | refine gcall_tt ?_ | refine gcall_ff ?_ | refine gcall_tf ?_ | refine gcall_ft ?_); simp) | (with_reducible refine awp_skip ?_; simp) | (with_reducible refine awp_exit ?_; simp) | (refine And.intro (by first | omega | assumption | grind) ?_))
  first | refine gcall_c (awake_ok) rfl (fun hgd => ?_) (by simp [obsL]) ?_ | refine gcallE_c (awake_ok) rfl (by simp) (fun hgd => ?_) (by simp [obsL]) ?_
  all_goals simp
  all_goals (try (first | exact hgd | (simp at hgd; first | done | assumption | grind)))
  repeat (first | (with_reducible refine awp_seqK fun K hK => ?_) | (with_reducible refine awp_block ?_) | (with_reducible refine awp_region (by kernel_rfl) ?_; simp) | (first | (with_reducible refine hK _ ?_; clear hK) | (clear hK; (first | (with_reducible refine hK _ ?_; clear hK) | (clear hK; (first | (with_reducible refine hK _ ?_; clear hK) | (clear hK; (first | (with_reducible refine hK _ ?_; clear hK) | (clear hK; (first | (with_reducible refine hK _ ?_; clear hK) | (clear hK; (first | (with_reducible refine hK _ ?_; clear hK) | (clear hK; (first | (with_reducible refine hK _ ?_; clear hK) | (clear hK; (first | (with_reducible refine hK _ ?_; clear hK) | (clear hK; (first | (with_reducible refine hK _ ?_; clear hK) | (clear hK; (first | (with_reducible refine hK _ ?_; clear hK) | (clear hK; (first | (with_reducible refine hK _ ?_; clear hK) | (clear hK; (first | (with_reducible refine hK _ ?_; clear hK)))))))))))))))))))))))) | ((with_reducible first | refine gcall_tt ?_ | refine gcall_ff ?_ | refine gcall_tf ?_ | refine gcall_ft ?_); simp) | (with_reducible refine awp_skip ?_; simp) | (with_reducible refine awp_exit ?_; simp) | (refine And.intro (by first | omega | assumption | grind) ?_))
  refine awp_ret ?_
  simp
  cases ok with
  | false => simp
  | true =>
    have hne := hj rfl
    revert hne
    generalize instA n = i
    intro hne
    obtain ⟨a1, a2, a3, a4, a5⟩ := j
    obtain ⟨b1, b2, b3, b4, b5⟩ := i
    simp only [ne_eq, InstD.mk.injEq] at hne
    simp
    grind
end Go.Proofs.YtjlbpkokdlggiaaDoor
