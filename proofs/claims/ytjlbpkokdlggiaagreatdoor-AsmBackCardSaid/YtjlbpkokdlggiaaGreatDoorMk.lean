/- Contracts of the law's maker of instructions. -/
import Derived.Test.YtjlbpkokdlggiaaGreatDoorRnd
namespace Go.Proofs.YtjlbpkokdlggiaaGreatDoor
open Go.Ab
set_option linter.unusedSimpArgs false
set_option maxRecDepth 100000
def opsL : List Int := [1, 2, 3, 4, 5, 6, 7, 8, 9, 10, 11, 12, 13, 16, 16, 17, 18, 19, 20, 21, 22, 23, 24, 24, 32, 32, 33, 34, 35, 35, 36, 40, 41, 42, 43, 44, 45, 48, 49, 56, 57, 58, 59, 60, 60, 61, 61, 62, 63, 64]
theorem opsList_ok : Meets Tryz.prog 36 [] (.new 3 1 (ints .i64 opsL)) := by
  refine Meets.of Tryz.func36 rfl (by kernel_rfl) rfl ?_
  simp only [Tryz.ntmps36, St.start, argT]
  repeat (first | (with_reducible first | refine awp_seqK fun K hK => ?_ | refine awp_block ?_) | ((with_reducible first | refine awp_region (by kernel_rfl) ?_ | refine gcall_tt ?_ | refine gcall_ff ?_ | refine gcall_tf ?_ | refine gcall_ft ?_ | refine awp_skip ?_ | refine awp_exit ?_); simp) | ((repeat ((fail_if_success ((with_reducible refine hK _ ?_))); clear hK)); (with_reducible refine hK _ ?_); clear hK) | refine And.intro (by first | omega | assumption | grind) ?_)
  refine awp_ret ?_
  simp [opsL, ints]
def instD (op a b c k z : Int) : InstD :=
  if op ≤ 13 then ⟨op, a, b, c, 0⟩
  else if 40 ≤ op ∧ op ≤ 48 then ⟨op, a, if op = 48 then 0 else b, 0, k - 12⟩
  else if op = 16 ∨ op = 23 ∨ (32 ≤ op ∧ op ≤ 36) ∨ op = 49 then ⟨op, a, b, 0, 8 * k - 32⟩
  else if op = 24 then ⟨op, a, 0, 0, k * z⟩
  else if 17 ≤ op ∧ op ≤ 22 then ⟨op, a, b, 0, k⟩
  else if op = 58 ∨ op = 59 then ⟨op, a, 0, 0, k % 8⟩
  else if op = 60 ∨ op = 61 then ⟨op, a, 0, 0, k % 12⟩
  else ⟨op, 0, 0, 0, 0⟩
set_option maxHeartbeats 8000000 in
theorem instD_valid (op a b c k z : Int) (ho : op ∈ opsL) (ha : 0 ≤ a ∧ a < 6) (hb : 0 ≤ b ∧ b < 6) (hc : 0 ≤ c ∧ c < 6) (hk : 0 ≤ k ∧ k < 24) (hz : z = 0 ∨ z = 1) : validD (instD op a b c k z) = true := by
  simp only [opsL, List.mem_cons, List.not_mem_nil, or_false] at ho
  have hkz : 0 ≤ k * z ∧ k * z < 24 := by rcases hz with rfl | rfl <;> omega
  generalize hq : k * z = q at hkz
  rcases ho with rfl | rfl | rfl | rfl | rfl | rfl | rfl | rfl | rfl | rfl | rfl | rfl | rfl | rfl | rfl | rfl | rfl | rfl | rfl | rfl | rfl | rfl | rfl | rfl | rfl | rfl | rfl | rfl | rfl | rfl | rfl | rfl | rfl | rfl | rfl | rfl | rfl | rfl | rfl | rfl | rfl | rfl | rfl | rfl | rfl | rfl | rfl | rfl | rfl | rfl <;> simp [instD, hq, validD, regB, uA, uB, uC, lowD, highD, formD] <;> omega
noncomputable def vA (n : Int) : Int := mixA n 1
noncomputable def opA (n : Int) : Int := opsL.getD (vA n % 50).toNat 0
noncomputable def kA (n : Int) : Int := (vA n).fdiv 1048576 % 24
noncomputable def zA (n : Int) : Int := (vA n).fdiv 1099511627776 % 2
noncomputable def instA (n : Int) : InstD := instD (opA n) ((vA n).fdiv 256 % 6) ((vA n).fdiv 4096 % 6) ((vA n).fdiv 65536 % 6) (kA n) (zA n)
theorem and1 (x : Int) : IntKind.i64.wrap ((BitVec.ofInt 64 x &&& 1#64).toNat : Int) = x % 2 := by
  have e : (BitVec.ofInt 64 x &&& 1#64).toNat = (x % 2).toNat := by
    rw [BitVec.toNat_and, BitVec.toNat_ofInt, show (1#64).toNat = 2 ^ 1 - 1 from rfl, Nat.and_two_pow_sub_one_eq_mod]
    omega
  rw [e, wrap_i64_in (by omega) (by omega)]; omega
@[simp] theorem bi64 : IntKind.i64.bits = 64 := rfl
theorem opA_mem (n : Int) : opA n ∈ opsL := by
  unfold opA
  have h1 := Int.emod_nonneg (vA n) (show (50 : Int) ≠ 0 by omega)
  have h2 := Int.emod_lt_of_pos (vA n) (show (0 : Int) < 50 by omega)
  have hl : opsL.length = 50 := rfl
  rw [List.getD_eq_getElem?_getD, List.getElem?_eq_getElem (by omega), Option.getD_some]
  exact List.getElem_mem _
theorem instA_valid (n : Int) : validD (instA n) = true :=
  instD_valid _ _ _ _ _ _ (opA_mem n) (by omega) (by omega) (by omega) (by unfold kA; omega) (by unfold zA; omega)
set_option maxHeartbeats 16000000 in
theorem inst_ok (n : Int) : Meets Tryz.prog 20 [.int .i64 n] (.st (instA n).row) := by
  have hol : (ints .i64 opsL).length = 50 := rfl
  have hv1 := Int.emod_nonneg (vA n) (show (50 : Int) ≠ 0 by omega)
  have hv2 := Int.emod_lt_of_pos (vA n) (show (0 : Int) < 50 by omega)
  have hx1 : (ints .i64 opsL)[(vA n % 50).toNat]? = some [.int .i64 (opA n)] := by
    have hl : (vA n % 50).toNat < opsL.length := by have : opsL.length = 50 := rfl; omega
    rw [iint_at .i64 opsL _ hl, opA, List.getD_eq_getElem?_getD, List.getElem?_eq_getElem hl]; rfl
  have hmix : Meets Tryz.prog 37 [.int .i64 n, .int .i64 1] (.int .i64 (vA n)) := mix_ok n 1
  have hmem := opA_mem n
  unfold instA kA zA
  generalize opA n = op at hx1 hmem ⊢
  generalize vA n = v at hv1 hv2 hx1 hmix ⊢
  refine Meets.of Tryz.func20 rfl (by kernel_rfl) rfl ?_
  simp only [Tryz.ntmps20, St.start, argT]
  repeat (first | (with_reducible first | refine awp_seqK fun K hK => ?_ | refine awp_block ?_) | ((with_reducible first | refine awp_region (by kernel_rfl) ?_ | refine gcall_tt ?_ | refine gcall_ff ?_ | refine gcall_tf ?_ | refine gcall_ft ?_ | refine awp_skip ?_ | refine awp_exit ?_); simp) | ((repeat ((fail_if_success ((with_reducible refine hK _ ?_))); clear hK)); (with_reducible refine hK _ ?_); clear hK) | refine And.intro (by first | omega | assumption | grind) ?_)
  first | refine .inl ⟨0, _, opsList_ok, ?_⟩ | refine .inl ⟨0, _, Meets.wk (opsList_ok) (by simp), ?_⟩ | refine ⟨0, _, opsList_ok, ?_⟩ | refine ⟨0, _, Meets.wk (opsList_ok) (by simp), ?_⟩
  simp [aftC, aftE]
  repeat (first | (with_reducible first | refine awp_seqK fun K hK => ?_ | refine awp_block ?_) | ((with_reducible first | refine awp_region (by kernel_rfl) ?_ | refine gcall_tt ?_ | refine gcall_ff ?_ | refine gcall_tf ?_ | refine gcall_ft ?_ | refine awp_skip ?_ | refine awp_exit ?_); simp) | ((repeat ((fail_if_success ((with_reducible refine hK _ ?_))); clear hK)); (with_reducible refine hK _ ?_); clear hK) | refine And.intro (by first | omega | assumption | grind) ?_)
  first | refine .inl ⟨0, _, hmix, ?_⟩ | refine .inl ⟨0, _, Meets.wk (hmix) (by simp), ?_⟩ | refine ⟨0, _, hmix, ?_⟩ | refine ⟨0, _, Meets.wk (hmix) (by simp), ?_⟩
  simp [aftC, aftE]
  repeat (first | (with_reducible first | refine awp_seqK fun K hK => ?_ | refine awp_block ?_) | ((with_reducible first | refine awp_region (by kernel_rfl) ?_ | refine gcall_tt ?_ | refine gcall_ff ?_ | refine gcall_tf ?_ | refine gcall_ft ?_ | refine awp_skip ?_ | refine awp_exit ?_); simp) | ((repeat ((fail_if_success ((with_reducible refine hK _ ?_))); clear hK)); (with_reducible refine hK _ ?_); clear hK) | refine And.intro (by first | omega | assumption | grind) ?_)
  refine join_of (α := Unit) (fun _ => (⟨142, [(5, .ptr 1 5 0 0), (4, .int .i64 v), (2, .ptr 0 5 0 0)], 2, [(0, some ⟨48, 5, true, false, [[.int .i64 0, .int .i64 0, .int .i64 0, .int .i64 0, .int .i32 0]]⟩), (1, some ⟨48, 5, true, false, [[.int .i64 op, .int .i64 (v.fdiv 256 % 6), .int .i64 (v.fdiv 4096 % 6), .int .i64 (v.fdiv 65536 % 6), .int .i32 0]]⟩)], 0⟩ : St)) (fun _ => True) hK (fun _ hxhJ => ?_) (fun hJ => ?_)
  all_goals clear hK
  · have a1 := Int.emod_nonneg (v.fdiv 256) (show (6 : Int) ≠ 0 by omega)
    have a2 := Int.emod_lt_of_pos (v.fdiv 256) (show (0 : Int) < 6 by omega)
    repeat (first | (with_reducible first | refine awp_seqK fun K hK => ?_ | refine awp_block ?_) | ((with_reducible first | refine awp_region (by kernel_rfl) ?_ | refine gcall_tt ?_ | refine gcall_ff ?_ | refine gcall_tf ?_ | refine gcall_ft ?_ | refine awp_skip ?_ | refine awp_exit ?_); simp) | ((repeat ((fail_if_success ((with_reducible refine hK _ ?_))); clear hK)); (with_reducible refine hK _ ?_); clear hK) | refine And.intro (by first | omega | assumption | grind) ?_)
    first | refine .inl ⟨0, _, round_ok (v.fdiv 1048576) 24 (by omega) (by omega), ?_⟩ | refine .inl ⟨0, _, Meets.wk (round_ok (v.fdiv 1048576) 24 (by omega) (by omega)) (by simp), ?_⟩ | refine ⟨0, _, round_ok (v.fdiv 1048576) 24 (by omega) (by omega), ?_⟩ | refine ⟨0, _, Meets.wk (round_ok (v.fdiv 1048576) 24 (by omega) (by omega)) (by simp), ?_⟩
    simp [aftC, aftE]
    have k1 := Int.emod_nonneg (v.fdiv 1048576) (show (24 : Int) ≠ 0 by omega)
    have k2 := Int.emod_lt_of_pos (v.fdiv 1048576) (show (0 : Int) < 24 by omega)
    generalize hga : v.fdiv 256 % 6 = a at a1 a2 ⊢
    generalize hgb : v.fdiv 4096 % 6 = b
    generalize hgc : v.fdiv 65536 % 6 = c
    generalize hgk : v.fdiv 1048576 % 24 = k at k1 k2 ⊢
    repeat (first | (with_reducible first | refine awp_seqK fun K hK => ?_ | refine awp_block ?_) | ((with_reducible first | refine awp_region (by kernel_rfl) ?_ | refine gcall_tt ?_ | refine gcall_ff ?_ | refine gcall_tf ?_ | refine gcall_ft ?_ | refine awp_skip ?_ | refine awp_exit ?_); simp) | ((repeat ((fail_if_success ((with_reducible refine hK _ ?_))); clear hK)); (with_reducible refine hK _ ?_); clear hK) | refine And.intro (by first | omega | assumption | grind) ?_)
    refine awp_cond rfl (fun h1 => ?_) (fun h1 => ?_)
    · simp at h1
      have hI : ∀ z, instD op a b c k z = ⟨op, a, b, c, 0⟩ := fun z => by unfold instD; rw [if_pos h1]
      repeat (first | (with_reducible first | refine awp_seqK fun K hK => ?_ | refine awp_block ?_) | ((with_reducible first | refine awp_region (by kernel_rfl) ?_ | refine gcall_tt ?_ | refine gcall_ff ?_ | refine gcall_tf ?_ | refine gcall_ft ?_ | refine awp_skip ?_ | refine awp_exit ?_); simp) | ((repeat ((fail_if_success ((with_reducible refine hK _ ?_))); clear hK)); (with_reducible refine hK _ ?_); clear hK) | refine And.intro (by first | omega | assumption | grind) ?_)
      refine awp_ret ?_
      simp [hga, hgb, hgc, hgk, hI]
    simp at h1
    repeat (first | (with_reducible first | refine awp_seqK fun K hK => ?_ | refine awp_block ?_) | ((with_reducible first | refine awp_region (by kernel_rfl) ?_ | refine gcall_tt ?_ | refine gcall_ff ?_ | refine gcall_tf ?_ | refine gcall_ft ?_ | refine awp_skip ?_ | refine awp_exit ?_); simp) | ((repeat ((fail_if_success ((with_reducible refine hK _ ?_))); clear hK)); (with_reducible refine hK _ ?_); clear hK) | refine And.intro (by first | omega | assumption | grind) ?_)
    refine awp_cond rfl (fun h2 => ?_) (fun h2 => ?_)
    · simp at h2
      have w1 : IntKind.i64.wrap (k - 12) = k - 12 := wrap_i64_in (by omega) (by omega)
      have w2 : IntKind.i32.wrap (k - 12) = k - 12 := by rw [IntKind.wrap_i32]; omega
      repeat (first | (with_reducible first | refine awp_seqK fun K hK => ?_ | refine awp_block ?_) | ((with_reducible first | refine awp_region (by kernel_rfl) ?_ | refine gcall_tt ?_ | refine gcall_ff ?_ | refine gcall_tf ?_ | refine gcall_ft ?_ | refine awp_skip ?_ | refine awp_exit ?_); simp [w1, w2]) | ((repeat ((fail_if_success ((with_reducible refine hK _ ?_))); clear hK)); (with_reducible refine hK _ ?_); clear hK) | refine And.intro (by first | omega | assumption | grind) ?_)
      refine awp_cond rfl (fun h3 => ?_) (fun h3 => ?_)
      · simp at h3
        have hI : ∀ z, instD op a b c k z = ⟨op, a, 0, 0, k - 12⟩ := fun z => by unfold instD; rw [if_neg (by omega), if_pos h2, if_pos h3]
        repeat (first | (with_reducible first | refine awp_seqK fun K hK => ?_ | refine awp_block ?_) | ((with_reducible first | refine awp_region (by kernel_rfl) ?_ | refine gcall_tt ?_ | refine gcall_ff ?_ | refine gcall_tf ?_ | refine gcall_ft ?_ | refine awp_skip ?_ | refine awp_exit ?_); simp) | ((repeat ((fail_if_success ((with_reducible refine hK _ ?_))); clear hK)); (with_reducible refine hK _ ?_); clear hK) | refine And.intro (by first | omega | assumption | grind) ?_)
        refine awp_ret ?_
        simp [hga, hgb, hgc, hgk, hI]
      · simp at h3
        have hI : ∀ z, instD op a b c k z = ⟨op, a, b, 0, k - 12⟩ := fun z => by unfold instD; rw [if_neg (by omega), if_pos h2, if_neg h3]
        repeat (first | (with_reducible first | refine awp_seqK fun K hK => ?_ | refine awp_block ?_) | ((with_reducible first | refine awp_region (by kernel_rfl) ?_ | refine gcall_tt ?_ | refine gcall_ff ?_ | refine gcall_tf ?_ | refine gcall_ft ?_ | refine awp_skip ?_ | refine awp_exit ?_); simp) | ((repeat ((fail_if_success ((with_reducible refine hK _ ?_))); clear hK)); (with_reducible refine hK _ ?_); clear hK) | refine And.intro (by first | omega | assumption | grind) ?_)
        refine awp_ret ?_
        simp [hga, hgb, hgc, hgk, hI]
    simp at h2
    repeat (first | (with_reducible first | refine awp_seqK fun K hK => ?_ | refine awp_block ?_) | ((with_reducible first | refine awp_region (by kernel_rfl) ?_ | refine gcall_tt ?_ | refine gcall_ff ?_ | refine gcall_tf ?_ | refine gcall_ft ?_ | refine awp_skip ?_ | refine awp_exit ?_); simp) | ((repeat ((fail_if_success ((with_reducible refine hK _ ?_))); clear hK)); (with_reducible refine hK _ ?_); clear hK) | refine And.intro (by first | omega | assumption | grind) ?_)
    refine awp_cond rfl (fun h3 => ?_) (fun h3 => ?_)
    · simp at h3
      have w1 : IntKind.i64.wrap (8 * k) = 8 * k := wrap_i64_in (by omega) (by omega)
      have w2 : IntKind.i64.wrap (8 * k - 32) = 8 * k - 32 := wrap_i64_in (by omega) (by omega)
      have w3 : IntKind.i32.wrap (8 * k - 32) = 8 * k - 32 := by rw [IntKind.wrap_i32]; omega
      have hI : ∀ z, instD op a b c k z = ⟨op, a, b, 0, 8 * k - 32⟩ := fun z => by unfold instD; rw [if_neg (by omega), if_neg (by omega), if_pos (by omega)]
      repeat (first | (with_reducible first | refine awp_seqK fun K hK => ?_ | refine awp_block ?_) | ((with_reducible first | refine awp_region (by kernel_rfl) ?_ | refine gcall_tt ?_ | refine gcall_ff ?_ | refine gcall_tf ?_ | refine gcall_ft ?_ | refine awp_skip ?_ | refine awp_exit ?_); simp [w1, w2, w3]) | ((repeat ((fail_if_success ((with_reducible refine hK _ ?_))); clear hK)); (with_reducible refine hK _ ?_); clear hK) | refine And.intro (by first | omega | assumption | grind) ?_)
      refine awp_ret ?_
      simp [hga, hgb, hgc, hgk, hI]
    simp at h3
    repeat (first | (with_reducible first | refine awp_seqK fun K hK => ?_ | refine awp_block ?_) | ((with_reducible first | refine awp_region (by kernel_rfl) ?_ | refine gcall_tt ?_ | refine gcall_ff ?_ | refine gcall_tf ?_ | refine gcall_ft ?_ | refine awp_skip ?_ | refine awp_exit ?_); simp) | ((repeat ((fail_if_success ((with_reducible refine hK _ ?_))); clear hK)); (with_reducible refine hK _ ?_); clear hK) | refine And.intro (by first | omega | assumption | grind) ?_)
    refine awp_cond rfl (fun h4 => ?_) (fun h4 => ?_)
    · simp at h4
      have hI : ∀ z, instD op a b c k z = ⟨op, a, 0, 0, k * z⟩ := fun z => by unfold instD; rw [if_neg (by omega), if_neg (by omega), if_neg (by omega), if_pos h4]
      repeat (first | (with_reducible first | refine awp_seqK fun K hK => ?_ | refine awp_block ?_) | ((with_reducible first | refine awp_region (by kernel_rfl) ?_ | refine gcall_tt ?_ | refine gcall_ff ?_ | refine gcall_tf ?_ | refine gcall_ft ?_ | refine awp_skip ?_ | refine awp_exit ?_); simp) | ((repeat ((fail_if_success ((with_reducible refine hK _ ?_))); clear hK)); (with_reducible refine hK _ ?_); clear hK) | refine And.intro (by first | omega | assumption | grind) ?_)
      refine awp_ret ?_
      simp [hga, hgb, hgc, hgk, hI]
      have hz := and1 (v.fdiv 1099511627776)
      have hz1 := Int.emod_nonneg (v.fdiv 1099511627776) (show (2 : Int) ≠ 0 by omega)
      have hz2 := Int.emod_lt_of_pos (v.fdiv 1099511627776) (show (0 : Int) < 2 by omega)
      change IntKind.i32.wrap (IntKind.i64.wrap (k * IntKind.i64.wrap ((BitVec.ofInt 64 (v.fdiv 1099511627776) &&& 1#64).toNat : Int))) = _
      rw [hz]
      generalize v.fdiv 1099511627776 % 2 = z at hz1 hz2 ⊢
      have hc : z = 0 ∨ z = 1 := by omega
      rcases hc with rfl | rfl
      · rw [Int.mul_zero]; decide
      · rw [Int.mul_one, wrap_i64_in (by omega) (by omega), IntKind.wrap_i32]; omega
    simp at h4
    repeat (first | (with_reducible first | refine awp_seqK fun K hK => ?_ | refine awp_block ?_) | ((with_reducible first | refine awp_region (by kernel_rfl) ?_ | refine gcall_tt ?_ | refine gcall_ff ?_ | refine gcall_tf ?_ | refine gcall_ft ?_ | refine awp_skip ?_ | refine awp_exit ?_); simp) | ((repeat ((fail_if_success ((with_reducible refine hK _ ?_))); clear hK)); (with_reducible refine hK _ ?_); clear hK) | refine And.intro (by first | omega | assumption | grind) ?_)
    refine awp_cond rfl (fun h5 => ?_) (fun h5 => ?_)
    · simp at h5
      have w3 : IntKind.i32.wrap k = k := by rw [IntKind.wrap_i32]; omega
      have hI : ∀ z, instD op a b c k z = ⟨op, a, b, 0, k⟩ := fun z => by unfold instD; rw [if_neg (by omega), if_neg (by omega), if_neg (by omega), if_neg (by omega), if_pos (by omega)]
      repeat (first | (with_reducible first | refine awp_seqK fun K hK => ?_ | refine awp_block ?_) | ((with_reducible first | refine awp_region (by kernel_rfl) ?_ | refine gcall_tt ?_ | refine gcall_ff ?_ | refine gcall_tf ?_ | refine gcall_ft ?_ | refine awp_skip ?_ | refine awp_exit ?_); simp [w3]) | ((repeat ((fail_if_success ((with_reducible refine hK _ ?_))); clear hK)); (with_reducible refine hK _ ?_); clear hK) | refine And.intro (by first | omega | assumption | grind) ?_)
      refine awp_ret ?_
      simp [hga, hgb, hgc, hgk, hI]
    simp at h5
    repeat (first | (with_reducible first | refine awp_seqK fun K hK => ?_ | refine awp_block ?_) | ((with_reducible first | refine awp_region (by kernel_rfl) ?_ | refine gcall_tt ?_ | refine gcall_ff ?_ | refine gcall_tf ?_ | refine gcall_ft ?_ | refine awp_skip ?_ | refine awp_exit ?_); simp) | ((repeat ((fail_if_success ((with_reducible refine hK _ ?_))); clear hK)); (with_reducible refine hK _ ?_); clear hK) | refine And.intro (by first | omega | assumption | grind) ?_)
    refine awp_cond rfl (fun h6 => ?_) (fun h6 => ?_)
    · simp at h6
      have w3 : IntKind.i32.wrap (k.tmod 8) = k % 8 := by rw [Int.tmod_eq_emod_of_nonneg k1, IntKind.wrap_i32]; omega
      have hI : ∀ z, instD op a b c k z = ⟨op, a, 0, 0, k % 8⟩ := fun z => by unfold instD; rw [if_neg (by omega), if_neg (by omega), if_neg (by omega), if_neg (by omega), if_neg (by omega), if_pos (by omega)]
      repeat (first | (with_reducible first | refine awp_seqK fun K hK => ?_ | refine awp_block ?_) | ((with_reducible first | refine awp_region (by kernel_rfl) ?_ | refine gcall_tt ?_ | refine gcall_ff ?_ | refine gcall_tf ?_ | refine gcall_ft ?_ | refine awp_skip ?_ | refine awp_exit ?_); simp [w3]) | ((repeat ((fail_if_success ((with_reducible refine hK _ ?_))); clear hK)); (with_reducible refine hK _ ?_); clear hK) | refine And.intro (by first | omega | assumption | grind) ?_)
      refine awp_ret ?_
      simp [hga, hgb, hgc, hgk, hI]
    simp at h6
    repeat (first | (with_reducible first | refine awp_seqK fun K hK => ?_ | refine awp_block ?_) | ((with_reducible first | refine awp_region (by kernel_rfl) ?_ | refine gcall_tt ?_ | refine gcall_ff ?_ | refine gcall_tf ?_ | refine gcall_ft ?_ | refine awp_skip ?_ | refine awp_exit ?_); simp) | ((repeat ((fail_if_success ((with_reducible refine hK _ ?_))); clear hK)); (with_reducible refine hK _ ?_); clear hK) | refine And.intro (by first | omega | assumption | grind) ?_)
    refine awp_cond rfl (fun h7 => ?_) (fun h7 => ?_)
    · simp at h7
      have w3 : IntKind.i32.wrap (k.tmod 12) = k % 12 := by rw [Int.tmod_eq_emod_of_nonneg k1, IntKind.wrap_i32]; omega
      have hI : ∀ z, instD op a b c k z = ⟨op, a, 0, 0, k % 12⟩ := fun z => by unfold instD; rw [if_neg (by omega), if_neg (by omega), if_neg (by omega), if_neg (by omega), if_neg (by omega), if_neg (by omega), if_pos (by omega)]
      repeat (first | (with_reducible first | refine awp_seqK fun K hK => ?_ | refine awp_block ?_) | ((with_reducible first | refine awp_region (by kernel_rfl) ?_ | refine gcall_tt ?_ | refine gcall_ff ?_ | refine gcall_tf ?_ | refine gcall_ft ?_ | refine awp_skip ?_ | refine awp_exit ?_); simp [w3]) | ((repeat ((fail_if_success ((with_reducible refine hK _ ?_))); clear hK)); (with_reducible refine hK _ ?_); clear hK) | refine And.intro (by first | omega | assumption | grind) ?_)
      refine awp_ret ?_
      simp [hga, hgb, hgc, hgk, hI]
    simp at h7
    have hI : ∀ z, instD op a b c k z = ⟨op, 0, 0, 0, 0⟩ := fun z => by unfold instD; rw [if_neg (by omega), if_neg (by omega), if_neg (by omega), if_neg (by omega), if_neg (by omega), if_neg (by omega), if_neg (by omega)]
    repeat (first | (with_reducible first | refine awp_seqK fun K hK => ?_ | refine awp_block ?_) | ((with_reducible first | refine awp_region (by kernel_rfl) ?_ | refine gcall_tt ?_ | refine gcall_ff ?_ | refine gcall_tf ?_ | refine gcall_ft ?_ | refine awp_skip ?_ | refine awp_exit ?_); simp) | ((repeat ((fail_if_success ((with_reducible refine hK _ ?_))); clear hK)); (with_reducible refine hK _ ?_); clear hK) | refine And.intro (by first | omega | assumption | grind) ?_)
    refine awp_ret ?_
    simp [hga, hgb, hgc, hgk, hI]
  · refine awp_tree (.node 4 17 (.node 9 17 (.node 12 17 (.node 15 17 (.leaf [0, 1, 2, 3, 4, 5, 6, 7, 8, 9, 10, 11, 12, 13, 14, 15, 16, 17, 18] [[], [], [], [2], [1, 2, 3], [0, 1, 2, 3, 4], [0, 1, 2, 3, 4, 5], [], [7], [1, 2, 3, 4, 7, 8], [], [10], [1, 2, 3, 4, 7, 8, 9, 10, 11], [], [13], [1, 2, 3, 4, 7, 8, 9, 10, 11, 12, 13, 14], [0, 1, 2, 3, 4, 5, 6, 7, 8, 9, 10, 11, 12, 13, 14, 15], [1, 2, 3, 4, 7, 8, 9, 10, 11, 12, 13, 14, 15], [0, 1, 2, 3, 4, 5, 6, 7, 8, 9, 10, 11, 12, 13, 14, 15, 16, 17]] [(18, ([[], [], [], [2], [1, 2, 3], [0, 1, 2, 3, 4], [0, 1, 2, 3, 4, 5], [], [7], [1, 2, 3, 4, 7, 8], [], [10], [1, 2, 3, 4, 7, 8, 9, 10, 11], [], [13], [1, 2, 3, 4, 7, 8, 9, 10, 11, 12, 13, 14], [0, 1, 2, 3, 4, 5, 6, 7, 8, 9, 10, 11, 12, 13, 14, 15], [1, 2, 3, 4, 7, 8, 9, 10, 11, 12, 13, 14, 15]], [(5, 9), (5, 12), (5, 15), (5, 17), (6, 9), (6, 12), (6, 15), (6, 17)])), (1, ([], []))]) (.leaf [0, 1, 2, 3, 4, 5, 6, 7, 8, 9, 10, 11, 12, 13, 14, 17, 15, 16, 18] [[], [], [], [2], [1, 2, 3], [0, 1, 2, 3, 4], [0, 1, 2, 3, 4, 5], [], [7], [1, 2, 3, 4, 7, 8], [], [10], [1, 2, 3, 4, 7, 8, 9, 10, 11], [], [13], [1, 2, 3, 4, 7, 8, 9, 10, 11, 12], [1, 2, 3, 4, 7, 8, 9, 10, 11, 12, 13, 14, 15], [0, 1, 2, 3, 4, 5, 6, 7, 8, 9, 10, 11, 12, 13, 14, 15, 16], [0, 1, 2, 3, 4, 5, 6, 7, 8, 9, 10, 11, 12, 13, 14, 15, 16, 17]] [(17, ([[], [], [], [2], [1, 2, 3], [0, 1, 2, 3, 4], [0, 1, 2, 3, 4, 5], [], [7], [1, 2, 3, 4, 7, 8], [], [10], [1, 2, 3, 4, 7, 8, 9, 10, 11], [], [13], [1, 2, 3, 4, 7, 8, 9, 10, 11, 12], [1, 2, 3, 4, 7, 8, 9, 10, 11, 12, 13, 14, 15]], [(5, 9), (5, 12), (5, 15), (5, 16), (6, 9), (6, 12), (6, 15), (6, 16)])), (1, ([], [])), (1, ([], []))])) (.leaf [0, 1, 2, 3, 4, 5, 6, 7, 8, 9, 10, 11, 13, 14, 17, 12, 15, 16, 18] [[], [], [], [2], [1, 2, 3], [0, 1, 2, 3, 4], [0, 1, 2, 3, 4, 5], [], [7], [1, 2, 3, 4, 7, 8], [], [10], [], [12], [1, 2, 3, 4, 7, 8, 9], [1, 2, 3, 4, 7, 8, 9, 10, 11, 14], [1, 2, 3, 4, 7, 8, 9, 10, 11, 12, 13, 14, 15], [0, 1, 2, 3, 4, 5, 6, 7, 8, 9, 10, 11, 12, 13, 14, 15, 16], [0, 1, 2, 3, 4, 5, 6, 7, 8, 9, 10, 11, 12, 13, 14, 15, 16, 17]] [(17, ([[], [], [], [2], [1, 2, 3], [0, 1, 2, 3, 4], [0, 1, 2, 3, 4, 5], [], [7], [1, 2, 3, 4, 7, 8], [], [10], [], [12], [1, 2, 3, 4, 7, 8, 9], [1, 2, 3, 4, 7, 8, 9, 10, 11, 14], [1, 2, 3, 4, 7, 8, 9, 10, 11, 12, 13, 14, 15]], [(5, 9), (5, 14), (5, 15), (5, 16), (6, 9), (6, 14), (6, 15), (6, 16)])), (1, ([], [])), (1, ([], []))])) (.leaf [0, 1, 2, 3, 4, 5, 6, 7, 8, 10, 11, 13, 14, 17, 9, 12, 15, 16, 18] [[], [], [], [2], [1, 2, 3], [0, 1, 2, 3, 4], [0, 1, 2, 3, 4, 5], [], [7], [], [9], [], [11], [1, 2, 3, 4], [1, 2, 3, 4, 7, 8, 13], [1, 2, 3, 4, 7, 8, 9, 10, 13, 14], [1, 2, 3, 4, 7, 8, 9, 10, 11, 12, 13, 14, 15], [0, 1, 2, 3, 4, 5, 6, 7, 8, 9, 10, 11, 12, 13, 14, 15, 16], [0, 1, 2, 3, 4, 5, 6, 7, 8, 9, 10, 11, 12, 13, 14, 15, 16, 17]] [(17, ([[], [], [], [2], [1, 2, 3], [0, 1, 2, 3, 4], [0, 1, 2, 3, 4, 5], [], [7], [], [9], [], [11], [1, 2, 3, 4], [1, 2, 3, 4, 7, 8, 13], [1, 2, 3, 4, 7, 8, 9, 10, 13, 14], [1, 2, 3, 4, 7, 8, 9, 10, 11, 12, 13, 14, 15]], [(5, 13), (5, 14), (5, 15), (5, 16), (6, 13), (6, 14), (6, 15), (6, 16)])), (1, ([], [])), (1, ([], []))])) (.leaf [0, 1, 2, 3, 7, 8, 10, 11, 13, 14, 17, 4, 5, 6, 9, 12, 15, 16, 18] [[], [], [], [2], [], [4], [], [6], [], [8], [], [1, 2, 3, 10], [0, 1, 2, 3, 10, 11], [0, 1, 2, 3, 10, 11, 12], [1, 2, 3, 4, 5, 10, 11], [1, 2, 3, 4, 5, 6, 7, 10, 11, 14], [1, 2, 3, 4, 5, 6, 7, 8, 9, 10, 11, 14, 15], [0, 1, 2, 3, 4, 5, 6, 7, 8, 9, 10, 11, 12, 13, 14, 15, 16], [0, 1, 2, 3, 4, 5, 6, 7, 8, 9, 10, 11, 12, 13, 14, 15, 16, 17]] [(17, ([[], [], [], [2], [], [4], [], [6], [], [8], [], [1, 2, 3, 10], [0, 1, 2, 3, 10, 11], [0, 1, 2, 3, 10, 11, 12], [1, 2, 3, 4, 5, 10, 11], [1, 2, 3, 4, 5, 6, 7, 10, 11, 14], [1, 2, 3, 4, 5, 6, 7, 8, 9, 10, 11, 14, 15]], [(3, 10), (12, 14), (12, 15), (12, 16), (13, 14), (13, 15), (13, 16)])), (1, ([], [])), (1, ([], []))])) (by kernel_rfl) (by kernel_rfl) ?_
    simp only [PT.run]
    repeat' (with_reducible apply And.intro)
    all_goals (simp only [permL, List.map_cons, List.map_nil, List.getD_cons_zero, List.getD_cons_succ]; repeat (first | (with_reducible first | refine awp_seqK fun K hK => ?_ | refine awp_block ?_) | ((with_reducible first | refine awp_region (by kernel_rfl) ?_ | refine gcall_tt ?_ | refine gcall_ff ?_ | refine gcall_tf ?_ | refine gcall_ft ?_ | refine gcallE_tt ?_ | refine gcallE_ff ?_ | refine gcallE_tf ?_ | refine gcallE_ft ?_ | refine awp_skip ?_ | refine awp_exit ?_); simp [hol, hx1]) | ((repeat ((fail_if_success ((with_reducible first | refine hK _ ?_ | refine hK _ _ _ _ ?_))); clear hK)); (with_reducible first | refine hK _ ?_ | refine hK _ _ _ _ ?_); clear hK) | (with_reducible refine segs_one fun K hK => ?_; simp [hol, hx1]) | (with_reducible refine segs_nil ?_; try simp only [thn, blk]) | (with_reducible refine segs_two fun K hK => ?_; simp only [List.take_succ_cons, List.take_zero]) | (with_reducible refine draw_step fun K hK => ?_; simp [hol, hx1]) | (with_reducible refine draw_end ?_) | (with_reducible refine rechk_nil ?_; simp only [List.drop_succ_cons, List.drop_zero]; simp only [stS, eT, eO, List.cons_append, List.nil_append, cond_true, cond_false, Bool.and_true, Bool.and_false, Bool.true_and, Bool.false_and]) | (with_reducible refine rechk_cons ?_ ?_; (· (simp [hol, hx1] <;> first | omega | grind))) | refine And.intro (by first | omega | assumption | grind) ?_))
    all_goals ((first | refine .inl ⟨0, _, round_ok v 50 (by omega) (by omega), ?_⟩ | refine .inl ⟨0, _, Meets.wk (round_ok v 50 (by omega) (by omega)) (by simp), ?_⟩ | refine ⟨0, _, round_ok v 50 (by omega) (by omega), ?_⟩ | refine ⟨0, _, Meets.wk (round_ok v 50 (by omega) (by omega)) (by simp), ?_⟩); (simp [aftC, aftE]))
    all_goals ((repeat (first | (with_reducible first | refine awp_seqK fun K hK => ?_ | refine awp_block ?_) | ((with_reducible first | refine awp_region (by kernel_rfl) ?_ | refine gcall_tt ?_ | refine gcall_ff ?_ | refine gcall_tf ?_ | refine gcall_ft ?_ | refine gcallE_tt ?_ | refine gcallE_ff ?_ | refine gcallE_tf ?_ | refine gcallE_ft ?_ | refine awp_skip ?_ | refine awp_exit ?_); simp [hol, hx1]) | ((repeat ((fail_if_success ((with_reducible first | refine hK _ ?_ | refine hK _ _ _ _ ?_))); clear hK)); (with_reducible first | refine hK _ ?_ | refine hK _ _ _ _ ?_); clear hK) | (with_reducible refine segs_one fun K hK => ?_; simp [hol, hx1]) | (with_reducible refine segs_nil ?_; try simp only [thn, blk]) | (with_reducible refine segs_two fun K hK => ?_; simp only [List.take_succ_cons, List.take_zero]) | (with_reducible refine draw_step fun K hK => ?_; simp [hol, hx1]) | (with_reducible refine draw_end ?_) | (with_reducible refine rechk_nil ?_; simp only [List.drop_succ_cons, List.drop_zero]; simp only [stS, eT, eO, List.cons_append, List.nil_append, cond_true, cond_false, Bool.and_true, Bool.and_false, Bool.true_and, Bool.false_and]) | (with_reducible refine rechk_cons ?_ ?_; (· (simp [hol, hx1] <;> first | omega | grind))) | refine And.intro (by first | omega | assumption | grind) ?_)))
    all_goals ((first | refine .inl ⟨0, _, round_ok (v.fdiv 256) 6 (by omega) (by omega), ?_⟩ | refine .inl ⟨0, _, Meets.wk (round_ok (v.fdiv 256) 6 (by omega) (by omega)) (by simp), ?_⟩ | refine ⟨0, _, round_ok (v.fdiv 256) 6 (by omega) (by omega), ?_⟩ | refine ⟨0, _, Meets.wk (round_ok (v.fdiv 256) 6 (by omega) (by omega)) (by simp), ?_⟩); (simp [aftC, aftE]))
    all_goals ((repeat (first | (with_reducible first | refine awp_seqK fun K hK => ?_ | refine awp_block ?_) | ((with_reducible first | refine awp_region (by kernel_rfl) ?_ | refine gcall_tt ?_ | refine gcall_ff ?_ | refine gcall_tf ?_ | refine gcall_ft ?_ | refine gcallE_tt ?_ | refine gcallE_ff ?_ | refine gcallE_tf ?_ | refine gcallE_ft ?_ | refine awp_skip ?_ | refine awp_exit ?_); simp) | ((repeat ((fail_if_success ((with_reducible first | refine hK _ ?_ | refine hK _ _ _ _ ?_))); clear hK)); (with_reducible first | refine hK _ ?_ | refine hK _ _ _ _ ?_); clear hK) | (with_reducible refine segs_one fun K hK => ?_; simp) | (with_reducible refine segs_nil ?_; try simp only [thn, blk]) | (with_reducible refine segs_two fun K hK => ?_; simp only [List.take_succ_cons, List.take_zero]) | (with_reducible refine draw_step fun K hK => ?_; simp) | (with_reducible refine draw_end ?_) | (with_reducible refine rechk_nil ?_; simp only [List.drop_succ_cons, List.drop_zero]; simp only [stS, eT, eO, List.cons_append, List.nil_append, cond_true, cond_false, Bool.and_true, Bool.and_false, Bool.true_and, Bool.false_and]) | (with_reducible refine rechk_cons ?_ ?_; (· (simp <;> first | omega | grind))) | refine And.intro (by first | omega | assumption | grind) ?_)))
    all_goals ((first | refine .inl ⟨0, _, round_ok (v.fdiv 4096) 6 (by omega) (by omega), ?_⟩ | refine .inl ⟨0, _, Meets.wk (round_ok (v.fdiv 4096) 6 (by omega) (by omega)) (by simp), ?_⟩ | refine ⟨0, _, round_ok (v.fdiv 4096) 6 (by omega) (by omega), ?_⟩ | refine ⟨0, _, Meets.wk (round_ok (v.fdiv 4096) 6 (by omega) (by omega)) (by simp), ?_⟩); (simp [aftC, aftE]))
    all_goals ((repeat (first | (with_reducible first | refine awp_seqK fun K hK => ?_ | refine awp_block ?_) | ((with_reducible first | refine awp_region (by kernel_rfl) ?_ | refine gcall_tt ?_ | refine gcall_ff ?_ | refine gcall_tf ?_ | refine gcall_ft ?_ | refine gcallE_tt ?_ | refine gcallE_ff ?_ | refine gcallE_tf ?_ | refine gcallE_ft ?_ | refine awp_skip ?_ | refine awp_exit ?_); simp) | ((repeat ((fail_if_success ((with_reducible first | refine hK _ ?_ | refine hK _ _ _ _ ?_))); clear hK)); (with_reducible first | refine hK _ ?_ | refine hK _ _ _ _ ?_); clear hK) | (with_reducible refine segs_one fun K hK => ?_; simp) | (with_reducible refine segs_nil ?_; try simp only [thn, blk]) | (with_reducible refine segs_two fun K hK => ?_; simp only [List.take_succ_cons, List.take_zero]) | (with_reducible refine draw_step fun K hK => ?_; simp) | (with_reducible refine draw_end ?_) | (with_reducible refine rechk_nil ?_; simp only [List.drop_succ_cons, List.drop_zero]; simp only [stS, eT, eO, List.cons_append, List.nil_append, cond_true, cond_false, Bool.and_true, Bool.and_false, Bool.true_and, Bool.false_and]) | (with_reducible refine rechk_cons ?_ ?_; (· (simp <;> first | omega | grind))) | refine And.intro (by first | omega | assumption | grind) ?_)))
    all_goals ((first | refine .inl ⟨0, _, round_ok (v.fdiv 65536) 6 (by omega) (by omega), ?_⟩ | refine .inl ⟨0, _, Meets.wk (round_ok (v.fdiv 65536) 6 (by omega) (by omega)) (by simp), ?_⟩ | refine ⟨0, _, round_ok (v.fdiv 65536) 6 (by omega) (by omega), ?_⟩ | refine ⟨0, _, Meets.wk (round_ok (v.fdiv 65536) 6 (by omega) (by omega)) (by simp), ?_⟩); (simp [aftC, aftE]))
    all_goals ((repeat (first | (with_reducible first | refine awp_seqK fun K hK => ?_ | refine awp_block ?_) | ((with_reducible first | refine awp_region (by kernel_rfl) ?_ | refine gcall_tt ?_ | refine gcall_ff ?_ | refine gcall_tf ?_ | refine gcall_ft ?_ | refine gcallE_tt ?_ | refine gcallE_ff ?_ | refine gcallE_tf ?_ | refine gcallE_ft ?_ | refine awp_skip ?_ | refine awp_exit ?_); simp [hol, hx1]) | ((repeat ((fail_if_success ((with_reducible first | refine hK _ ?_ | refine hK _ _ _ _ ?_))); clear hK)); (with_reducible first | refine hK _ ?_ | refine hK _ _ _ _ ?_); clear hK) | (with_reducible refine segs_one fun K hK => ?_; simp [hol, hx1]) | (with_reducible refine segs_nil ?_; try simp only [thn, blk]) | (with_reducible refine segs_two fun K hK => ?_; simp only [List.take_succ_cons, List.take_zero]) | (with_reducible refine draw_step fun K hK => ?_; simp [hol, hx1]) | (with_reducible refine draw_end ?_) | (with_reducible refine rechk_nil ?_; simp only [List.drop_succ_cons, List.drop_zero]; simp only [stS, eT, eO, List.cons_append, List.nil_append, cond_true, cond_false, Bool.and_true, Bool.and_false, Bool.true_and, Bool.false_and]) | (with_reducible refine rechk_cons ?_ ?_; (· (simp [hol, hx1] <;> first | omega | grind))) | refine And.intro (by first | omega | assumption | grind) ?_)))
    all_goals first
      | (refine hJ () _ (fun x => if x = 1 then 7 else 0) trivial ⟨rfl, ?_, ?_, ?_, by simp⟩; (· simp [leT, ltV, lt1, ren, ren1]); (· simp [leO, lt1, ren1]); (· simp))
      | (refine hJ () _ (fun x => if x = 1 then 6 else 0) trivial ⟨rfl, ?_, ?_, ?_, by simp⟩; (· simp [leT, ltV, lt1, ren, ren1]); (· simp [leO, lt1, ren1]); (· simp))
      | (refine hJ () _ (fun x => if x = 1 then 5 else 0) trivial ⟨rfl, ?_, ?_, ?_, by simp⟩; (· simp [leT, ltV, lt1, ren, ren1]); (· simp [leO, lt1, ren1]); (· simp))
      | (refine hJ () _ (fun x => if x = 1 then 4 else 0) trivial ⟨rfl, ?_, ?_, ?_, by simp⟩; (· simp [leT, ltV, lt1, ren, ren1]); (· simp [leO, lt1, ren1]); (· simp))
      | (refine hJ () _ (fun x => if x = 1 then 3 else 0) trivial ⟨rfl, ?_, ?_, ?_, by simp⟩; (· simp [leT, ltV, lt1, ren, ren1]); (· simp [leO, lt1, ren1]); (· simp))
end Go.Proofs.YtjlbpkokdlggiaaGreatDoor
