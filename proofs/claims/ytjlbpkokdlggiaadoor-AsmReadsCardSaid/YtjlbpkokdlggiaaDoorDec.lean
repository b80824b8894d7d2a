/- Contracts: digits, Decimal of the document. (Numbers of seat r2.D.) -/
import Derived.Test.YtjlbpkokdlggiaaDoorIsa5
namespace Go.Proofs.YtjlbpkokdlggiaaDoor
open Go.Ab
set_option linter.unusedSimpArgs false
set_option maxRecDepth 100000
theorem nDig_le : ∀ (k u : Nat), u < 10 ^ (k + 1) → Lib.nDigits u ≤ k + 1
  | 0, u, h => by rw [Lib.nDigits_small (by simpa using h)]; exact Nat.le_refl _
  | k + 1, u, h => by
    by_cases hu : u < 10
    · rw [Lib.nDigits_small hu]; omega
    · rw [Lib.nDigits_big hu]
      have := nDig_le k (u / 10) (by rw [Nat.pow_succ] at h; omega)
      omega
theorem dec_len (n : Int) (h0 : 0 ≤ n) (h1 : n < 18446744073709551616) : (Lib.decDigits n.toNat).length ≤ 20 := by
  rw [Lib.decDigits_length]
  exact nDig_le 19 n.toNat (by omega)
theorem digits_ok : ∀ (k : Nat) (n : Int) (_ : 0 ≤ n) (_ : n < 18446744073709551616) (_ : n.toNat ≤ k), Meets Tryd.prog 44 [.int .u64 n] (.str (Lib.decDigits n.toNat)) := by
  intro k
  induction k using Nat.strongRecOn with
  | _ k ih =>
    intro n h0 h1 hk
    refine Meets.of Tryd.func44 rfl (by kernel_rfl) rfl ?_
    simp only [Tryd.ntmps44, St.start, argT]
    refine au  ?_
    repeat intro K hK
    refine wr ?_
    refine awp_cond rfl (fun h => ?_) (fun h => ?_)
    · simp at h
      obtain ⟨d, hd, hb⟩ : ∃ d : UInt8, d = UInt8.ofNat (48 + n.toNat) ∧ IntKind.u8.wrap (IntKind.u64.wrap (48 + n)) = (d.toNat : Int) := ⟨_, rfl, by
        rw [UInt8.toNat_ofNat', IntKind.wrap_u64, IntKind.wrap_u8]; omega⟩
      have hB : isByteV [V.int .u8 (d.toNat : Int)] := ⟨d, rfl⟩
      have he : Lib.decDigits n.toNat = [d] := by rw [Lib.decDigits_one (by omega), hd]
      refine au1 @hb ?_
      repeat intro K hK
      refine wr ?_
      refine awp_ret ?_
      simp [he]
    simp at h
    obtain ⟨d, hd, hb⟩ : ∃ d : UInt8, d = UInt8.ofNat (48 + n.toNat % 10) ∧ IntKind.u8.wrap (IntKind.u64.wrap (48 + n.tmod 10)) = (d.toNat : Int) := ⟨_, rfl, by
      rw [UInt8.toNat_ofNat', IntKind.wrap_u64, IntKind.wrap_u8, Int.tmod_eq_emod_of_nonneg h0]; omega⟩
    have hB : isByteV [V.int .u8 (d.toNat : Int)] := ⟨d, rfl⟩
    have hq : IntKind.u64.wrap (n.tdiv 10) = n / 10 := by rw [Int.tdiv_eq_ediv_of_nonneg h0, IntKind.wrap_u64]; omega
    have hr := ih (n / 10).toNat (by omega) (n / 10) (by omega) (by omega) (Nat.le_refl _)
    have hl := dec_len (n / 10) (by omega) (by omega)
    have he : Lib.decDigits n.toNat = Lib.decDigits (n / 10).toNat ++ [d] := by
      rw [Lib.decDigits, dif_neg (by omega)]
      rw [show n.toNat / 10 = (n / 10).toNat by omega, hd]
    refine au  ?_
    repeat intro K hK
    refine wr ?_
    refine awp_tree (.node 2 7 (.leaf [0, 1, 2, 3, 4, 5, 6, 7, 8, 9, 10] [[], [0], [0, 1], [], [3], [3, 4], [3, 4, 5], [0, 1, 2, 3, 4, 5, 6], [0, 1, 2, 3, 4, 5, 6, 7], [0, 1, 2, 3, 4, 5, 6, 7, 8], [0, 1, 2, 3, 4, 5, 6, 7, 8, 9]] [(7, ([[], [0], [0, 1], [], [3], [3, 4], [3, 4, 5]], [(6, 2)])), (1, ([], [])), (1, ([], [])), (1, ([], [])), (1, ([], []))]) (.leaf [0, 1, 3, 4, 5, 6, 7, 2, 8, 9, 10] [[], [0], [], [2], [2, 3], [2, 3, 4], [2, 3, 4, 5], [0, 1, 2, 3, 4, 5, 6], [2, 3, 4, 5, 6], [0, 1, 2, 3, 4, 5, 6, 7, 8], [0, 1, 2, 3, 4, 5, 6, 7, 8, 9]] [(9, ([[], [0], [], [2], [2, 3], [2, 3, 4], [2, 3, 4, 5], [0, 1, 2, 3, 4, 5, 6], [2, 3, 4, 5, 6]], [(8, 7)])), (1, ([], [])), (1, ([], []))])) (by kernel_rfl) (by kernel_rfl) ?_
    simp only [PT.run]
    repeat' (with_reducible apply And.intro)
    all_goals (simp only [permL, List.map_cons, List.map_nil, List.getD_cons_zero, List.getD_cons_succ]; repeat (first | (with_reducible first | refine awp_seqK fun K hK => ?_ | refine awp_block ?_) | ((with_reducible first | refine awp_region (by kernel_rfl) ?_ | refine gcall_tt ?_ | refine gcall_ff ?_ | refine gcall_tf ?_ | refine gcall_ft ?_ | refine gcallE_tt ?_ | refine gcallE_ff ?_ | refine gcallE_tf ?_ | refine gcallE_ft ?_ | refine awp_skip ?_ | refine awp_exit ?_); simp [hb, hq]) | ((repeat ((fail_if_success ((with_reducible first | refine hK _ ?_ | refine hK _ _ _ _ ?_))); clear hK)); (with_reducible first | refine hK _ ?_ | refine hK _ _ _ _ ?_); clear hK) | (with_reducible refine segs_one fun K hK => ?_; simp [hb, hq]) | (with_reducible refine segs_nil ?_; try simp only [thn, blk]) | (with_reducible refine segs_two fun K hK => ?_; simp only [List.take_succ_cons, List.take_zero]) | (with_reducible refine draw_step fun K hK => ?_; simp [hb, hq]) | (with_reducible refine draw_end ?_) | (with_reducible refine rechk_nil ?_; simp only [List.drop_succ_cons, List.drop_zero]; simp only [stS, eT, eO, List.cons_append, List.nil_append, cond_true, cond_false, Bool.and_true, Bool.and_false, Bool.true_and, Bool.false_and]) | (with_reducible refine rechk_cons ?_ ?_; (· (simp [hb, hq] <;> first | omega | grind))) | refine And.intro (by first | omega | assumption | grind) ?_))
    all_goals ((first | refine .inl ⟨0, _, hr, ?_⟩ | refine .inl ⟨0, _, Meets.wk (hr) (by simp), ?_⟩ | refine ⟨0, _, hr, ?_⟩ | refine ⟨0, _, Meets.wk (hr) (by simp), ?_⟩); (simp [aftC, aftE]))
    all_goals ((refine af2 @hb @hl ?_); (repeat intro K hK); (refine wr ?_))
    all_goals ((refine awp_ret ?_); (simp [he]))
theorem decimal_ok (n : Int) (h0 : -9223372036854775808 ≤ n) (h1 : n ≤ 9223372036854775807) : Meets Tryd.prog 24 [.int .i64 n] (.str (Lib.itoa n)) := by
  refine Meets.of Tryd.func24 rfl (by kernel_rfl) rfl ?_
  simp only [Tryd.ntmps24, St.start, argT]
  refine au  ?_
  repeat intro K hK
  refine wr ?_
  refine awp_cond rfl (fun h => ?_) (fun h => ?_)
  · simp at h
    have e1 : IntKind.i64.wrap (n + 1) = n + 1 := wrap_i64_in (by omega) (by omega)
    have e2 : IntKind.i64.wrap (-(n + 1)) = -(n + 1) := wrap_i64_in (by omega) (by omega)
    have e3 : IntKind.u64.wrap (-(n + 1)) = -(n + 1) := by rw [IntKind.wrap_u64]; omega
    have e4 : IntKind.u64.wrap (-(n + 1) + 1) = -n := by rw [IntKind.wrap_u64]; omega
    have hl := dec_len (-n) (by omega) (by omega)
    have he : Lib.itoa n = 45 :: Lib.decDigits (-n).toNat := by
      unfold Lib.itoa
      rw [if_pos h, show n.natAbs = (-n).toNat by omega]
    have hd := digits_ok (-n).toNat (-n) (by omega) (by omega) (Nat.le_refl _)
    rw [← e4, ← e3, ← e2, ← e1] at hd
    refine au  ?_
    repeat intro K hK
    refine wr ?_
    refine ca (hd)  ?_
    refine au5 @hl @e1 @e2 @e3 @e4 ?_
    repeat intro K hK
    refine wr ?_
    refine awp_ret ?_
    simp [he, e1, e2, e3, e4]
  · simp at h
    have e1 : IntKind.u64.wrap n = n := by rw [IntKind.wrap_u64]; omega
    have he : Lib.itoa n = Lib.decDigits n.toNat := by
      unfold Lib.itoa
      rw [if_neg (by omega)]
    have hd := digits_ok n.toNat n (by omega) (by omega) (Nat.le_refl _)
    refine au1 @e1 ?_
    repeat intro K hK
    refine wr ?_
    refine ca1 (hd) @e1 ?_
    refine au  ?_
    repeat intro K hK
    refine wr ?_
    refine awp_ret ?_
    simp [he]
end Go.Proofs.YtjlbpkokdlggiaaDoor
