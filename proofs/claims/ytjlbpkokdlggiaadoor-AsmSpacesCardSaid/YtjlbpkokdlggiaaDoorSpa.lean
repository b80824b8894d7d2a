/- The law AsmSpaces, walked. (Numbers of seat r2.D.) -/
import Derived.Test.YtjlbpkokdlggiaaDoorJoi
import Derived.Test.YtjlbpkokdlggiaaDoorAs19
namespace Go.Proofs.YtjlbpkokdlggiaaDoor
open Go.Ab Go.RowKit
set_option linter.unusedSimpArgs false
set_option maxRecDepth 100000
def atD (l : List Int) (i : Nat) : Int := if l = [] then 0 else l.getD (i % l.length) 0
theorem at_ok (l : List Int) (i : Nat) (hl : l.length ≤ 9223372036854775807) : Meets Tryd.prog 31 [.sl 1 false (ints .i64 l), .int .i64 i] (.int .i64 (atD l i)) := by
  have hil := ints_len .i64 l
  refine Meets.of Tryd.func31 rfl (by kernel_rfl) rfl ?_
  simp only [Tryd.ntmps31, St.start, argT]
  repeat (first | (with_reducible first | refine awp_seqK fun K hK => ?_ | refine awp_block ?_) | ((with_reducible first | refine awp_region (by kernel_rfl) ?_ | refine gcall_tt ?_ | refine gcall_ff ?_ | refine gcall_tf ?_ | refine gcall_ft ?_ | refine awp_skip ?_ | refine awp_exit ?_); simp [hil]) | ((repeat ((fail_if_success ((with_reducible refine hK _ ?_))); clear hK)); (with_reducible refine hK _ ?_); clear hK) | refine And.intro (by first | omega | assumption | grind) ?_)
  by_cases h0 : l = []
  · subst h0
    refine awp_cond rfl (fun _ => ?_) (fun h => by simp at h)
    repeat (first | (with_reducible first | refine awp_seqK fun K hK => ?_ | refine awp_block ?_) | ((with_reducible first | refine awp_region (by kernel_rfl) ?_ | refine gcall_tt ?_ | refine gcall_ff ?_ | refine gcall_tf ?_ | refine gcall_ft ?_ | refine awp_skip ?_ | refine awp_exit ?_); simp) | ((repeat ((fail_if_success ((with_reducible refine hK _ ?_))); clear hK)); (with_reducible refine hK _ ?_); clear hK) | refine And.intro (by first | omega | assumption | grind) ?_)
    refine awp_ret ?_
    simp [atD]
  · have hp : 0 < l.length := List.length_pos_iff.2 h0
    have hlt := Nat.mod_lt i hp
    have he : (i : Int) % (l.length : Int) = ((i % l.length : Nat) : Int) := by omega
    have hr := round_ok (i : Int) (l.length : Int) (by omega) (by omega)
    rw [he] at hr
    have hget : (ints .i64 l)[i % l.length]? = some [.int .i64 (l[i % l.length])] := iint_at _ l _ hlt
    have ha : atD l i = l[i % l.length] := by unfold atD; rw [if_neg h0, List.getD_eq_getElem?_getD, List.getElem?_eq_getElem hlt]; rfl
    refine awp_cond rfl (fun h => by simp [h0] at h) (fun _ => ?_)
    repeat (first | (with_reducible first | refine awp_seqK fun K hK => ?_ | refine awp_block ?_) | ((with_reducible first | refine awp_region (by kernel_rfl) ?_ | refine gcall_tt ?_ | refine gcall_ff ?_ | refine gcall_tf ?_ | refine gcall_ft ?_ | refine awp_skip ?_ | refine awp_exit ?_); simp [hil]) | ((repeat ((fail_if_success ((with_reducible refine hK _ ?_))); clear hK)); (with_reducible refine hK _ ?_); clear hK) | refine And.intro (by first | omega | assumption | grind) ?_)
    first | refine .inl ⟨0, _, hr, ?_⟩ | refine .inl ⟨0, _, Meets.wk (hr) (by simp), ?_⟩ | refine ⟨0, _, hr, ?_⟩ | refine ⟨0, _, Meets.wk (hr) (by simp), ?_⟩
    simp [aftC, aftE]
    have htn : ((i : Int) % (l.length : Int)).toNat = i % l.length := by rw [he]; rfl
    repeat (first | (with_reducible first | refine awp_seqK fun K hK => ?_ | refine awp_block ?_) | ((with_reducible first | refine awp_region (by kernel_rfl) ?_ | refine gcall_tt ?_ | refine gcall_ff ?_ | refine gcall_tf ?_ | refine gcall_ft ?_ | refine awp_skip ?_ | refine awp_exit ?_); simp [hget, hil, htn]) | ((repeat ((fail_if_success ((with_reducible refine hK _ ?_))); clear hK)); (with_reducible refine hK _ ?_); clear hK) | refine And.intro (by first | omega | assumption | grind) ?_)
    refine awp_ret ?_
    simp [ha, hget, htn]
def kD (l : List Int) (i : Nat) : Nat := (atD l i % 4).toNat
def mD (l : List Int) (i : Nat) : Bool := decide (atD l i % 2 = 1)
theorem and1 (v : Int) : IntKind.i64.wrap (((v % 2 ^ IntKind.i64.bits).toNat &&& 1 % 2 ^ IntKind.i64.bits : Nat) : Int) = v % 2 := by
  have h1 : (2 : Int) ^ IntKind.i64.bits = 18446744073709551616 := by decide
  have h2 : 1 % 2 ^ IntKind.i64.bits = 1 := by decide
  rw [h1, h2, Nat.and_one_is_mod, wrap_i64_in (by omega) (by omega)]
  omega
set_option maxHeartbeats 16000000 in
theorem spaces_ok (ws l : List Int) (hin : inW ws) : Meets Tryd.prog 12 [.sl 1 false (ints .u32 ws), .sl 1 false (ints .i64 l)] (.bool true) := by
  have hil := ints_len .i64 l
  have hiw := ints_len .u32 ws
  refine Meets.lens (by kernel_rfl) fun hlens => ?_
  simp [lensA, lensL, lenOk1, maxLen] at hlens
  refine Meets.of Tryd.func12 rfl (by kernel_rfl) rfl ?_
  simp only [Tryd.ntmps12, St.start, argT]
  repeat (first | (with_reducible first | refine awp_seqK fun K hK => ?_ | refine awp_block ?_) | ((with_reducible first | refine awp_region (by kernel_rfl) ?_ | refine gcall_tt ?_ | refine gcall_ff ?_ | refine gcall_tf ?_ | refine gcall_ft ?_ | refine awp_skip ?_ | refine awp_exit ?_); simp [hil, hiw]) | ((repeat ((fail_if_success ((with_reducible refine hK _ ?_))); clear hK)); (with_reducible refine hK _ ?_); clear hK) | refine And.intro (by first | omega | assumption | grind) ?_)
  have hll : l.length ≤ 9223372036854775807 := by simp only [hil, hiw] at hlens; omega
  refine awp_cond rfl (fun h => ?_) (fun h => ?_)
  · repeat (first | (with_reducible first | refine awp_seqK fun K hK => ?_ | refine awp_block ?_) | ((with_reducible first | refine awp_region (by kernel_rfl) ?_ | refine gcall_tt ?_ | refine gcall_ff ?_ | refine gcall_tf ?_ | refine gcall_ft ?_ | refine awp_skip ?_ | refine awp_exit ?_); simp) | ((repeat ((fail_if_success ((with_reducible refine hK _ ?_))); clear hK)); (with_reducible refine hK _ ?_); clear hK) | refine And.intro (by first | omega | assumption | grind) ?_)
    first | refine .inl ⟨0, _, awake23_ok, ?_⟩ | refine .inl ⟨0, _, Meets.wk (awake23_ok) (by simp), ?_⟩ | refine ⟨0, _, awake23_ok, ?_⟩ | refine ⟨0, _, Meets.wk (awake23_ok) (by simp), ?_⟩
    simp [aftC, aftE]
    repeat (first | (with_reducible first | refine awp_seqK fun K hK => ?_ | refine awp_block ?_) | ((with_reducible first | refine awp_region (by kernel_rfl) ?_ | refine gcall_tt ?_ | refine gcall_ff ?_ | refine gcall_tf ?_ | refine gcall_ft ?_ | refine awp_skip ?_ | refine awp_exit ?_); simp) | ((repeat ((fail_if_success ((with_reducible refine hK _ ?_))); clear hK)); (with_reducible refine hK _ ?_); clear hK) | refine And.intro (by first | omega | assumption | grind) ?_)
    refine awp_ret ?_
    simp
  · simp at h
    repeat (first | (with_reducible first | refine awp_seqK fun K hK => ?_ | refine awp_block ?_) | ((with_reducible first | refine awp_region (by kernel_rfl) ?_ | refine gcall_tt ?_ | refine gcall_ff ?_ | refine gcall_tf ?_ | refine gcall_ft ?_ | refine awp_skip ?_ | refine awp_exit ?_); simp) | ((repeat ((fail_if_success ((with_reducible refine hK _ ?_))); clear hK)); (with_reducible refine hK _ ?_); clear hK) | refine And.intro (by first | omega | assumption | grind) ?_)
    first | refine .inl ⟨0, _, dis_ok ws hin (by omega), ?_⟩ | refine .inl ⟨0, _, Meets.wk (dis_ok ws hin (by omega)) (by simp), ?_⟩ | refine ⟨0, _, dis_ok ws hin (by omega), ?_⟩ | refine ⟨0, _, Meets.wk (dis_ok ws hin (by omega)) (by simp), ?_⟩
    simp [aftC, aftE]
    repeat (first | (with_reducible first | refine awp_seqK fun K hK => ?_ | refine awp_block ?_) | ((with_reducible first | refine awp_region (by kernel_rfl) ?_ | refine gcall_tt ?_ | refine gcall_ff ?_ | refine gcall_tf ?_ | refine gcall_ft ?_ | refine awp_skip ?_ | refine awp_exit ?_); simp) | ((repeat ((fail_if_success ((with_reducible refine hK _ ?_))); clear hK)); (with_reducible refine hK _ ?_); clear hK) | refine And.intro (by first | omega | assumption | grind) ?_)
    have hda := dis_ascii ws hin
    have hdl := dis_len ws
    have hk3 : ∀ j, kD l j ≤ 3 := fun j => by unfold kD; omega
    have hlaw := spaces_law (kD l) (mD l) ws (by omega) hin
    generalize disS ws = s at hda hdl hlaw ⊢
    obtain ⟨I, hI⟩ : ∃ I : Nat → St → Prop, I = (fun kk ss => ∃ (i : Nat) (t : Str), i ≤ s.length ∧ kk = s.length - i ∧ (t = tx (kD l) (mD l) 0 (s.take i)) ∧ ss = ⟨87, [(7, .int .i64 i), (6, .str t), (5, .str s), (1, .sl 1 false (ints .i64 l)), (0, .sl 1 false (ints .u32 ws))], 0, [], 0⟩) := ⟨_, rfl⟩
    refine awp_loopA I (k0 := s.length) (st0 := (fun (i : Nat) (t : Str) => (⟨87, [(7, .int .i64 i), (6, .str t), (5, .str s), (1, .sl 1 false (ints .i64 l)), (0, .sl 1 false (ints .u32 ws))], 0, [], 0⟩ : St)) 0 []) (ρ0 := id) ⟨rfl, by simp [leT, ltV, lt1, ren, ren1], by simp [leO, lt1, ren1], by simp, by simp⟩ (by rw [hI]; exact ⟨0, [], by simp, by simp, rfl, rfl⟩) ?_
    intro kk ss hIk _
    rw [hI] at hIk
    obtain ⟨i, t, hi, rfl, hx, rfl⟩ := hIk
    have hi1 : IntKind.i64.wrap ((i : Int) + 1) = ((i + 1 : Nat) : Int) := by rw [wrap_i64_in (by omega) (by omega)]; omega
    repeat (first | (with_reducible first | refine awp_seqK fun K hK => ?_ | refine awp_block ?_) | ((with_reducible first | refine awp_region (by kernel_rfl) ?_ | refine gcall_tt ?_ | refine gcall_ff ?_ | refine gcall_tf ?_ | refine gcall_ft ?_ | refine awp_skip ?_ | refine awp_exit ?_); simp) | ((repeat ((fail_if_success ((with_reducible refine hK _ ?_))); clear hK)); (with_reducible refine hK _ ?_); clear hK) | refine And.intro (by first | omega | assumption | grind) ?_)
    by_cases hi' : i < s.length
    · obtain ⟨c, hc⟩ : ∃ c, c = s.getD i 0 := ⟨_, rfl⟩
      have hcc : s[i]?.getD 0 = c := by rw [hc, List.getD_eq_getElem?_getD]
      have hsl : (s.take (i + 1)).drop i = [c] := by
        rw [List.take_add_one, List.drop_append, List.getElem?_eq_getElem hi', List.length_take, show i - min i s.length = 0 by omega, List.drop_eq_nil_of_le (by rw [List.length_take]; omega)]
        rw [← hcc, List.getElem?_eq_getElem hi']; rfl
      have hst : tx (kD l) (mD l) 0 (s.take (i + 1)) = t ++ txC (kD l) (mD l) i c := by
        have : s.take (i + 1) = s.take i ++ [c] := by rw [List.take_add_one, List.getElem?_eq_getElem hi', ← hcc, List.getElem?_eq_getElem hi']; rfl
        rw [this, tx_snoc, hx, List.length_take, Nat.min_eq_left (by omega), Nat.zero_add]
      have htf := (tx_facts (kD l) (mD l) hk3 (s.take i) 0 fun b hb => hda b (List.mem_of_mem_take hb)).2
      rw [← hx, List.length_take] at htf
      have htl : t.length ≤ 100000 := by omega
      have hat := at_ok l i hll
      refine awp_cond rfl (fun _ => ?_) (fun h => by simp [hi'] at h)
      have ht1 : t.length + 1 ≤ 9223372036854775807 := by omega
      have ht2 : t.length + 1 + kD l i ≤ 9223372036854775807 := by have := hk3 i; omega
      have hin1 : (i : Int) ≤ i + 1 := by omega
      have hlt1 : (i : Int) + 1 ≤ (s.length : Int) := by omega
      have htn : ((i : Int) + 1).toNat = i + 1 := by omega
      have hr4 := round_ok (atD l i) 4 (by decide) (by decide)
      have hkd : (atD l i % 4).toNat = kD l i := rfl
      have hk0 : 0 ≤ atD l i % 4 := by omega
      have hk4 : atD l i % 4 ≤ 3 := by omega
      have htk3 : ([32, 32, 32] : Str).take (kD l i) = List.replicate (kD l i) 32 := by
        have : kD l i = 0 ∨ kD l i = 1 ∨ kD l i = 2 ∨ kD l i = 3 := by have := hk3 i; omega
        rcases this with e | e | e | e <;> rw [e] <;> rfl
      repeat (first | (with_reducible first | refine awp_seqK fun K hK => ?_ | refine awp_block ?_) | ((with_reducible first | refine awp_region (by kernel_rfl) ?_ | refine gcall_tt ?_ | refine gcall_ff ?_ | refine gcall_tf ?_ | refine gcall_ft ?_ | refine awp_skip ?_ | refine awp_exit ?_); simp [hcc]) | ((repeat ((fail_if_success ((with_reducible refine hK _ ?_))); clear hK)); (with_reducible refine hK _ ?_); clear hK) | refine And.intro (by first | omega | assumption | grind) ?_)
      refine awp_cond rfl (fun hq => ?_) (fun hq => ?_)
      · have hA : c = 32 ∨ c = 44 := by
          simp at hq
          rcases hq with hq | hq
          · exact .inl (UInt8.toNat_inj.1 (by simp; omega))
          · exact .inr (UInt8.toNat_inj.1 (by simp; omega))
        have htx : txC (kD l) (mD l) i c = c :: List.replicate (kD l i) 32 := by unfold txC; rw [if_pos hA]
        repeat (first | (with_reducible first | refine awp_seqK fun K hK => ?_ | refine awp_block ?_) | ((with_reducible first | refine awp_region (by kernel_rfl) ?_ | refine gcall_tt ?_ | refine gcall_ff ?_ | refine gcall_tf ?_ | refine gcall_ft ?_ | refine awp_skip ?_ | refine awp_exit ?_); simp) | ((repeat ((fail_if_success ((with_reducible refine hK _ ?_))); clear hK)); (with_reducible refine hK _ ?_); clear hK) | refine And.intro (by first | omega | assumption | grind) ?_)
        refine awp_planI ([0, 1, 2, 3, 4, 5, 6, 7, 8, 9, 10, 11, 12, 13] : List Nat) ([[], [], [], [], [3], [1, 2, 3, 4], [0, 1, 2, 3, 4, 5], [], [], [7, 8], [7, 8, 9], [7, 8, 9, 10], [0, 1, 2, 3, 4, 5, 6, 7, 8, 9, 10, 11], [0, 1, 2, 3, 4, 5, 6, 7, 8, 9, 10, 11, 12]] : List (List Nat)) ([(12, ([[], [], [], [], [3], [1, 2, 3, 4], [0, 1, 2, 3, 4, 5], [], [], [7, 8], [7, 8, 9], [7, 8, 9, 10]], [(5, 9), (5, 10)])), (1, ([], [])), (1, ([], []))] : List (Nat × List (List Nat) × List (Nat × Nat))) (by kernel_rfl) (by kernel_rfl) (by kernel_rfl) ?_
        repeat (first | (with_reducible first | refine awp_seqK fun K hK => ?_ | refine awp_block ?_) | ((with_reducible first | refine awp_region (by kernel_rfl) ?_ | refine gcall_tt ?_ | refine gcall_ff ?_ | refine gcall_tf ?_ | refine gcall_ft ?_ | refine gcallE_tt ?_ | refine gcallE_ff ?_ | refine gcallE_tf ?_ | refine gcallE_ft ?_ | refine awp_skip ?_ | refine awp_exit ?_); simp [hi1, hsl, hil, htn]) | ((repeat ((fail_if_success ((with_reducible first | refine hK _ ?_ | refine hK _ _ _ _ ?_))); clear hK)); (with_reducible first | refine hK _ ?_ | refine hK _ _ _ _ ?_); clear hK) | (with_reducible refine segs_one fun K hK => ?_; simp [hi1, hsl, hil, htn]) | (with_reducible refine segs_nil ?_; try simp only [thn, blk]) | (with_reducible refine segs_two fun K hK => ?_; simp only [List.take_succ_cons, List.take_zero]) | (with_reducible refine draw_step fun K hK => ?_; simp [hi1, hsl, hil, htn]) | (with_reducible refine draw_end ?_) | (with_reducible refine rechk_nil ?_; simp only [List.drop_succ_cons, List.drop_zero]; simp only [stS, eT, eO, List.cons_append, List.nil_append, cond_true, cond_false, Bool.and_true, Bool.and_false, Bool.true_and, Bool.false_and]) | (with_reducible refine rechk_cons ?_ ?_; (· (simp [hi1, hsl, hil, htn] <;> first | omega | grind))) | refine And.intro (by first | omega | assumption | grind) ?_)
        first | refine .inl ⟨0, _, hat, ?_⟩ | refine .inl ⟨0, _, Meets.wk (hat) (by simp), ?_⟩ | refine ⟨0, _, hat, ?_⟩ | refine ⟨0, _, Meets.wk (hat) (by simp), ?_⟩
        simp [aftC, aftE]
        repeat (first | (with_reducible first | refine awp_seqK fun K hK => ?_ | refine awp_block ?_) | ((with_reducible first | refine awp_region (by kernel_rfl) ?_ | refine gcall_tt ?_ | refine gcall_ff ?_ | refine gcall_tf ?_ | refine gcall_ft ?_ | refine gcallE_tt ?_ | refine gcallE_ff ?_ | refine gcallE_tf ?_ | refine gcallE_ft ?_ | refine awp_skip ?_ | refine awp_exit ?_); simp) | ((repeat ((fail_if_success ((with_reducible first | refine hK _ ?_ | refine hK _ _ _ _ ?_))); clear hK)); (with_reducible first | refine hK _ ?_ | refine hK _ _ _ _ ?_); clear hK) | (with_reducible refine segs_one fun K hK => ?_; simp) | (with_reducible refine segs_nil ?_; try simp only [thn, blk]) | (with_reducible refine segs_two fun K hK => ?_; simp only [List.take_succ_cons, List.take_zero]) | (with_reducible refine draw_step fun K hK => ?_; simp) | (with_reducible refine draw_end ?_) | (with_reducible refine rechk_nil ?_; simp only [List.drop_succ_cons, List.drop_zero]; simp only [stS, eT, eO, List.cons_append, List.nil_append, cond_true, cond_false, Bool.and_true, Bool.and_false, Bool.true_and, Bool.false_and]) | (with_reducible refine rechk_cons ?_ ?_; (· (simp <;> first | omega | grind))) | refine And.intro (by first | omega | assumption | grind) ?_)
        first | refine .inl ⟨0, _, hr4, ?_⟩ | refine .inl ⟨0, _, Meets.wk (hr4) (by simp), ?_⟩ | refine ⟨0, _, hr4, ?_⟩ | refine ⟨0, _, Meets.wk (hr4) (by simp), ?_⟩
        simp [aftC, aftE]
        repeat (first | (with_reducible first | refine awp_seqK fun K hK => ?_ | refine awp_block ?_) | ((with_reducible first | refine awp_region (by kernel_rfl) ?_ | refine gcall_tt ?_ | refine gcall_ff ?_ | refine gcall_tf ?_ | refine gcall_ft ?_ | refine gcallE_tt ?_ | refine gcallE_ff ?_ | refine gcallE_tf ?_ | refine gcallE_ft ?_ | refine awp_skip ?_ | refine awp_exit ?_); simp [hi1, hsl, htn, hkd, hk0, hk4, htk3]) | ((repeat ((fail_if_success ((with_reducible first | refine hK _ ?_ | refine hK _ _ _ _ ?_))); clear hK)); (with_reducible first | refine hK _ ?_ | refine hK _ _ _ _ ?_); clear hK) | (with_reducible refine segs_one fun K hK => ?_; simp [hi1, hsl, htn, hkd, hk0, hk4, htk3]) | (with_reducible refine segs_nil ?_; try simp only [thn, blk]) | (with_reducible refine segs_two fun K hK => ?_; simp only [List.take_succ_cons, List.take_zero]) | (with_reducible refine draw_step fun K hK => ?_; simp [hi1, hsl, htn, hkd, hk0, hk4, htk3]) | (with_reducible refine draw_end ?_) | (with_reducible refine rechk_nil ?_; simp only [List.drop_succ_cons, List.drop_zero]; simp only [stS, eT, eO, List.cons_append, List.nil_append, cond_true, cond_false, Bool.and_true, Bool.and_false, Bool.true_and, Bool.false_and]) | (with_reducible refine rechk_cons ?_ ?_; (· (simp [hi1, hsl, htn, hkd, hk0, hk4, htk3] <;> first | omega | grind))) | refine And.intro (by first | omega | assumption | grind) ?_)
        refine again_of (s.length - (i + 1)) ((fun (i : Nat) (t : Str) => (⟨87, [(7, .int .i64 i), (6, .str t), (5, .str s), (1, .sl 1 false (ints .i64 l)), (0, .sl 1 false (ints .u32 ws))], 0, [], 0⟩ : St)) (i + 1) (tx (kD l) (mD l) 0 (s.take (i + 1)))) (id) (by omega) (by rw [hI]; exact ⟨i + 1, (tx (kD l) (mD l) 0 (s.take (i + 1))), by omega, rfl, rfl, rfl⟩) ⟨rfl, ?_, ?_, ?_, by simp⟩
        · simp [leT, ltV, lt1, ren, ren1, wrap_i64_in (n := (i : Int) + 1) (by omega) (by omega), hi1, hst, htx]
        · simp [leO, lt1, ren1, hi1, hst, htx]
        · (simp; try omega)
      · have hA : ¬ (c = 32 ∨ c = 44) := by
          intro e
          rcases e with rfl | rfl <;> simp at hq
        repeat (first | (with_reducible first | refine awp_seqK fun K hK => ?_ | refine awp_block ?_) | ((with_reducible first | refine awp_region (by kernel_rfl) ?_ | refine gcall_tt ?_ | refine gcall_ff ?_ | refine gcall_tf ?_ | refine gcall_ft ?_ | refine gcallE_tt ?_ | refine gcallE_ff ?_ | refine gcallE_tf ?_ | refine gcallE_ft ?_ | refine awp_skip ?_ | refine awp_exit ?_); simp [hcc]) | ((repeat ((fail_if_success ((with_reducible first | refine hK _ ?_ | refine hK _ _ _ _ ?_))); clear hK)); (with_reducible first | refine hK _ ?_ | refine hK _ _ _ _ ?_); clear hK) | (with_reducible refine segs_one fun K hK => ?_; simp [hcc]) | (with_reducible refine segs_nil ?_; try simp only [thn, blk]) | (with_reducible refine segs_two fun K hK => ?_; simp only [List.take_succ_cons, List.take_zero]) | (with_reducible refine draw_step fun K hK => ?_; simp [hcc]) | (with_reducible refine draw_end ?_) | (with_reducible refine rechk_nil ?_; simp only [List.drop_succ_cons, List.drop_zero]; simp only [stS, eT, eO, List.cons_append, List.nil_append, cond_true, cond_false, Bool.and_true, Bool.and_false, Bool.true_and, Bool.false_and]) | (with_reducible refine rechk_cons ?_ ?_; (· (simp [hcc] <;> first | omega | grind))) | refine And.intro (by first | omega | assumption | grind) ?_)
        refine awp_cond rfl (fun hq2 => ?_) (fun hq2 => ?_)
        · have hB : c = 10 := by
            simp at hq2
            exact UInt8.toNat_inj.1 (by simp; omega)
          have htx : txC (kD l) (mD l) i c = comS ++ 10 :: extS (mD l i) := by unfold txC; rw [if_neg hA, if_pos hB]
          have ha1 := and1 (atD l i)
          repeat (first | (with_reducible first | refine awp_seqK fun K hK => ?_ | refine awp_block ?_) | ((with_reducible first | refine awp_region (by kernel_rfl) ?_ | refine gcall_tt ?_ | refine gcall_ff ?_ | refine gcall_tf ?_ | refine gcall_ft ?_ | refine gcallE_tt ?_ | refine gcallE_ff ?_ | refine gcallE_tf ?_ | refine gcallE_ft ?_ | refine awp_skip ?_ | refine awp_exit ?_); simp) | ((repeat ((fail_if_success ((with_reducible first | refine hK _ ?_ | refine hK _ _ _ _ ?_))); clear hK)); (with_reducible first | refine hK _ ?_ | refine hK _ _ _ _ ?_); clear hK) | (with_reducible refine segs_one fun K hK => ?_; simp) | (with_reducible refine segs_nil ?_; try simp only [thn, blk]) | (with_reducible refine segs_two fun K hK => ?_; simp only [List.take_succ_cons, List.take_zero]) | (with_reducible refine draw_step fun K hK => ?_; simp) | (with_reducible refine draw_end ?_) | (with_reducible refine rechk_nil ?_; simp only [List.drop_succ_cons, List.drop_zero]; simp only [stS, eT, eO, List.cons_append, List.nil_append, cond_true, cond_false, Bool.and_true, Bool.and_false, Bool.true_and, Bool.false_and]) | (with_reducible refine rechk_cons ?_ ?_; (· (simp <;> first | omega | grind))) | refine And.intro (by first | omega | assumption | grind) ?_)
          first | refine .inl ⟨0, _, hat, ?_⟩ | refine .inl ⟨0, _, Meets.wk (hat) (by simp), ?_⟩ | refine ⟨0, _, hat, ?_⟩ | refine ⟨0, _, Meets.wk (hat) (by simp), ?_⟩
          simp [aftC, aftE]
          repeat (first | (with_reducible first | refine awp_seqK fun K hK => ?_ | refine awp_block ?_) | ((with_reducible first | refine awp_region (by kernel_rfl) ?_ | refine gcall_tt ?_ | refine gcall_ff ?_ | refine gcall_tf ?_ | refine gcall_ft ?_ | refine gcallE_tt ?_ | refine gcallE_ff ?_ | refine gcallE_tf ?_ | refine gcallE_ft ?_ | refine awp_skip ?_ | refine awp_exit ?_); simp [ha1]) | ((repeat ((fail_if_success ((with_reducible first | refine hK _ ?_ | refine hK _ _ _ _ ?_))); clear hK)); (with_reducible first | refine hK _ ?_ | refine hK _ _ _ _ ?_); clear hK) | (with_reducible refine segs_one fun K hK => ?_; simp [ha1]) | (with_reducible refine segs_nil ?_; try simp only [thn, blk]) | (with_reducible refine segs_two fun K hK => ?_; simp only [List.take_succ_cons, List.take_zero]) | (with_reducible refine draw_step fun K hK => ?_; simp [ha1]) | (with_reducible refine draw_end ?_) | (with_reducible refine rechk_nil ?_; simp only [List.drop_succ_cons, List.drop_zero]; simp only [stS, eT, eO, List.cons_append, List.nil_append, cond_true, cond_false, Bool.and_true, Bool.and_false, Bool.true_and, Bool.false_and]) | (with_reducible refine rechk_cons ?_ ?_; (· (simp [ha1] <;> first | omega | grind))) | refine And.intro (by first | omega | assumption | grind) ?_)
          refine awp_cond rfl (fun hq3 => ?_) (fun hq3 => ?_)
          · simp [ha1] at hq3
            have hm : mD l i = true := by unfold mD; simp [hq3]
            rw [hm] at htx
            repeat (first | (with_reducible first | refine awp_seqK fun K hK => ?_ | refine awp_block ?_) | ((with_reducible first | refine awp_region (by kernel_rfl) ?_ | refine gcall_tt ?_ | refine gcall_ff ?_ | refine gcall_tf ?_ | refine gcall_ft ?_ | refine gcallE_tt ?_ | refine gcallE_ff ?_ | refine gcallE_tf ?_ | refine gcallE_ft ?_ | refine awp_skip ?_ | refine awp_exit ?_); simp [hi1]) | ((repeat ((fail_if_success ((with_reducible first | refine hK _ ?_ | refine hK _ _ _ _ ?_))); clear hK)); (with_reducible first | refine hK _ ?_ | refine hK _ _ _ _ ?_); clear hK) | (with_reducible refine segs_one fun K hK => ?_; simp [hi1]) | (with_reducible refine segs_nil ?_; try simp only [thn, blk]) | (with_reducible refine segs_two fun K hK => ?_; simp only [List.take_succ_cons, List.take_zero]) | (with_reducible refine draw_step fun K hK => ?_; simp [hi1]) | (with_reducible refine draw_end ?_) | (with_reducible refine rechk_nil ?_; simp only [List.drop_succ_cons, List.drop_zero]; simp only [stS, eT, eO, List.cons_append, List.nil_append, cond_true, cond_false, Bool.and_true, Bool.and_false, Bool.true_and, Bool.false_and]) | (with_reducible refine rechk_cons ?_ ?_; (· (simp [hi1] <;> first | omega | grind))) | refine And.intro (by first | omega | assumption | grind) ?_)
            refine again_of (s.length - (i + 1)) ((fun (i : Nat) (t : Str) => (⟨87, [(7, .int .i64 i), (6, .str t), (5, .str s), (1, .sl 1 false (ints .i64 l)), (0, .sl 1 false (ints .u32 ws))], 0, [], 0⟩ : St)) (i + 1) (tx (kD l) (mD l) 0 (s.take (i + 1)))) (id) (by omega) (by rw [hI]; exact ⟨i + 1, (tx (kD l) (mD l) 0 (s.take (i + 1))), by omega, rfl, rfl, rfl⟩) ⟨rfl, ?_, ?_, ?_, by simp⟩
            · simp [leT, ltV, lt1, ren, ren1, wrap_i64_in (n := (i : Int) + 1) (by omega) (by omega), hi1, hst, htx, comS, extS]
            · simp [leO, lt1, ren1, hi1, hst, htx, comS, extS]
            · (simp; try omega)
          · simp [ha1] at hq3
            have hm : mD l i = false := by unfold mD; simp [hq3]
            rw [hm] at htx
            repeat (first | (with_reducible first | refine awp_seqK fun K hK => ?_ | refine awp_block ?_) | ((with_reducible first | refine awp_region (by kernel_rfl) ?_ | refine gcall_tt ?_ | refine gcall_ff ?_ | refine gcall_tf ?_ | refine gcall_ft ?_ | refine gcallE_tt ?_ | refine gcallE_ff ?_ | refine gcallE_tf ?_ | refine gcallE_ft ?_ | refine awp_skip ?_ | refine awp_exit ?_); simp [hi1]) | ((repeat ((fail_if_success ((with_reducible first | refine hK _ ?_ | refine hK _ _ _ _ ?_))); clear hK)); (with_reducible first | refine hK _ ?_ | refine hK _ _ _ _ ?_); clear hK) | (with_reducible refine segs_one fun K hK => ?_; simp [hi1]) | (with_reducible refine segs_nil ?_; try simp only [thn, blk]) | (with_reducible refine segs_two fun K hK => ?_; simp only [List.take_succ_cons, List.take_zero]) | (with_reducible refine draw_step fun K hK => ?_; simp [hi1]) | (with_reducible refine draw_end ?_) | (with_reducible refine rechk_nil ?_; simp only [List.drop_succ_cons, List.drop_zero]; simp only [stS, eT, eO, List.cons_append, List.nil_append, cond_true, cond_false, Bool.and_true, Bool.and_false, Bool.true_and, Bool.false_and]) | (with_reducible refine rechk_cons ?_ ?_; (· (simp [hi1] <;> first | omega | grind))) | refine And.intro (by first | omega | assumption | grind) ?_)
            refine again_of (s.length - (i + 1)) ((fun (i : Nat) (t : Str) => (⟨87, [(7, .int .i64 i), (6, .str t), (5, .str s), (1, .sl 1 false (ints .i64 l)), (0, .sl 1 false (ints .u32 ws))], 0, [], 0⟩ : St)) (i + 1) (tx (kD l) (mD l) 0 (s.take (i + 1)))) (id) (by omega) (by rw [hI]; exact ⟨i + 1, (tx (kD l) (mD l) 0 (s.take (i + 1))), by omega, rfl, rfl, rfl⟩) ⟨rfl, ?_, ?_, ?_, by simp⟩
            · simp [leT, ltV, lt1, ren, ren1, wrap_i64_in (n := (i : Int) + 1) (by omega) (by omega), hi1, hst, htx, comS, extS]
            · simp [leO, lt1, ren1, hi1, hst, htx, comS, extS]
            · (simp; try omega)
        · have hB : ¬ c = 10 := by
            intro e
            subst e; simp at hq2
          have htx : txC (kD l) (mD l) i c = [c] := by unfold txC; rw [if_neg hA, if_neg hB]
          repeat (first | (with_reducible first | refine awp_seqK fun K hK => ?_ | refine awp_block ?_) | ((with_reducible first | refine awp_region (by kernel_rfl) ?_ | refine gcall_tt ?_ | refine gcall_ff ?_ | refine gcall_tf ?_ | refine gcall_ft ?_ | refine gcallE_tt ?_ | refine gcallE_ff ?_ | refine gcallE_tf ?_ | refine gcallE_ft ?_ | refine awp_skip ?_ | refine awp_exit ?_); simp [hi1, hsl, htn]) | ((repeat ((fail_if_success ((with_reducible first | refine hK _ ?_ | refine hK _ _ _ _ ?_))); clear hK)); (with_reducible first | refine hK _ ?_ | refine hK _ _ _ _ ?_); clear hK) | (with_reducible refine segs_one fun K hK => ?_; simp [hi1, hsl, htn]) | (with_reducible refine segs_nil ?_; try simp only [thn, blk]) | (with_reducible refine segs_two fun K hK => ?_; simp only [List.take_succ_cons, List.take_zero]) | (with_reducible refine draw_step fun K hK => ?_; simp [hi1, hsl, htn]) | (with_reducible refine draw_end ?_) | (with_reducible refine rechk_nil ?_; simp only [List.drop_succ_cons, List.drop_zero]; simp only [stS, eT, eO, List.cons_append, List.nil_append, cond_true, cond_false, Bool.and_true, Bool.and_false, Bool.true_and, Bool.false_and]) | (with_reducible refine rechk_cons ?_ ?_; (· (simp [hi1, hsl, htn] <;> first | omega | grind))) | refine And.intro (by first | omega | assumption | grind) ?_)
          refine again_of (s.length - (i + 1)) ((fun (i : Nat) (t : Str) => (⟨87, [(7, .int .i64 i), (6, .str t), (5, .str s), (1, .sl 1 false (ints .i64 l)), (0, .sl 1 false (ints .u32 ws))], 0, [], 0⟩ : St)) (i + 1) (tx (kD l) (mD l) 0 (s.take (i + 1)))) (id) (by omega) (by rw [hI]; exact ⟨i + 1, (tx (kD l) (mD l) 0 (s.take (i + 1))), by omega, rfl, rfl, rfl⟩) ⟨rfl, ?_, ?_, ?_, by simp⟩
          · simp [leT, ltV, lt1, ren, ren1, wrap_i64_in (n := (i : Int) + 1) (by omega) (by omega), hi1, hst, htx]
          · simp [leO, lt1, ren1, hi1, hst, htx]
          · (simp; try omega)
    · have hil' : i = s.length := by omega
      subst hil'
      rw [List.take_length] at hx
      refine awp_cond rfl (fun h => by simp at h) (fun _ => ?_)
      repeat (first | (with_reducible first | refine awp_seqK fun K hK => ?_ | refine awp_block ?_) | ((with_reducible first | refine awp_region (by kernel_rfl) ?_ | refine gcall_tt ?_ | refine gcall_ff ?_ | refine gcall_tf ?_ | refine gcall_ft ?_ | refine gcallE_tt ?_ | refine gcallE_ff ?_ | refine gcallE_tf ?_ | refine gcallE_ft ?_ | refine awp_skip ?_ | refine awp_exit ?_); simp) | ((repeat ((fail_if_success ((with_reducible first | refine hK _ ?_ | refine hK _ _ _ _ ?_))); clear hK)); (with_reducible first | refine hK _ ?_ | refine hK _ _ _ _ ?_); clear hK) | (with_reducible refine segs_one fun K hK => ?_; simp) | (with_reducible refine segs_nil ?_; try simp only [thn, blk]) | (with_reducible refine segs_two fun K hK => ?_; simp only [List.take_succ_cons, List.take_zero]) | (with_reducible refine draw_step fun K hK => ?_; simp) | (with_reducible refine draw_end ?_) | (with_reducible refine rechk_nil ?_; simp only [List.drop_succ_cons, List.drop_zero]; simp only [stS, eT, eO, List.cons_append, List.nil_append, cond_true, cond_false, Bool.and_true, Bool.and_false, Bool.true_and, Bool.false_and]) | (with_reducible refine rechk_cons ?_ ?_; (· (simp <;> first | omega | grind))) | refine And.intro (by first | omega | assumption | grind) ?_)
      refine awp_cond rfl (fun hlong => ?_) (fun hlong => ?_)
      · repeat (first | (with_reducible first | refine awp_seqK fun K hK => ?_ | refine awp_block ?_) | ((with_reducible first | refine awp_region (by kernel_rfl) ?_ | refine gcall_tt ?_ | refine gcall_ff ?_ | refine gcall_tf ?_ | refine gcall_ft ?_ | refine gcallE_tt ?_ | refine gcallE_ff ?_ | refine gcallE_tf ?_ | refine gcallE_ft ?_ | refine awp_skip ?_ | refine awp_exit ?_); simp) | ((repeat ((fail_if_success ((with_reducible first | refine hK _ ?_ | refine hK _ _ _ _ ?_))); clear hK)); (with_reducible first | refine hK _ ?_ | refine hK _ _ _ _ ?_); clear hK) | (with_reducible refine segs_one fun K hK => ?_; simp) | (with_reducible refine segs_nil ?_; try simp only [thn, blk]) | (with_reducible refine segs_two fun K hK => ?_; simp only [List.take_succ_cons, List.take_zero]) | (with_reducible refine draw_step fun K hK => ?_; simp) | (with_reducible refine draw_end ?_) | (with_reducible refine rechk_nil ?_; simp only [List.drop_succ_cons, List.drop_zero]; simp only [stS, eT, eO, List.cons_append, List.nil_append, cond_true, cond_false, Bool.and_true, Bool.and_false, Bool.true_and, Bool.false_and]) | (with_reducible refine rechk_cons ?_ ?_; (· (simp <;> first | omega | grind))) | refine And.intro (by first | omega | assumption | grind) ?_)
        first | refine .inl ⟨0, _, awake23_ok, ?_⟩ | refine .inl ⟨0, _, Meets.wk (awake23_ok) (by simp), ?_⟩ | refine ⟨0, _, awake23_ok, ?_⟩ | refine ⟨0, _, Meets.wk (awake23_ok) (by simp), ?_⟩
        simp [aftC, aftE]
        repeat (first | (with_reducible first | refine awp_seqK fun K hK => ?_ | refine awp_block ?_) | ((with_reducible first | refine awp_region (by kernel_rfl) ?_ | refine gcall_tt ?_ | refine gcall_ff ?_ | refine gcall_tf ?_ | refine gcall_ft ?_ | refine gcallE_tt ?_ | refine gcallE_ff ?_ | refine gcallE_tf ?_ | refine gcallE_ft ?_ | refine awp_skip ?_ | refine awp_exit ?_); simp) | ((repeat ((fail_if_success ((with_reducible first | refine hK _ ?_ | refine hK _ _ _ _ ?_))); clear hK)); (with_reducible first | refine hK _ ?_ | refine hK _ _ _ _ ?_); clear hK) | (with_reducible refine segs_one fun K hK => ?_; simp) | (with_reducible refine segs_nil ?_; try simp only [thn, blk]) | (with_reducible refine segs_two fun K hK => ?_; simp only [List.take_succ_cons, List.take_zero]) | (with_reducible refine draw_step fun K hK => ?_; simp) | (with_reducible refine draw_end ?_) | (with_reducible refine rechk_nil ?_; simp only [List.drop_succ_cons, List.drop_zero]; simp only [stS, eT, eO, List.cons_append, List.nil_append, cond_true, cond_false, Bool.and_true, Bool.and_false, Bool.true_and, Bool.false_and]) | (with_reducible refine rechk_cons ?_ ?_; (· (simp <;> first | omega | grind))) | refine And.intro (by first | omega | assumption | grind) ?_)
        refine awp_ret ?_
        simp
      · simp at hlong
        have hasm := hlaw (by rw [← hx]; omega)
        rw [← hx] at hasm
        have hta := (tx_facts (kD l) (mD l) hk3 s 0 hda).1
        rw [← hx] at hta
        have hs1 := assemble_ok t hta (by omega)
        have v1 : asmV t = .tup [.sl 1 false (ints .u32 ws), errV (0, 0)] := by unfold asmV; rw [hasm]
        rw [v1] at hs1
        repeat (first | (with_reducible first | refine awp_seqK fun K hK => ?_ | refine awp_block ?_) | ((with_reducible first | refine awp_region (by kernel_rfl) ?_ | refine gcall_tt ?_ | refine gcall_ff ?_ | refine gcall_tf ?_ | refine gcall_ft ?_ | refine gcallE_tt ?_ | refine gcallE_ff ?_ | refine gcallE_tf ?_ | refine gcallE_ft ?_ | refine awp_skip ?_ | refine awp_exit ?_); simp) | ((repeat ((fail_if_success ((with_reducible first | refine hK _ ?_ | refine hK _ _ _ _ ?_))); clear hK)); (with_reducible first | refine hK _ ?_ | refine hK _ _ _ _ ?_); clear hK) | (with_reducible refine segs_one fun K hK => ?_; simp) | (with_reducible refine segs_nil ?_; try simp only [thn, blk]) | (with_reducible refine segs_two fun K hK => ?_; simp only [List.take_succ_cons, List.take_zero]) | (with_reducible refine draw_step fun K hK => ?_; simp) | (with_reducible refine draw_end ?_) | (with_reducible refine rechk_nil ?_; simp only [List.drop_succ_cons, List.drop_zero]; simp only [stS, eT, eO, List.cons_append, List.nil_append, cond_true, cond_false, Bool.and_true, Bool.and_false, Bool.true_and, Bool.false_and]) | (with_reducible refine rechk_cons ?_ ?_; (· (simp <;> first | omega | grind))) | refine And.intro (by first | omega | assumption | grind) ?_)
        first | refine .inl ⟨0, _, hs1, ?_⟩ | refine .inl ⟨0, _, Meets.wk (hs1) (by simp), ?_⟩ | refine ⟨0, _, hs1, ?_⟩ | refine ⟨0, _, Meets.wk (hs1) (by simp), ?_⟩
        simp [aftC, aftE]
        repeat (first | (with_reducible first | refine awp_seqK fun K hK => ?_ | refine awp_block ?_) | ((with_reducible first | refine awp_region (by kernel_rfl) ?_ | refine gcall_tt ?_ | refine gcall_ff ?_ | refine gcall_tf ?_ | refine gcall_ft ?_ | refine gcallE_tt ?_ | refine gcallE_ff ?_ | refine gcallE_tf ?_ | refine gcallE_ft ?_ | refine awp_skip ?_ | refine awp_exit ?_); simp) | ((repeat ((fail_if_success ((with_reducible first | refine hK _ ?_ | refine hK _ _ _ _ ?_))); clear hK)); (with_reducible first | refine hK _ ?_ | refine hK _ _ _ _ ?_); clear hK) | (with_reducible refine segs_one fun K hK => ?_; simp) | (with_reducible refine segs_nil ?_; try simp only [thn, blk]) | (with_reducible refine segs_two fun K hK => ?_; simp only [List.take_succ_cons, List.take_zero]) | (with_reducible refine draw_step fun K hK => ?_; simp) | (with_reducible refine draw_end ?_) | (with_reducible refine rechk_nil ?_; simp only [List.drop_succ_cons, List.drop_zero]; simp only [stS, eT, eO, List.cons_append, List.nil_append, cond_true, cond_false, Bool.and_true, Bool.and_false, Bool.true_and, Bool.false_and]) | (with_reducible refine rechk_cons ?_ ?_; (· (simp <;> first | omega | grind))) | refine And.intro (by first | omega | assumption | grind) ?_)
        first | refine .inl ⟨0, _, sameW_ok ws (by omega), ?_⟩ | refine .inl ⟨0, _, Meets.wk (sameW_ok ws (by omega)) (by simp), ?_⟩ | refine ⟨0, _, sameW_ok ws (by omega), ?_⟩ | refine ⟨0, _, Meets.wk (sameW_ok ws (by omega)) (by simp), ?_⟩
        simp [aftC, aftE]
        repeat (first | (with_reducible first | refine awp_seqK fun K hK => ?_ | refine awp_block ?_) | ((with_reducible first | refine awp_region (by kernel_rfl) ?_ | refine gcall_tt ?_ | refine gcall_ff ?_ | refine gcall_tf ?_ | refine gcall_ft ?_ | refine gcallE_tt ?_ | refine gcallE_ff ?_ | refine gcallE_tf ?_ | refine gcallE_ft ?_ | refine awp_skip ?_ | refine awp_exit ?_); simp) | ((repeat ((fail_if_success ((with_reducible first | refine hK _ ?_ | refine hK _ _ _ _ ?_))); clear hK)); (with_reducible first | refine hK _ ?_ | refine hK _ _ _ _ ?_); clear hK) | (with_reducible refine segs_one fun K hK => ?_; simp) | (with_reducible refine segs_nil ?_; try simp only [thn, blk]) | (with_reducible refine segs_two fun K hK => ?_; simp only [List.take_succ_cons, List.take_zero]) | (with_reducible refine draw_step fun K hK => ?_; simp) | (with_reducible refine draw_end ?_) | (with_reducible refine rechk_nil ?_; simp only [List.drop_succ_cons, List.drop_zero]; simp only [stS, eT, eO, List.cons_append, List.nil_append, cond_true, cond_false, Bool.and_true, Bool.and_false, Bool.true_and, Bool.false_and]) | (with_reducible refine rechk_cons ?_ ?_; (· (simp <;> first | omega | grind))) | refine And.intro (by first | omega | assumption | grind) ?_)
        first | refine .inl ⟨0, _, awake23_ok, ?_⟩ | refine .inl ⟨0, _, Meets.wk (awake23_ok) (by simp), ?_⟩ | refine ⟨0, _, awake23_ok, ?_⟩ | refine ⟨0, _, Meets.wk (awake23_ok) (by simp), ?_⟩
        simp [aftC, aftE]
        repeat (first | (with_reducible first | refine awp_seqK fun K hK => ?_ | refine awp_block ?_) | ((with_reducible first | refine awp_region (by kernel_rfl) ?_ | refine gcall_tt ?_ | refine gcall_ff ?_ | refine gcall_tf ?_ | refine gcall_ft ?_ | refine gcallE_tt ?_ | refine gcallE_ff ?_ | refine gcallE_tf ?_ | refine gcallE_ft ?_ | refine awp_skip ?_ | refine awp_exit ?_); simp) | ((repeat ((fail_if_success ((with_reducible first | refine hK _ ?_ | refine hK _ _ _ _ ?_))); clear hK)); (with_reducible first | refine hK _ ?_ | refine hK _ _ _ _ ?_); clear hK) | (with_reducible refine segs_one fun K hK => ?_; simp) | (with_reducible refine segs_nil ?_; try simp only [thn, blk]) | (with_reducible refine segs_two fun K hK => ?_; simp only [List.take_succ_cons, List.take_zero]) | (with_reducible refine draw_step fun K hK => ?_; simp) | (with_reducible refine draw_end ?_) | (with_reducible refine rechk_nil ?_; simp only [List.drop_succ_cons, List.drop_zero]; simp only [stS, eT, eO, List.cons_append, List.nil_append, cond_true, cond_false, Bool.and_true, Bool.and_false, Bool.true_and, Bool.false_and]) | (with_reducible refine rechk_cons ?_ ?_; (· (simp <;> first | omega | grind))) | refine And.intro (by first | omega | assumption | grind) ?_)
        refine awp_ret ?_
        simp
theorem spaces_row (ws l : List Int) (hr : ∀ n ∈ ws, 0 ≤ n ∧ n ≤ 4294967295) : Meets Tryd.prog 12 [.sl 1 false (ints .u32 ws), .sl 1 false (ints .i64 l)] (.bool true) :=
  spaces_ok ws l fun w hw => by have := hr w hw; omega
end Go.Proofs.YtjlbpkokdlggiaaDoor
