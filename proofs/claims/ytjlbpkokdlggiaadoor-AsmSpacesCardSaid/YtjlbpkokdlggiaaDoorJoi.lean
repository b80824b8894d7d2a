/- The law AsmJoins, walked. (Numbers of seat r2.D.) -/
import Derived.Test.YtjlbpkokdlggiaaDoorDis
namespace Go.Proofs.YtjlbpkokdlggiaaDoor
open Go.Ab Go.RowKit
set_option linter.unusedSimpArgs false
set_option maxRecDepth 100000
set_option maxHeartbeats 8000000 in
theorem sameW_ok (a : List Int) (hl : a.length ≤ 1000000000) : Meets Tryd.prog 30 [.sl 1 false (ints .u32 a), .sl 1 false (ints .u32 a)] (.bool true) := by
  have hil := ints_len .u32 a
  refine Meets.of Tryd.func30 rfl (by kernel_rfl) rfl ?_
  simp only [Tryd.ntmps30, St.start, argT]
  repeat (first | (with_reducible first | refine awp_seqK fun K hK => ?_ | refine awp_block ?_) | ((with_reducible first | refine awp_region (by kernel_rfl) ?_ | refine gcall_tt ?_ | refine gcall_ff ?_ | refine gcall_tf ?_ | refine gcall_ft ?_ | refine awp_skip ?_ | refine awp_exit ?_); simp [hil]) | ((repeat ((fail_if_success ((with_reducible refine hK _ ?_))); clear hK)); (with_reducible refine hK _ ?_); clear hK) | refine And.intro (by first | omega | assumption | grind) ?_)
  refine awp_cond rfl (fun h => by simp at h) (fun _ => ?_)
  repeat (first | (with_reducible first | refine awp_seqK fun K hK => ?_ | refine awp_block ?_) | ((with_reducible first | refine awp_region (by kernel_rfl) ?_ | refine gcall_tt ?_ | refine gcall_ff ?_ | refine gcall_tf ?_ | refine gcall_ft ?_ | refine awp_skip ?_ | refine awp_exit ?_); simp) | ((repeat ((fail_if_success ((with_reducible refine hK _ ?_))); clear hK)); (with_reducible refine hK _ ?_); clear hK) | refine And.intro (by first | omega | assumption | grind) ?_)
  obtain ⟨I, hI⟩ : ∃ I : Nat → St → Prop, I = (fun kk ss => ∃ (i : Nat) , i ≤ a.length ∧ kk = a.length - i ∧ (True) ∧ ss = ⟨26, [(5, .int .i64 i), (0, .sl 1 false (ints .u32 a)), (1, .sl 1 false (ints .u32 a))], 0, [], 0⟩) := ⟨_, rfl⟩
  refine awp_loopA I (k0 := a.length) (st0 := (fun (i : Nat)  => (⟨26, [(5, .int .i64 i), (0, .sl 1 false (ints .u32 a)), (1, .sl 1 false (ints .u32 a))], 0, [], 0⟩ : St)) 0 ) (ρ0 := id) ⟨rfl, by simp [leT, ltV, lt1, ren, ren1], by simp [leO, lt1, ren1], by simp, by simp⟩ (by rw [hI]; exact ⟨0, by simp, by simp, trivial, rfl⟩) ?_
  intro kk ss hIk _
  rw [hI] at hIk
  obtain ⟨i, hi, rfl, hx, rfl⟩ := hIk
  have hw : IntKind.i64.wrap ((i : Int) + 1) = ((i + 1 : Nat) : Int) := by rw [wrap_i64_in (by omega) (by omega)]; omega
  repeat (first | (with_reducible first | refine awp_seqK fun K hK => ?_ | refine awp_block ?_) | ((with_reducible first | refine awp_region (by kernel_rfl) ?_ | refine gcall_tt ?_ | refine gcall_ff ?_ | refine gcall_tf ?_ | refine gcall_ft ?_ | refine awp_skip ?_ | refine awp_exit ?_); simp [hil]) | ((repeat ((fail_if_success ((with_reducible refine hK _ ?_))); clear hK)); (with_reducible refine hK _ ?_); clear hK) | refine And.intro (by first | omega | assumption | grind) ?_)
  by_cases hi' : i < a.length
  · obtain ⟨z, hz⟩ : ∃ z, z = a[i] := ⟨_, rfl⟩
    have hget : (ints .u32 a)[i]? = some [.int .u32 z] := by rw [hz]; exact iint_at _ a i hi'
    refine awp_cond rfl (fun _ => ?_) (fun h => by simp [hi'] at h)
    repeat (first | (with_reducible first | refine awp_seqK fun K hK => ?_ | refine awp_block ?_) | ((with_reducible first | refine awp_region (by kernel_rfl) ?_ | refine gcall_tt ?_ | refine gcall_ff ?_ | refine gcall_tf ?_ | refine gcall_ft ?_ | refine awp_skip ?_ | refine awp_exit ?_); simp) | ((repeat ((fail_if_success ((with_reducible refine hK _ ?_))); clear hK)); (with_reducible refine hK _ ?_); clear hK) | refine And.intro (by first | omega | assumption | grind) ?_)
    refine awp_planI ([0, 1, 2, 3, 4, 5, 6, 7, 8] : List Nat) ([[], [], [0, 1], [0, 1, 2], [], [], [4, 5], [4, 5, 6], [0, 1, 2, 3, 4, 5, 6, 7]] : List (List Nat)) ([(8, ([[], [], [0, 1], [0, 1, 2], [], [], [4, 5], [4, 5, 6]], [])), (1, ([], []))] : List (Nat × List (List Nat) × List (Nat × Nat))) (by kernel_rfl) (by kernel_rfl) (by kernel_rfl) ?_
    repeat (first | (with_reducible first | refine awp_seqK fun K hK => ?_ | refine awp_block ?_) | ((with_reducible first | refine awp_region (by kernel_rfl) ?_ | refine gcall_tt ?_ | refine gcall_ff ?_ | refine gcall_tf ?_ | refine gcall_ft ?_ | refine gcallE_tt ?_ | refine gcallE_ff ?_ | refine gcallE_tf ?_ | refine gcallE_ft ?_ | refine awp_skip ?_ | refine awp_exit ?_); simp [hget, hil]) | ((repeat ((fail_if_success ((with_reducible first | refine hK _ ?_ | refine hK _ _ _ _ ?_))); clear hK)); (with_reducible first | refine hK _ ?_ | refine hK _ _ _ _ ?_); clear hK) | (with_reducible refine segs_one fun K hK => ?_; simp [hget, hil]) | (with_reducible refine segs_nil ?_; try simp only [thn, blk]) | (with_reducible refine segs_two fun K hK => ?_; simp only [List.take_succ_cons, List.take_zero]) | (with_reducible refine draw_step fun K hK => ?_; simp [hget, hil]) | (with_reducible refine draw_end ?_) | (with_reducible refine rechk_nil ?_; simp only [List.drop_succ_cons, List.drop_zero]; simp only [stS, eT, eO, List.cons_append, List.nil_append, cond_true, cond_false, Bool.and_true, Bool.and_false, Bool.true_and, Bool.false_and]) | (with_reducible refine rechk_cons ?_ ?_; (· (simp [hget, hil] <;> first | omega | grind))) | refine And.intro (by first | omega | assumption | grind) ?_)
    refine awp_cond rfl (fun h => by simp at h) (fun _ => ?_)
    repeat (first | (with_reducible first | refine awp_seqK fun K hK => ?_ | refine awp_block ?_) | ((with_reducible first | refine awp_region (by kernel_rfl) ?_ | refine gcall_tt ?_ | refine gcall_ff ?_ | refine gcall_tf ?_ | refine gcall_ft ?_ | refine gcallE_tt ?_ | refine gcallE_ff ?_ | refine gcallE_tf ?_ | refine gcallE_ft ?_ | refine awp_skip ?_ | refine awp_exit ?_); simp) | ((repeat ((fail_if_success ((with_reducible first | refine hK _ ?_ | refine hK _ _ _ _ ?_))); clear hK)); (with_reducible first | refine hK _ ?_ | refine hK _ _ _ _ ?_); clear hK) | (with_reducible refine segs_one fun K hK => ?_; simp) | (with_reducible refine segs_nil ?_; try simp only [thn, blk]) | (with_reducible refine segs_two fun K hK => ?_; simp only [List.take_succ_cons, List.take_zero]) | (with_reducible refine draw_step fun K hK => ?_; simp) | (with_reducible refine draw_end ?_) | (with_reducible refine rechk_nil ?_; simp only [List.drop_succ_cons, List.drop_zero]; simp only [stS, eT, eO, List.cons_append, List.nil_append, cond_true, cond_false, Bool.and_true, Bool.and_false, Bool.true_and, Bool.false_and]) | (with_reducible refine rechk_cons ?_ ?_; (· (simp <;> first | omega | grind))) | refine And.intro (by first | omega | assumption | grind) ?_)
    refine again_of (a.length - (i + 1)) ((fun (i : Nat)  => (⟨26, [(5, .int .i64 i), (0, .sl 1 false (ints .u32 a)), (1, .sl 1 false (ints .u32 a))], 0, [], 0⟩ : St)) (i + 1) ) (id) (by omega) (by rw [hI]; exact ⟨i + 1, by omega, rfl, trivial, rfl⟩) ⟨rfl, ?_, ?_, ?_, by simp⟩
    · simp [leT, ltV, lt1, ren, ren1, wrap_i64_in (n := (i : Int) + 1) (by omega) (by omega), hw]
    · simp [leO, lt1, ren1, hw]
    · (simp; try omega)
  · have : i = a.length := by omega
    subst this
    refine awp_cond rfl (fun h => by simp at h) (fun _ => ?_)
    repeat (first | (with_reducible first | refine awp_seqK fun K hK => ?_ | refine awp_block ?_) | ((with_reducible first | refine awp_region (by kernel_rfl) ?_ | refine gcall_tt ?_ | refine gcall_ff ?_ | refine gcall_tf ?_ | refine gcall_ft ?_ | refine gcallE_tt ?_ | refine gcallE_ff ?_ | refine gcallE_tf ?_ | refine gcallE_ft ?_ | refine awp_skip ?_ | refine awp_exit ?_); simp) | ((repeat ((fail_if_success ((with_reducible first | refine hK _ ?_ | refine hK _ _ _ _ ?_))); clear hK)); (with_reducible first | refine hK _ ?_ | refine hK _ _ _ _ ?_); clear hK) | (with_reducible refine segs_one fun K hK => ?_; simp) | (with_reducible refine segs_nil ?_; try simp only [thn, blk]) | (with_reducible refine segs_two fun K hK => ?_; simp only [List.take_succ_cons, List.take_zero]) | (with_reducible refine draw_step fun K hK => ?_; simp) | (with_reducible refine draw_end ?_) | (with_reducible refine rechk_nil ?_; simp only [List.drop_succ_cons, List.drop_zero]; simp only [stS, eT, eO, List.cons_append, List.nil_append, cond_true, cond_false, Bool.and_true, Bool.and_false, Bool.true_and, Bool.false_and]) | (with_reducible refine rechk_cons ?_ ?_; (· (simp <;> first | omega | grind))) | refine And.intro (by first | omega | assumption | grind) ?_)
    refine awp_ret ?_
    simp
theorem asm_err {s : Str} {e : Int × Int} (h : asmD s = .error e) : ¬ e.1 = 0 := by
  unfold asmD at h
  split at h
  · rename_i e' hp
    simp only [Except.error.injEq] at h
    subst h
    have := parse_err hp
    omega
  · have := enc_err h
    omega
theorem enc_bound {S : List (Str × Int)} : ∀ {L : List LineD} {out r : List Int}, (∀ l ∈ L, okLine l) → encAll S L out = .ok r → r.length ≤ out.length + 1024 * L.length
  | [], out, r, _, h => by simp only [encAll, Except.ok.injEq] at h; subst h; simp
  | l :: L, out, r, hL, h => by
    simp only [encAll] at h
    cases hx : valL S l with
    | none => rw [hx] at h; cases h
    | some x =>
      rw [hx] at h
      simp only at h
      cases hw : codeL l x with
      | none => rw [hw] at h; cases h
      | some w =>
        rw [hw] at h
        simp only at h
        have h1 := enc_bound (fun y hy => hL y (List.mem_cons_of_mem _ hy)) h
        have h2 := code_len (hL l (List.mem_cons_self ..)) hw
        simp only [List.length_append, List.length_cons] at h1 ⊢
        omega
theorem asm_bound {s : Str} {x : List Int} (h : asmD s = .ok x) : x.length ≤ 10000000 := by
  unfold asmD at h
  split at h
  · cases h
  · rename_i p hp
    obtain ⟨h1, h2, _⟩ := parse_good hp
    have := enc_bound (fun l hl => (h1.1 l hl).1.1) h
    simp only [List.length_nil] at this
    omega
theorem ints_take (k : IntKind) (x y : List Int) : (ints k (x ++ y)).take x.length = ints k x := by simp [ints]
theorem ints_drop (k : IntKind) (x y : List Int) : (ints k (x ++ y)).drop x.length = ints k y := by simp [ints]
set_option maxHeartbeats 16000000 in
theorem joins_ok (l ws : List Int) (hin : inW ws) : Meets Tryd.prog 11 [.sl 1 false (ints .i64 l), .sl 1 false (ints .u32 ws)] (.bool true) := by
  have hil := ints_len .i64 l
  have hiw := ints_len .u32 ws
  refine Meets.of Tryd.func11 rfl (by kernel_rfl) rfl ?_
  simp only [Tryd.ntmps11, St.start, argT]
  repeat (first | (with_reducible first | refine awp_seqK fun K hK => ?_ | refine awp_block ?_) | ((with_reducible first | refine awp_region (by kernel_rfl) ?_ | refine gcall_tt ?_ | refine gcall_ff ?_ | refine gcall_tf ?_ | refine gcall_ft ?_ | refine awp_skip ?_ | refine awp_exit ?_); simp [hil, hiw]) | ((repeat ((fail_if_success ((with_reducible refine hK _ ?_))); clear hK)); (with_reducible refine hK _ ?_); clear hK) | refine And.intro (by first | omega | assumption | grind) ?_)
  refine awp_cond rfl (fun h => ?_) (fun h => ?_)
  · repeat (first | (with_reducible first | refine awp_seqK fun K hK => ?_ | refine awp_block ?_) | ((with_reducible first | refine awp_region (by kernel_rfl) ?_ | refine gcall_tt ?_ | refine gcall_ff ?_ | refine gcall_tf ?_ | refine gcall_ft ?_ | refine awp_skip ?_ | refine awp_exit ?_); simp) | ((repeat ((fail_if_success ((with_reducible refine hK _ ?_))); clear hK)); (with_reducible refine hK _ ?_); clear hK) | refine And.intro (by first | omega | assumption | grind) ?_)
    first | refine .inl ⟨0, _, awake23_ok, ?_⟩ | refine .inl ⟨0, _, Meets.wk (awake23_ok) (by simp), ?_⟩ | refine ⟨0, _, awake23_ok, ?_⟩ | refine ⟨0, _, Meets.wk (awake23_ok) (by simp), ?_⟩
    simp [aftC, aftE]
    repeat (first | (with_reducible first | refine awp_seqK fun K hK => ?_ | refine awp_block ?_) | ((with_reducible first | refine awp_region (by kernel_rfl) ?_ | refine gcall_tt ?_ | refine gcall_ff ?_ | refine gcall_tf ?_ | refine gcall_ft ?_ | refine awp_skip ?_ | refine awp_exit ?_); simp) | ((repeat ((fail_if_success ((with_reducible refine hK _ ?_))); clear hK)); (with_reducible refine hK _ ?_); clear hK) | refine And.intro (by first | omega | assumption | grind) ?_)
    refine awp_ret ?_
    simp
  · have hb : l.length ≤ 30 ∧ ws.length ≤ 60 := by simp at h; omega
    obtain ⟨h30, h60⟩ := hb
    repeat (first | (with_reducible first | refine awp_seqK fun K hK => ?_ | refine awp_block ?_) | ((with_reducible first | refine awp_region (by kernel_rfl) ?_ | refine gcall_tt ?_ | refine gcall_ff ?_ | refine gcall_tf ?_ | refine gcall_ft ?_ | refine awp_skip ?_ | refine awp_exit ?_); simp) | ((repeat ((fail_if_success ((with_reducible refine hK _ ?_))); clear hK)); (with_reducible refine hK _ ?_); clear hK) | refine And.intro (by first | omega | assumption | grind) ?_)
    first | refine .inl ⟨0, _, source_ok l (by omega), ?_⟩ | refine .inl ⟨0, _, Meets.wk (source_ok l (by omega)) (by simp), ?_⟩ | refine ⟨0, _, source_ok l (by omega), ?_⟩ | refine ⟨0, _, Meets.wk (source_ok l (by omega)) (by simp), ?_⟩
    simp [aftC, aftE]
    repeat (first | (with_reducible first | refine awp_seqK fun K hK => ?_ | refine awp_block ?_) | ((with_reducible first | refine awp_region (by kernel_rfl) ?_ | refine gcall_tt ?_ | refine gcall_ff ?_ | refine gcall_tf ?_ | refine gcall_ft ?_ | refine awp_skip ?_ | refine awp_exit ?_); simp) | ((repeat ((fail_if_success ((with_reducible refine hK _ ?_))); clear hK)); (with_reducible refine hK _ ?_); clear hK) | refine And.intro (by first | omega | assumption | grind) ?_)
    have hsa := source_ascii l
    have hsl := source_len l
    have hs1 := assemble_ok (sourceD l) hsa (by omega)
    cases he : asmD (sourceD l) with
    | error e =>
      have hne := asm_err he
      have v1 : asmV (sourceD l) = .tup [.sl 1 true [], errV e] := by unfold asmV; rw [he]
      rw [v1] at hs1
      first | refine .inl ⟨0, _, hs1, ?_⟩ | refine .inl ⟨0, _, Meets.wk (hs1) (by simp), ?_⟩ | refine ⟨0, _, hs1, ?_⟩ | refine ⟨0, _, Meets.wk (hs1) (by simp), ?_⟩
      simp [aftC, aftE]
      repeat (first | (with_reducible first | refine awp_seqK fun K hK => ?_ | refine awp_block ?_) | ((with_reducible first | refine awp_region (by kernel_rfl) ?_ | refine gcall_tt ?_ | refine gcall_ff ?_ | refine gcall_tf ?_ | refine gcall_ft ?_ | refine awp_skip ?_ | refine awp_exit ?_); simp) | ((repeat ((fail_if_success ((with_reducible refine hK _ ?_))); clear hK)); (with_reducible refine hK _ ?_); clear hK) | refine And.intro (by first | omega | assumption | grind) ?_)
      refine awp_cond rfl (fun _ => ?_) (fun h => by simp [hne] at h)
      repeat (first | (with_reducible first | refine awp_seqK fun K hK => ?_ | refine awp_block ?_) | ((with_reducible first | refine awp_region (by kernel_rfl) ?_ | refine gcall_tt ?_ | refine gcall_ff ?_ | refine gcall_tf ?_ | refine gcall_ft ?_ | refine awp_skip ?_ | refine awp_exit ?_); simp) | ((repeat ((fail_if_success ((with_reducible refine hK _ ?_))); clear hK)); (with_reducible refine hK _ ?_); clear hK) | refine And.intro (by first | omega | assumption | grind) ?_)
      first | refine .inl ⟨0, _, awake23_ok, ?_⟩ | refine .inl ⟨0, _, Meets.wk (awake23_ok) (by simp), ?_⟩ | refine ⟨0, _, awake23_ok, ?_⟩ | refine ⟨0, _, Meets.wk (awake23_ok) (by simp), ?_⟩
      simp [aftC, aftE]
      repeat (first | (with_reducible first | refine awp_seqK fun K hK => ?_ | refine awp_block ?_) | ((with_reducible first | refine awp_region (by kernel_rfl) ?_ | refine gcall_tt ?_ | refine gcall_ff ?_ | refine gcall_tf ?_ | refine gcall_ft ?_ | refine awp_skip ?_ | refine awp_exit ?_); simp) | ((repeat ((fail_if_success ((with_reducible refine hK _ ?_))); clear hK)); (with_reducible refine hK _ ?_); clear hK) | refine And.intro (by first | omega | assumption | grind) ?_)
      refine awp_ret ?_
      simp
    | ok x =>
      have hj := joins_law l ws x h30 h60 hin he
      have v1 : asmV (sourceD l) = .tup [.sl 1 false (ints .u32 x), errV (0, 0)] := by unfold asmV; rw [he]
      have v2 : asmV (sourceD l ++ disS ws) = .tup [.sl 1 false (ints .u32 (x ++ ws)), errV (0, 0)] := by unfold asmV; rw [hj]
      have hda := dis_ascii ws hin
      have hdl := dis_len ws
      have hs2 := assemble_ok (sourceD l ++ disS ws) (fun b hb => (List.mem_append.1 hb).elim (hsa b) (hda b)) (by rw [List.length_append]; omega)
      rw [v1] at hs1
      rw [v2] at hs2
      have hxb := asm_bound he
      have hwx : IntKind.i64.wrap ((x.length : Int) + ws.length) = (x.length : Int) + ws.length := wrap_i64_in (by omega) (by omega)
      have htk := ints_take .u32 x ws
      have hdp := ints_drop .u32 x ws
      have hix := ints_len .u32 x
      have hixw := ints_len .u32 (x ++ ws)
      first | refine .inl ⟨0, _, hs1, ?_⟩ | refine .inl ⟨0, _, Meets.wk (hs1) (by simp), ?_⟩ | refine ⟨0, _, hs1, ?_⟩ | refine ⟨0, _, Meets.wk (hs1) (by simp), ?_⟩
      simp [aftC, aftE]
      repeat (first | (with_reducible first | refine awp_seqK fun K hK => ?_ | refine awp_block ?_) | ((with_reducible first | refine awp_region (by kernel_rfl) ?_ | refine gcall_tt ?_ | refine gcall_ff ?_ | refine gcall_tf ?_ | refine gcall_ft ?_ | refine awp_skip ?_ | refine awp_exit ?_); simp) | ((repeat ((fail_if_success ((with_reducible refine hK _ ?_))); clear hK)); (with_reducible refine hK _ ?_); clear hK) | refine And.intro (by first | omega | assumption | grind) ?_)
      refine awp_cond rfl (fun h => by simp at h) (fun _ => ?_)
      repeat (first | (with_reducible first | refine awp_seqK fun K hK => ?_ | refine awp_block ?_) | ((with_reducible first | refine awp_region (by kernel_rfl) ?_ | refine gcall_tt ?_ | refine gcall_ff ?_ | refine gcall_tf ?_ | refine gcall_ft ?_ | refine awp_skip ?_ | refine awp_exit ?_); simp) | ((repeat ((fail_if_success ((with_reducible refine hK _ ?_))); clear hK)); (with_reducible refine hK _ ?_); clear hK) | refine And.intro (by first | omega | assumption | grind) ?_)
      first | refine .inl ⟨0, _, dis_ok ws hin (by omega), ?_⟩ | refine .inl ⟨0, _, Meets.wk (dis_ok ws hin (by omega)) (by simp), ?_⟩ | refine ⟨0, _, dis_ok ws hin (by omega), ?_⟩ | refine ⟨0, _, Meets.wk (dis_ok ws hin (by omega)) (by simp), ?_⟩
      simp [aftC, aftE]
      repeat (first | (with_reducible first | refine awp_seqK fun K hK => ?_ | refine awp_block ?_) | ((with_reducible first | refine awp_region (by kernel_rfl) ?_ | refine gcall_tt ?_ | refine gcall_ff ?_ | refine gcall_tf ?_ | refine gcall_ft ?_ | refine awp_skip ?_ | refine awp_exit ?_); simp) | ((repeat ((fail_if_success ((with_reducible refine hK _ ?_))); clear hK)); (with_reducible refine hK _ ?_); clear hK) | refine And.intro (by first | omega | assumption | grind) ?_)
      first | refine .inl ⟨0, _, hs2, ?_⟩ | refine .inl ⟨0, _, Meets.wk (hs2) (by simp), ?_⟩ | refine ⟨0, _, hs2, ?_⟩ | refine ⟨0, _, Meets.wk (hs2) (by simp), ?_⟩
      simp [aftC, aftE]
      repeat (first | (with_reducible first | refine awp_seqK fun K hK => ?_ | refine awp_block ?_) | ((with_reducible first | refine awp_region (by kernel_rfl) ?_ | refine gcall_tt ?_ | refine gcall_ff ?_ | refine gcall_tf ?_ | refine gcall_ft ?_ | refine awp_skip ?_ | refine awp_exit ?_); simp [hix, hixw, hiw, hwx, htk, hdp]) | ((repeat ((fail_if_success ((with_reducible refine hK _ ?_))); clear hK)); (with_reducible refine hK _ ?_); clear hK) | refine And.intro (by first | omega | assumption | grind) ?_)
      first | refine .inl ⟨0, _, sameW_ok x (by omega), ?_⟩ | refine .inl ⟨0, _, Meets.wk (sameW_ok x (by omega)) (by simp), ?_⟩ | refine ⟨0, _, sameW_ok x (by omega), ?_⟩ | refine ⟨0, _, Meets.wk (sameW_ok x (by omega)) (by simp), ?_⟩
      simp [aftC, aftE]
      repeat (first | (with_reducible first | refine awp_seqK fun K hK => ?_ | refine awp_block ?_) | ((with_reducible first | refine awp_region (by kernel_rfl) ?_ | refine gcall_tt ?_ | refine gcall_ff ?_ | refine gcall_tf ?_ | refine gcall_ft ?_ | refine awp_skip ?_ | refine awp_exit ?_); simp [hix, hixw, hiw, hwx, htk, hdp]) | ((repeat ((fail_if_success ((with_reducible refine hK _ ?_))); clear hK)); (with_reducible refine hK _ ?_); clear hK) | refine And.intro (by first | omega | assumption | grind) ?_)
      first | refine .inl ⟨0, _, sameW_ok ws (by omega), ?_⟩ | refine .inl ⟨0, _, Meets.wk (sameW_ok ws (by omega)) (by simp), ?_⟩ | refine ⟨0, _, sameW_ok ws (by omega), ?_⟩ | refine ⟨0, _, Meets.wk (sameW_ok ws (by omega)) (by simp), ?_⟩
      simp [aftC, aftE]
      repeat (first | (with_reducible first | refine awp_seqK fun K hK => ?_ | refine awp_block ?_) | ((with_reducible first | refine awp_region (by kernel_rfl) ?_ | refine gcall_tt ?_ | refine gcall_ff ?_ | refine gcall_tf ?_ | refine gcall_ft ?_ | refine awp_skip ?_ | refine awp_exit ?_); simp) | ((repeat ((fail_if_success ((with_reducible refine hK _ ?_))); clear hK)); (with_reducible refine hK _ ?_); clear hK) | refine And.intro (by first | omega | assumption | grind) ?_)
      first | refine .inl ⟨0, _, awake23_ok, ?_⟩ | refine .inl ⟨0, _, Meets.wk (awake23_ok) (by simp), ?_⟩ | refine ⟨0, _, awake23_ok, ?_⟩ | refine ⟨0, _, Meets.wk (awake23_ok) (by simp), ?_⟩
      simp [aftC, aftE]
      repeat (first | (with_reducible first | refine awp_seqK fun K hK => ?_ | refine awp_block ?_) | ((with_reducible first | refine awp_region (by kernel_rfl) ?_ | refine gcall_tt ?_ | refine gcall_ff ?_ | refine gcall_tf ?_ | refine gcall_ft ?_ | refine awp_skip ?_ | refine awp_exit ?_); simp) | ((repeat ((fail_if_success ((with_reducible refine hK _ ?_))); clear hK)); (with_reducible refine hK _ ?_); clear hK) | refine And.intro (by first | omega | assumption | grind) ?_)
      refine awp_ret ?_
      simp
theorem joins_row (l ws : List Int) (hr : ∀ n ∈ ws, 0 ≤ n ∧ n ≤ 4294967295) : Meets Tryd.prog 11 [.sl 1 false (ints .i64 l), .sl 1 false (ints .u32 ws)] (.bool true) :=
  joins_ok l ws fun w hw => by have := hr w hw; omega
end Go.Proofs.YtjlbpkokdlggiaaDoor
