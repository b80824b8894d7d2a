/- The law AsmBack, walked. (Numbers of seat r2.ZD.) -/
import Derived.Test.YtjlbpkokdlggiaaGreatDoorDis
import Derived.Test.YtjlbpkokdlggiaaGreatDoorDisR
import Derived.Test.YtjlbpkokdlggiaaGreatDoorMk
namespace Go.Proofs.YtjlbpkokdlggiaaGreatDoor
open Go.Ab Go.RowKit
set_option linter.unusedSimpArgs false
set_option maxRecDepth 100000
set_option maxHeartbeats 8000000 in
theorem sameW_ok (a : List Int) (hl : a.length ≤ 1000000000) : Meets Tryz.prog 13 [.sl 1 false (ints .u32 a), .sl 1 false (ints .u32 a)] (.bool true) := by
  have hil := ints_len .u32 a
  refine Meets.of Tryz.func13 rfl (by kernel_rfl) rfl ?_
  simp only [Tryz.ntmps13, St.start, argT]
  repeat (first | (with_reducible first | refine awp_seqK fun K hK => ?_ | refine awp_block ?_) | ((with_reducible first | refine awp_region (by kernel_rfl) ?_ | refine gcall_tt ?_ | refine gcall_ff ?_ | refine gcall_tf ?_ | refine gcall_ft ?_ | refine awp_skip ?_ | refine awp_exit ?_); simp [hil]) | ((repeat ((fail_if_success ((with_reducible refine hK _ ?_))); clear hK)); (with_reducible refine hK _ ?_); clear hK) | refine And.intro (by first | omega | assumption | grind) ?_)
  refine awp_cond rfl (fun h => by simp at h) (fun _ => ?_)
  repeat (first | (with_reducible first | refine awp_seqK fun K hK => ?_ | refine awp_block ?_) | ((with_reducible first | refine awp_region (by kernel_rfl) ?_ | refine gcall_tt ?_ | refine gcall_ff ?_ | refine gcall_tf ?_ | refine gcall_ft ?_ | refine awp_skip ?_ | refine awp_exit ?_); simp) | ((repeat ((fail_if_success ((with_reducible refine hK _ ?_))); clear hK)); (with_reducible refine hK _ ?_); clear hK) | refine And.intro (by first | omega | assumption | grind) ?_)
  obtain ⟨I, hI⟩ : ∃ I : Nat → St → Prop, I = (fun kk ss => ∃ (i : Nat) , i ≤ a.length ∧ kk = a.length - i ∧ (True) ∧ ss = ⟨26, [(5, .int .i64 i), (0, .sl 1 false (ints .u32 a)), (1, .sl 1 false (ints .u32 a))], 0, [], 0⟩) := ⟨_, rfl⟩
  refine awp_loopA I (k0 := a.length) (st0 := (fun (i : Nat)  => (⟨26, [(5, .int .i64 i), (0, .sl 1 false (ints .u32 a)), (1, .sl 1 false (ints .u32 a))], 0, [], 0⟩ : St)) 0 ) (ρ0 := id) ⟨rfl, by simp [leT, ltV, lt1, ren, ren1], by simp [leO, lt1, ren1], by simp, by simp⟩ (by rw [hI]; exact ⟨0, by simp, by simp, trivial, rfl⟩) ?_
  intro kk ss hIk _
  rw [hI] at hIk
  obtain ⟨i, hi, rfl, hx, rfl⟩ := hIk
  have hw : IntKind.i64.wrap ((i : Int) + 1) = ((i + 1 : Nat) : Int) := by rw [wrap_i64_in (by omega) (by omega)]; omega
  repeat (first | (with_reducible first | refine awp_seqK fun K hK => ?_ | refine awp_block ?_) | ((with_reducible first | refine awp_region (by kernel_rfl) ?_ | refine gcall_tt ?_ | refine gcall_ff ?_ | refine gcall_tf ?_ | refine gcall_ft ?_ | refine awp_skip ?_ | refine awp_exit ?_); simp [hil]) | ((repeat ((fail_if_success ((with_reducible refine hK _ ?_))); clear hK)); (with_reducible refine hK _ ?_); clear hK) | refine And.intro (by first | omega | assumption | grind) ?_)
  by_cases hi' : i < a.length
  · obtain ⟨z, hz⟩ : ∃ z, z = a[i] := ⟨_, rfl⟩
    have hget : (ints .u32 a)[i]? = some [.int .u32 z] := by rw [hz]; exact iint_at _ a i hi'
    refine awp_cond rfl (fun _ => ?_) (fun h => by simp [hi'] at h)
    repeat (first | (with_reducible first | refine awp_seqK fun K hK => ?_ | refine awp_block ?_) | ((with_reducible first | refine awp_region (by kernel_rfl) ?_ | refine gcall_tt ?_ | refine gcall_ff ?_ | refine gcall_tf ?_ | refine gcall_ft ?_ | refine awp_skip ?_ | refine awp_exit ?_); simp) | ((repeat ((fail_if_success ((with_reducible refine hK _ ?_))); clear hK)); (with_reducible refine hK _ ?_); clear hK) | refine And.intro (by first | omega | assumption | grind) ?_)
    refine awp_planI ([0, 1, 2, 3, 4, 5, 6, 7, 8] : List Nat) ([[], [], [0, 1], [0, 1, 2], [], [], [4, 5], [4, 5, 6], [0, 1, 2, 3, 4, 5, 6, 7]] : List (List Nat)) ([(8, ([[], [], [0, 1], [0, 1, 2], [], [], [4, 5], [4, 5, 6]], [])), (1, ([], []))] : List (Nat × List (List Nat) × List (Nat × Nat))) (by kernel_rfl) (by kernel_rfl) (by kernel_rfl) ?_
    repeat (first | (with_reducible first | refine awp_seqK fun K hK => ?_ | refine awp_block ?_) | ((with_reducible first | refine awp_region (by kernel_rfl) ?_ | refine gcall_tt ?_ | refine gcall_ff ?_ | refine gcall_tf ?_ | refine gcall_ft ?_ | refine gcallE_tt ?_ | refine gcallE_ff ?_ | refine gcallE_tf ?_ | refine gcallE_ft ?_ | refine awp_skip ?_ | refine awp_exit ?_); simp [hget, hil]) | ((repeat ((fail_if_success ((with_reducible first | refine hK _ ?_ | refine hK _ _ _ _ ?_))); clear hK)); (with_reducible first | refine hK _ ?_ | refine hK _ _ _ _ ?_); clear hK) | (with_reducible refine segs_one fun K hK => ?_; simp [hget, hil]) | (with_reducible refine segs_nil ?_; try simp only [thn, blk]) | (with_reducible refine segs_two fun K hK => ?_; simp only [List.take_succ_cons, List.take_zero]) | (with_reducible refine draw_step fun K hK => ?_; simp [hget, hil]) | (with_reducible refine draw_end ?_) | (with_reducible refine rechk_nil ?_; simp only [List.drop_succ_cons, List.drop_zero]; simp only [stS, eT, eO, List.cons_append, List.nil_append, cond_true, cond_false, Bool.and_true, Bool.and_false, Bool.true_and, Bool.false_and]) | (with_reducible refine rechk_cons ?_ ?_; (· (simp [hget, hil] <;> first | omega | grind))) | refine And.intro (by first | omega | assumption | grind) ?_)
    refine awp_cond rfl (fun h => by simp at h) (fun _ => ?_)
    repeat (first | (with_reducible first | refine awp_seqK fun K hK => ?_ | refine awp_block ?_) | ((with_reducible first | refine awp_region (by kernel_rfl) ?_ | refine gcall_tt ?_ | refine gcall_ff ?_ | refine gcall_tf ?_ | refine gcall_ft ?_ | refine gcallE_tt ?_ | refine gcallE_ff ?_ | refine gcallE_tf ?_ | refine gcallE_ft ?_ | refine awp_skip ?_ | refine awp_exit ?_); simp) | ((repeat ((fail_if_success ((with_reducible first | refine hK _ ?_ | refine hK _ _ _ _ ?_))); clear hK)); (with_reducible first | refine hK _ ?_ | refine hK _ _ _ _ ?_); clear hK) | (with_reducible refine segs_one fun K hK => ?_; simp) | (with_reducible refine segs_nil ?_; try simp only [thn, blk]) | (with_reducible refine segs_two fun K hK => ?_; simp only [List.take_succ_cons, List.take_zero]) | (with_reducible refine draw_step fun K hK => ?_; simp) | (with_reducible refine draw_end ?_) | (with_reducible refine rechk_nil ?_; simp only [List.drop_succ_cons, List.drop_zero]; simp only [stS, eT, eO, List.cons_append, List.nil_append, cond_true, cond_false, Bool.and_true, Bool.and_false, Bool.true_and, Bool.false_and]) | (with_reducible refine rechk_cons ?_ ?_; (· (simp <;> first | omega | grind))) | refine And.intro (by first | omega | assumption | grind) ?_)
    refine again_of (a.length - (i + 1)) ((fun (i : Nat)  => (⟨26, [(5, .int .i64 i), (0, .sl 1 false (ints .u32 a)), (1, .sl 1 false (ints .u32 a))], 0, [], 0⟩ : St)) (i + 1) ) (id) (by omega) (by rw [hI]; exact ⟨i + 1, by omega, rfl, trivial, rfl⟩) ⟨rfl, ?_, ?_, ?_, by simp⟩
    · simp [leT, ltV, lt1, ren, ren1, wrap_i64_in (n := (i : Int) + 1) (by omega) (by omega), hw]
    · simp [leO, lt1, ren1, hw]
    · (simp; try omega)
  · have : i = a.length := by omega
    subst this
    refine awp_cond rfl (fun h => by simp at h) (fun _ => ?_)
    repeat (first | (with_reducible first | refine awp_seqK fun K hK => ?_ | refine awp_block ?_) | ((with_reducible first | refine awp_region (by kernel_rfl) ?_ | refine gcall_tt ?_ | refine gcall_ff ?_ | refine gcall_tf ?_ | refine gcall_ft ?_ | refine gcallE_tt ?_ | refine gcallE_ff ?_ | refine gcallE_tf ?_ | refine gcallE_ft ?_ | refine awp_skip ?_ | refine awp_exit ?_); simp) | ((repeat ((fail_if_success ((with_reducible first | refine hK _ ?_ | refine hK _ _ _ _ ?_))); clear hK)); (with_reducible first | refine hK _ ?_ | refine hK _ _ _ _ ?_); clear hK) | (with_reducible refine segs_one fun K hK => ?_; simp) | (with_reducible refine segs_nil ?_; try simp only [thn, blk]) | (with_reducible refine segs_two fun K hK => ?_; simp only [List.take_succ_cons, List.take_zero]) | (with_reducible refine draw_step fun K hK => ?_; simp) | (with_reducible refine draw_end ?_) | (with_reducible refine rechk_nil ?_; simp only [List.drop_succ_cons, List.drop_zero]; simp only [stS, eT, eO, List.cons_append, List.nil_append, cond_true, cond_false, Bool.and_true, Bool.and_false, Bool.true_and, Bool.false_and]) | (with_reducible refine rechk_cons ?_ ?_; (· (simp <;> first | omega | grind))) | refine And.intro (by first | omega | assumption | grind) ?_)
    refine awp_ret ?_
    simp
theorem dis_asm (ws : List Int) (hw : ws.length ≤ 100) (hin : inW ws) : asmD (disS ws) = .ok ws := by
  have hl := dis_len ws
  obtain ⟨T, hT, hB⟩ := dis_lines ws hin
  obtain ⟨L, h3, h4⟩ := blk_add hB ⟨[], [], 0⟩ 1 (by simp only; omega)
  unfold asmD parseD
  rw [if_neg (by omega), hT, h3]
  simp only [List.nil_append]
  rw [h4]
  simp
set_option maxHeartbeats 16000000 in
theorem code_ex (l : List Int) (hl : l.length ≤ 17592186044416) : ∃ ws, inW ws ∧ ws.length = l.length ∧ Meets Tryz.prog 9 [.sl 1 false (ints .i64 l)] (.new 38 1 (ints .u32 ws)) := by
  have hil := ints_len .i64 l
  let e : Int → Int := fun z => if z.tmod 17 = 0 then IntKind.u32.wrap (IntKind.i64.wrap ((z % 2 ^ IntKind.i64.bits).toNat &&& 4294967295 % 2 ^ IntKind.i64.bits : Nat)) else encW (instA z)
  have he : ∀ z, 0 ≤ e z ∧ e z < 4294967296 := fun z => by
    simp only [e]
    split
    · rw [IntKind.wrap_u32]; omega
    · obtain ⟨f1, f2, f3, f4, f5, f6⟩ := valid_facts (instA_valid z)
      unfold encW; omega
  refine ⟨l.map e, fun w hw => ?_, by simp, ?_⟩
  · obtain ⟨z, _, rfl⟩ := List.mem_map.1 hw
    exact he z
  refine Meets.of Tryz.func9 rfl (by kernel_rfl) rfl ?_
  simp only [Tryz.ntmps9, St.start, argT]
  repeat (first | (with_reducible first | refine awp_seqK fun K hK => ?_ | refine awp_block ?_) | ((with_reducible first | refine awp_region (by kernel_rfl) ?_ | refine gcall_tt ?_ | refine gcall_ff ?_ | refine gcall_tf ?_ | refine gcall_ft ?_ | refine awp_skip ?_ | refine awp_exit ?_); simp [hil]) | ((repeat ((fail_if_success ((with_reducible refine hK _ ?_))); clear hK)); (with_reducible refine hK _ ?_); clear hK) | refine And.intro (by first | omega | assumption | grind) ?_)
  refine awp_nilOwn 3 38 1 (by decide) rfl ?_
  obtain ⟨I, hI⟩ : ∃ I : Nat → St → Prop, I = (fun kk ss => ∃ (i : Nat) (ws : List Int), i ≤ l.length ∧ kk = l.length - i ∧ (ws = (l.take i).map e) ∧ ss = ⟨42, [(4, .int .i64 i), (3, .own 0), (0, .sl 1 false (ints .i64 l))], 1, [(0, some ⟨38, 1, false, false, ints .u32 ws⟩)], 0⟩) := ⟨_, rfl⟩
  refine awp_loopA I (k0 := l.length) (st0 := (fun (i : Nat) (ws : List Int) => (⟨42, [(4, .int .i64 i), (3, .own 0), (0, .sl 1 false (ints .i64 l))], 1, [(0, some ⟨38, 1, false, false, ints .u32 ws⟩)], 0⟩ : St)) 0 []) (ρ0 := id) ⟨rfl, by simp [leT, ltV, lt1, ren, ren1], by simp [leO, lt1, ren1], by simp, by simp⟩ (by rw [hI]; exact ⟨0, [], by simp, by simp, rfl, rfl⟩) ?_
  intro kk ss hIk _
  rw [hI] at hIk
  obtain ⟨i, ws, hi, rfl, hx, rfl⟩ := hIk
  have hw : IntKind.i64.wrap ((i : Int) + 1) = ((i + 1 : Nat) : Int) := by rw [wrap_i64_in (by omega) (by omega)]; omega
  have hwl : ws.length = i := by rw [hx]; simp; omega
  have hel := ints_len .u32 ws
  repeat (first | (with_reducible first | refine awp_seqK fun K hK => ?_ | refine awp_block ?_) | ((with_reducible first | refine awp_region (by kernel_rfl) ?_ | refine gcall_tt ?_ | refine gcall_ff ?_ | refine gcall_tf ?_ | refine gcall_ft ?_ | refine awp_skip ?_ | refine awp_exit ?_); simp [hil]) | ((repeat ((fail_if_success ((with_reducible refine hK _ ?_))); clear hK)); (with_reducible refine hK _ ?_); clear hK) | refine And.intro (by first | omega | assumption | grind) ?_)
  by_cases hi' : i < l.length
  · obtain ⟨z, hz⟩ : ∃ z, z = l[i] := ⟨_, rfl⟩
    have hget : (ints .i64 l)[i]? = some [.int .i64 z] := by rw [hz]; exact iint_at _ l i hi'
    have hst : (l.take (i + 1)).map e = ws ++ [e z] := by rw [List.take_succ_eq_append_getElem hi', ← hz, hx]; simp
    have hm1 : (ws.length + 1) * 4 ≤ 140737488355328 := by omega
    have hm2 : ws.length + 1 ≤ maxLen := by simp only [maxLen]; omega
    have hap : ∀ y, ints .u32 ws ++ [[V.int .u32 y]] = ints .u32 (ws ++ [y]) := fun y => by simp [ints]
    refine awp_cond rfl (fun _ => ?_) (fun h => by simp [hi'] at h)
    repeat (first | (with_reducible first | refine awp_seqK fun K hK => ?_ | refine awp_block ?_) | ((with_reducible first | refine awp_region (by kernel_rfl) ?_ | refine gcall_tt ?_ | refine gcall_ff ?_ | refine gcall_tf ?_ | refine gcall_ft ?_ | refine awp_skip ?_ | refine awp_exit ?_); simp [hget, hil]) | ((repeat ((fail_if_success ((with_reducible refine hK _ ?_))); clear hK)); (with_reducible refine hK _ ?_); clear hK) | refine And.intro (by first | omega | assumption | grind) ?_)
    by_cases h17 : z.tmod 17 = 0
    · have hez : e z = IntKind.u32.wrap (IntKind.i64.wrap ((z % 2 ^ IntKind.i64.bits).toNat &&& 4294967295 % 2 ^ IntKind.i64.bits : Nat)) := by simp only [e, if_pos h17]
      refine awp_cond rfl (fun _ => ?_) (fun h => by simp [h17] at h)
      repeat (first | (with_reducible first | refine awp_seqK fun K hK => ?_ | refine awp_block ?_) | ((with_reducible first | refine awp_region (by kernel_rfl) ?_ | refine gcall_tt ?_ | refine gcall_ff ?_ | refine gcall_tf ?_ | refine gcall_ft ?_ | refine awp_skip ?_ | refine awp_exit ?_); simp [-bi64, hget, hil, hel, hm1, hm2, hap]) | ((repeat ((fail_if_success ((with_reducible refine hK _ ?_))); clear hK)); (with_reducible refine hK _ ?_); clear hK) | refine And.intro (by first | omega | assumption | grind) ?_)
      rw [← hez]
      refine again_of (l.length - (i + 1)) ((fun (i : Nat) (ws : List Int) => (⟨42, [(4, .int .i64 i), (3, .own 0), (0, .sl 1 false (ints .i64 l))], 1, [(0, some ⟨38, 1, false, false, ints .u32 ws⟩)], 0⟩ : St)) (i + 1) (ws ++ [e z])) (fun x => if x = 0 then 2 else x) (by omega) (by rw [hI]; exact ⟨i + 1, (ws ++ [e z]), by omega, rfl, hst.symm, rfl⟩) ⟨rfl, ?_, ?_, ?_, by simp⟩
      · simp [leT, ltV, lt1, ren, ren1, wrap_i64_in (n := (i : Int) + 1) (by omega) (by omega), hw]
      · simp [leO, lt1, ren1, hw]
      · (simp; try omega)
    · have hez : e z = encW (instA z) := by simp only [e, if_neg h17]
      have hen := encodeR_ok (instA z) (by
        obtain ⟨f1, f2, f3, f4, f5, f6⟩ := valid_facts (instA_valid z)
        omega)
      rw [instA_valid z, if_pos rfl] at hen
      refine awp_cond rfl (fun h => by simp [h17] at h) (fun _ => ?_)
      repeat (first | (with_reducible first | refine awp_seqK fun K hK => ?_ | refine awp_block ?_) | ((with_reducible first | refine awp_region (by kernel_rfl) ?_ | refine gcall_tt ?_ | refine gcall_ff ?_ | refine gcall_tf ?_ | refine gcall_ft ?_ | refine awp_skip ?_ | refine awp_exit ?_); simp [hget, hil]) | ((repeat ((fail_if_success ((with_reducible refine hK _ ?_))); clear hK)); (with_reducible refine hK _ ?_); clear hK) | refine And.intro (by first | omega | assumption | grind) ?_)
      first | refine .inl ⟨0, _, inst_ok z, ?_⟩ | refine .inl ⟨0, _, Meets.wk (inst_ok z) (by simp), ?_⟩ | refine ⟨0, _, inst_ok z, ?_⟩ | refine ⟨0, _, Meets.wk (inst_ok z) (by simp), ?_⟩
      simp [aftC, aftE]
      repeat (first | (with_reducible first | refine awp_seqK fun K hK => ?_ | refine awp_block ?_) | ((with_reducible first | refine awp_region (by kernel_rfl) ?_ | refine gcall_tt ?_ | refine gcall_ff ?_ | refine gcall_tf ?_ | refine gcall_ft ?_ | refine awp_skip ?_ | refine awp_exit ?_); simp) | ((repeat ((fail_if_success ((with_reducible refine hK _ ?_))); clear hK)); (with_reducible refine hK _ ?_); clear hK) | refine And.intro (by first | omega | assumption | grind) ?_)
      first | refine .inl ⟨0, _, hen, ?_⟩ | refine .inl ⟨0, _, Meets.wk (hen) (by simp), ?_⟩ | refine ⟨0, _, hen, ?_⟩ | refine ⟨0, _, Meets.wk (hen) (by simp), ?_⟩
      simp [aftC, aftE]
      repeat (first | (with_reducible first | refine awp_seqK fun K hK => ?_ | refine awp_block ?_) | ((with_reducible first | refine awp_region (by kernel_rfl) ?_ | refine gcall_tt ?_ | refine gcall_ff ?_ | refine gcall_tf ?_ | refine gcall_ft ?_ | refine awp_skip ?_ | refine awp_exit ?_); simp [hel, hm1, hm2, hap]) | ((repeat ((fail_if_success ((with_reducible refine hK _ ?_))); clear hK)); (with_reducible refine hK _ ?_); clear hK) | refine And.intro (by first | omega | assumption | grind) ?_)
      rw [← hez]
      refine again_of (l.length - (i + 1)) ((fun (i : Nat) (ws : List Int) => (⟨42, [(4, .int .i64 i), (3, .own 0), (0, .sl 1 false (ints .i64 l))], 1, [(0, some ⟨38, 1, false, false, ints .u32 ws⟩)], 0⟩ : St)) (i + 1) (ws ++ [e z])) (fun x => if x = 0 then 9 else x) (by omega) (by rw [hI]; exact ⟨i + 1, (ws ++ [e z]), by omega, rfl, hst.symm, rfl⟩) ⟨rfl, ?_, ?_, ?_, by simp⟩
      · simp [leT, ltV, lt1, ren, ren1, wrap_i64_in (n := (i : Int) + 1) (by omega) (by omega), hw]
      · simp [leO, lt1, ren1, hw]
      · (simp; try omega)
  · have : i = l.length := by omega
    subst this
    rw [List.take_length] at hx
    refine awp_cond rfl (fun h => by simp at h) (fun _ => ?_)
    repeat (first | (with_reducible first | refine awp_seqK fun K hK => ?_ | refine awp_block ?_) | ((with_reducible first | refine awp_region (by kernel_rfl) ?_ | refine gcall_tt ?_ | refine gcall_ff ?_ | refine gcall_tf ?_ | refine gcall_ft ?_ | refine awp_skip ?_ | refine awp_exit ?_); simp) | ((repeat ((fail_if_success ((with_reducible refine hK _ ?_))); clear hK)); (with_reducible refine hK _ ?_); clear hK) | refine And.intro (by first | omega | assumption | grind) ?_)
    refine awp_ret ?_
    simp [hx]
set_option maxHeartbeats 16000000 in
theorem back_ok (ws l : List Int) (made : Bool) (hin : inW ws) (hl : l.length ≤ 17592186044416) : Meets Tryz.prog 4 [.sl 1 false (ints .u32 ws), .sl 1 false (ints .i64 l), .bool made] (.bool true) := by
  have hasm : ∀ vs : List Int, inW vs → vs.length ≤ 100 → Meets Tryz.prog 11 [.str (disS vs)] (.tup [.sl 1 false (ints .u32 vs), errV (0, 0)]) := fun vs h1 h2 => by
    have hd := dis_len vs
    have hs1 := assemble_ok (disS vs) (dis_ascii vs h1) (by omega)
    have v1 : asmV (disS vs) = .tup [.sl 1 false (ints .u32 vs), errV (0, 0)] := by unfold asmV; rw [dis_asm vs h2 h1]
    rw [v1] at hs1
    exact hs1
  have hiw := ints_len .u32 ws
  refine Meets.of Tryz.func4 rfl (by kernel_rfl) rfl ?_
  simp only [Tryz.ntmps4, St.start, argT]
  repeat (first | (with_reducible first | refine awp_seqK fun K hK => ?_ | refine awp_block ?_) | ((with_reducible first | refine awp_region (by kernel_rfl) ?_ | refine gcall_tt ?_ | refine gcall_ff ?_ | refine gcall_tf ?_ | refine gcall_ft ?_ | refine awp_skip ?_ | refine awp_exit ?_); simp [hiw]) | ((repeat ((fail_if_success ((with_reducible refine hK _ ?_))); clear hK)); (with_reducible refine hK _ ?_); clear hK) | refine And.intro (by first | omega | assumption | grind) ?_)
  cases made with
  | false =>
    refine awp_cond rfl (fun h => by simp at h) (fun _ => ?_)
    repeat (first | (with_reducible first | refine awp_seqK fun K hK => ?_ | refine awp_block ?_) | ((with_reducible first | refine awp_region (by kernel_rfl) ?_ | refine gcall_tt ?_ | refine gcall_ff ?_ | refine gcall_tf ?_ | refine gcall_ft ?_ | refine awp_skip ?_ | refine awp_exit ?_); simp [hiw]) | ((repeat ((fail_if_success ((with_reducible refine hK _ ?_))); clear hK)); (with_reducible refine hK _ ?_); clear hK) | refine And.intro (by first | omega | assumption | grind) ?_)
    refine awp_cond rfl (fun h => ?_) (fun h => ?_)
    · repeat (first | (with_reducible first | refine awp_seqK fun K hK => ?_ | refine awp_block ?_) | ((with_reducible first | refine awp_region (by kernel_rfl) ?_ | refine gcall_tt ?_ | refine gcall_ff ?_ | refine gcall_tf ?_ | refine gcall_ft ?_ | refine awp_skip ?_ | refine awp_exit ?_); simp) | ((repeat ((fail_if_success ((with_reducible refine hK _ ?_))); clear hK)); (with_reducible refine hK _ ?_); clear hK) | refine And.intro (by first | omega | assumption | grind) ?_)
      first | refine .inl ⟨0, _, awake23_ok, ?_⟩ | refine .inl ⟨0, _, Meets.wk (awake23_ok) (by simp), ?_⟩ | refine ⟨0, _, awake23_ok, ?_⟩ | refine ⟨0, _, Meets.wk (awake23_ok) (by simp), ?_⟩
      simp [aftC, aftE]
      repeat (first | (with_reducible first | refine awp_seqK fun K hK => ?_ | refine awp_block ?_) | ((with_reducible first | refine awp_region (by kernel_rfl) ?_ | refine gcall_tt ?_ | refine gcall_ff ?_ | refine gcall_tf ?_ | refine gcall_ft ?_ | refine awp_skip ?_ | refine awp_exit ?_); simp) | ((repeat ((fail_if_success ((with_reducible refine hK _ ?_))); clear hK)); (with_reducible refine hK _ ?_); clear hK) | refine And.intro (by first | omega | assumption | grind) ?_)
      refine awp_ret ?_
      simp
    · simp at h
      have hs1 := hasm ws hin (by omega)
      repeat (first | (with_reducible first | refine awp_seqK fun K hK => ?_ | refine awp_block ?_) | ((with_reducible first | refine awp_region (by kernel_rfl) ?_ | refine gcall_tt ?_ | refine gcall_ff ?_ | refine gcall_tf ?_ | refine gcall_ft ?_ | refine awp_skip ?_ | refine awp_exit ?_); simp) | ((repeat ((fail_if_success ((with_reducible refine hK _ ?_))); clear hK)); (with_reducible refine hK _ ?_); clear hK) | refine And.intro (by first | omega | assumption | grind) ?_)
      first | refine .inl ⟨0, _, dis_ok ws hin (by omega), ?_⟩ | refine .inl ⟨0, _, Meets.wk (dis_ok ws hin (by omega)) (by simp), ?_⟩ | refine ⟨0, _, dis_ok ws hin (by omega), ?_⟩ | refine ⟨0, _, Meets.wk (dis_ok ws hin (by omega)) (by simp), ?_⟩
      simp [aftC, aftE]
      repeat (first | (with_reducible first | refine awp_seqK fun K hK => ?_ | refine awp_block ?_) | ((with_reducible first | refine awp_region (by kernel_rfl) ?_ | refine gcall_tt ?_ | refine gcall_ff ?_ | refine gcall_tf ?_ | refine gcall_ft ?_ | refine awp_skip ?_ | refine awp_exit ?_); simp) | ((repeat ((fail_if_success ((with_reducible refine hK _ ?_))); clear hK)); (with_reducible refine hK _ ?_); clear hK) | refine And.intro (by first | omega | assumption | grind) ?_)
      first | refine .inl ⟨0, _, hs1, ?_⟩ | refine .inl ⟨0, _, Meets.wk (hs1) (by simp), ?_⟩ | refine ⟨0, _, hs1, ?_⟩ | refine ⟨0, _, Meets.wk (hs1) (by simp), ?_⟩
      simp [aftC, aftE]
      repeat (first | (with_reducible first | refine awp_seqK fun K hK => ?_ | refine awp_block ?_) | ((with_reducible first | refine awp_region (by kernel_rfl) ?_ | refine gcall_tt ?_ | refine gcall_ff ?_ | refine gcall_tf ?_ | refine gcall_ft ?_ | refine awp_skip ?_ | refine awp_exit ?_); simp) | ((repeat ((fail_if_success ((with_reducible refine hK _ ?_))); clear hK)); (with_reducible refine hK _ ?_); clear hK) | refine And.intro (by first | omega | assumption | grind) ?_)
      first | refine .inl ⟨0, _, disR_ok ws hin (by omega), ?_⟩ | refine .inl ⟨0, _, Meets.wk (disR_ok ws hin (by omega)) (by simp), ?_⟩ | refine ⟨0, _, disR_ok ws hin (by omega), ?_⟩ | refine ⟨0, _, Meets.wk (disR_ok ws hin (by omega)) (by simp), ?_⟩
      simp [aftC, aftE]
      repeat (first | (with_reducible first | refine awp_seqK fun K hK => ?_ | refine awp_block ?_) | ((with_reducible first | refine awp_region (by kernel_rfl) ?_ | refine gcall_tt ?_ | refine gcall_ff ?_ | refine gcall_tf ?_ | refine gcall_ft ?_ | refine awp_skip ?_ | refine awp_exit ?_); simp) | ((repeat ((fail_if_success ((with_reducible refine hK _ ?_))); clear hK)); (with_reducible refine hK _ ?_); clear hK) | refine And.intro (by first | omega | assumption | grind) ?_)
      first | refine .inl ⟨0, _, sameW_ok ws (by omega), ?_⟩ | refine .inl ⟨0, _, Meets.wk (sameW_ok ws (by omega)) (by simp), ?_⟩ | refine ⟨0, _, sameW_ok ws (by omega), ?_⟩ | refine ⟨0, _, Meets.wk (sameW_ok ws (by omega)) (by simp), ?_⟩
      simp [aftC, aftE]
      repeat (first | (with_reducible first | refine awp_seqK fun K hK => ?_ | refine awp_block ?_) | ((with_reducible first | refine awp_region (by kernel_rfl) ?_ | refine gcall_tt ?_ | refine gcall_ff ?_ | refine gcall_tf ?_ | refine gcall_ft ?_ | refine awp_skip ?_ | refine awp_exit ?_); simp) | ((repeat ((fail_if_success ((with_reducible refine hK _ ?_))); clear hK)); (with_reducible refine hK _ ?_); clear hK) | refine And.intro (by first | omega | assumption | grind) ?_)
      first | refine .inl ⟨0, _, awake23_ok, ?_⟩ | refine .inl ⟨0, _, Meets.wk (awake23_ok) (by simp), ?_⟩ | refine ⟨0, _, awake23_ok, ?_⟩ | refine ⟨0, _, Meets.wk (awake23_ok) (by simp), ?_⟩
      simp [aftC, aftE]
      repeat (first | (with_reducible first | refine awp_seqK fun K hK => ?_ | refine awp_block ?_) | ((with_reducible first | refine awp_region (by kernel_rfl) ?_ | refine gcall_tt ?_ | refine gcall_ff ?_ | refine gcall_tf ?_ | refine gcall_ft ?_ | refine awp_skip ?_ | refine awp_exit ?_); simp) | ((repeat ((fail_if_success ((with_reducible refine hK _ ?_))); clear hK)); (with_reducible refine hK _ ?_); clear hK) | refine And.intro (by first | omega | assumption | grind) ?_)
      refine awp_ret ?_
      simp
  | true =>
    obtain ⟨vs, hvs, hvl, hcode⟩ := code_ex l hl
    have hiv := ints_len .u32 vs
    refine awp_cond rfl (fun _ => ?_) (fun h => by simp at h)
    repeat (first | (with_reducible first | refine awp_seqK fun K hK => ?_ | refine awp_block ?_) | ((with_reducible first | refine awp_region (by kernel_rfl) ?_ | refine gcall_tt ?_ | refine gcall_ff ?_ | refine gcall_tf ?_ | refine gcall_ft ?_ | refine awp_skip ?_ | refine awp_exit ?_); simp) | ((repeat ((fail_if_success ((with_reducible refine hK _ ?_))); clear hK)); (with_reducible refine hK _ ?_); clear hK) | refine And.intro (by first | omega | assumption | grind) ?_)
    first | refine .inl ⟨0, _, hcode, ?_⟩ | refine .inl ⟨0, _, Meets.wk (hcode) (by simp), ?_⟩ | refine ⟨0, _, hcode, ?_⟩ | refine ⟨0, _, Meets.wk (hcode) (by simp), ?_⟩
    simp [aftC, aftE]
    repeat (first | (with_reducible first | refine awp_seqK fun K hK => ?_ | refine awp_block ?_) | ((with_reducible first | refine awp_region (by kernel_rfl) ?_ | refine gcall_tt ?_ | refine gcall_ff ?_ | refine gcall_tf ?_ | refine gcall_ft ?_ | refine awp_skip ?_ | refine awp_exit ?_); simp [hiv]) | ((repeat ((fail_if_success ((with_reducible refine hK _ ?_))); clear hK)); (with_reducible refine hK _ ?_); clear hK) | refine And.intro (by first | omega | assumption | grind) ?_)
    refine awp_cond rfl (fun h => ?_) (fun h => ?_)
    · repeat (first | (with_reducible first | refine awp_seqK fun K hK => ?_ | refine awp_block ?_) | ((with_reducible first | refine awp_region (by kernel_rfl) ?_ | refine gcall_tt ?_ | refine gcall_ff ?_ | refine gcall_tf ?_ | refine gcall_ft ?_ | refine awp_skip ?_ | refine awp_exit ?_); simp) | ((repeat ((fail_if_success ((with_reducible refine hK _ ?_))); clear hK)); (with_reducible refine hK _ ?_); clear hK) | refine And.intro (by first | omega | assumption | grind) ?_)
      first | refine .inl ⟨0, _, awake23_ok, ?_⟩ | refine .inl ⟨0, _, Meets.wk (awake23_ok) (by simp), ?_⟩ | refine ⟨0, _, awake23_ok, ?_⟩ | refine ⟨0, _, Meets.wk (awake23_ok) (by simp), ?_⟩
      simp [aftC, aftE]
      repeat (first | (with_reducible first | refine awp_seqK fun K hK => ?_ | refine awp_block ?_) | ((with_reducible first | refine awp_region (by kernel_rfl) ?_ | refine gcall_tt ?_ | refine gcall_ff ?_ | refine gcall_tf ?_ | refine gcall_ft ?_ | refine awp_skip ?_ | refine awp_exit ?_); simp) | ((repeat ((fail_if_success ((with_reducible refine hK _ ?_))); clear hK)); (with_reducible refine hK _ ?_); clear hK) | refine And.intro (by first | omega | assumption | grind) ?_)
      refine awp_ret ?_
      simp
    · simp at h
      have hs1 := hasm vs hvs (by omega)
      repeat (first | (with_reducible first | refine awp_seqK fun K hK => ?_ | refine awp_block ?_) | ((with_reducible first | refine awp_region (by kernel_rfl) ?_ | refine gcall_tt ?_ | refine gcall_ff ?_ | refine gcall_tf ?_ | refine gcall_ft ?_ | refine awp_skip ?_ | refine awp_exit ?_); simp) | ((repeat ((fail_if_success ((with_reducible refine hK _ ?_))); clear hK)); (with_reducible refine hK _ ?_); clear hK) | refine And.intro (by first | omega | assumption | grind) ?_)
      first | refine .inl ⟨0, _, dis_ok vs hvs (by omega), ?_⟩ | refine .inl ⟨0, _, Meets.wk (dis_ok vs hvs (by omega)) (by simp), ?_⟩ | refine ⟨0, _, dis_ok vs hvs (by omega), ?_⟩ | refine ⟨0, _, Meets.wk (dis_ok vs hvs (by omega)) (by simp), ?_⟩
      simp [aftC, aftE]
      repeat (first | (with_reducible first | refine awp_seqK fun K hK => ?_ | refine awp_block ?_) | ((with_reducible first | refine awp_region (by kernel_rfl) ?_ | refine gcall_tt ?_ | refine gcall_ff ?_ | refine gcall_tf ?_ | refine gcall_ft ?_ | refine awp_skip ?_ | refine awp_exit ?_); simp) | ((repeat ((fail_if_success ((with_reducible refine hK _ ?_))); clear hK)); (with_reducible refine hK _ ?_); clear hK) | refine And.intro (by first | omega | assumption | grind) ?_)
      first | refine .inl ⟨0, _, hs1, ?_⟩ | refine .inl ⟨0, _, Meets.wk (hs1) (by simp), ?_⟩ | refine ⟨0, _, hs1, ?_⟩ | refine ⟨0, _, Meets.wk (hs1) (by simp), ?_⟩
      simp [aftC, aftE]
      repeat (first | (with_reducible first | refine awp_seqK fun K hK => ?_ | refine awp_block ?_) | ((with_reducible first | refine awp_region (by kernel_rfl) ?_ | refine gcall_tt ?_ | refine gcall_ff ?_ | refine gcall_tf ?_ | refine gcall_ft ?_ | refine awp_skip ?_ | refine awp_exit ?_); simp) | ((repeat ((fail_if_success ((with_reducible refine hK _ ?_))); clear hK)); (with_reducible refine hK _ ?_); clear hK) | refine And.intro (by first | omega | assumption | grind) ?_)
      first | refine .inl ⟨0, _, disR_ok vs hvs (by omega), ?_⟩ | refine .inl ⟨0, _, Meets.wk (disR_ok vs hvs (by omega)) (by simp), ?_⟩ | refine ⟨0, _, disR_ok vs hvs (by omega), ?_⟩ | refine ⟨0, _, Meets.wk (disR_ok vs hvs (by omega)) (by simp), ?_⟩
      simp [aftC, aftE]
      repeat (first | (with_reducible first | refine awp_seqK fun K hK => ?_ | refine awp_block ?_) | ((with_reducible first | refine awp_region (by kernel_rfl) ?_ | refine gcall_tt ?_ | refine gcall_ff ?_ | refine gcall_tf ?_ | refine gcall_ft ?_ | refine awp_skip ?_ | refine awp_exit ?_); simp) | ((repeat ((fail_if_success ((with_reducible refine hK _ ?_))); clear hK)); (with_reducible refine hK _ ?_); clear hK) | refine And.intro (by first | omega | assumption | grind) ?_)
      first | refine .inl ⟨0, _, sameW_ok vs (by omega), ?_⟩ | refine .inl ⟨0, _, Meets.wk (sameW_ok vs (by omega)) (by simp), ?_⟩ | refine ⟨0, _, sameW_ok vs (by omega), ?_⟩ | refine ⟨0, _, Meets.wk (sameW_ok vs (by omega)) (by simp), ?_⟩
      simp [aftC, aftE]
      repeat (first | (with_reducible first | refine awp_seqK fun K hK => ?_ | refine awp_block ?_) | ((with_reducible first | refine awp_region (by kernel_rfl) ?_ | refine gcall_tt ?_ | refine gcall_ff ?_ | refine gcall_tf ?_ | refine gcall_ft ?_ | refine awp_skip ?_ | refine awp_exit ?_); simp) | ((repeat ((fail_if_success ((with_reducible refine hK _ ?_))); clear hK)); (with_reducible refine hK _ ?_); clear hK) | refine And.intro (by first | omega | assumption | grind) ?_)
      first | refine .inl ⟨0, _, awake23_ok, ?_⟩ | refine .inl ⟨0, _, Meets.wk (awake23_ok) (by simp), ?_⟩ | refine ⟨0, _, awake23_ok, ?_⟩ | refine ⟨0, _, Meets.wk (awake23_ok) (by simp), ?_⟩
      simp [aftC, aftE]
      repeat (first | (with_reducible first | refine awp_seqK fun K hK => ?_ | refine awp_block ?_) | ((with_reducible first | refine awp_region (by kernel_rfl) ?_ | refine gcall_tt ?_ | refine gcall_ff ?_ | refine gcall_tf ?_ | refine gcall_ft ?_ | refine awp_skip ?_ | refine awp_exit ?_); simp) | ((repeat ((fail_if_success ((with_reducible refine hK _ ?_))); clear hK)); (with_reducible refine hK _ ?_); clear hK) | refine And.intro (by first | omega | assumption | grind) ?_)
      refine awp_ret ?_
      simp
theorem back_row (ws l : List Int) (made : Bool) (hr : ∀ n ∈ ws, 0 ≤ n ∧ n ≤ 4294967295) (hl : l.length ≤ 17592186044416) : Meets Tryz.prog 4 [.sl 1 false (ints .u32 ws), .sl 1 false (ints .i64 l), .bool made] (.bool true) :=
  back_ok ws l made (fun w hw => by have := hr w hw; omega) hl
end Go.Proofs.YtjlbpkokdlggiaaGreatDoor
