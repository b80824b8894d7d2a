/- The document's assembler: Symbols; agrees. (Numbers of seat r2.D.) -/
import Derived.Test.YtjlbpkokdlggiaaDoorRefK
import Derived.Test.YtjlbpkokdlggiaaDoorSym
namespace Go.Proofs.YtjlbpkokdlggiaaDoor
open Go.Ab Go.RowKit
set_option linter.unusedSimpArgs false
set_option maxRecDepth 100000
def symR (s : Str) : Except (Int × Int) (List (Str × Int)) := match asmR s with
  | .error e => .error e
  | .ok _ => match readR s with
    | .error e => .error e
    | .ok p => .ok p.syms
def symRV (s : Str) : V := match symR s with
  | .error e => .tup [.sl 2 true [], errV e]
  | .ok out => .tup [.sl 2 false (symsV out), errV (0, 0)]
theorem refAll_err {S : List (Str × Int)} : ∀ {L : List StD} {out : List Int} {e : Int × Int}, refAll S L out = .error e → e.1 ≠ 0
  | [], out, e, h => by simp [refAll] at h
  | st :: r, out, e, h => by
    simp only [refAll] at h
    split at h
    · simp only [Except.error.injEq] at h; subst h; simp
    · split at h
      · simp only [Except.error.injEq] at h; subst h; simp
      · exact refAll_err h
theorem asmR_err {s : Str} {e : Int × Int} (h : asmR s = .error e) : e.1 ≠ 0 := by
  unfold asmR at h
  split at h
  · rename_i e' hr
    simp only [Except.error.injEq] at h; subst h
    exact readR_err (e := e'.1) (n := e'.2) hr
  · exact refAll_err h
set_option maxHeartbeats 16000000 in
theorem symbolsR_ok (s : Str) (hl : s.length ≤ 999999) : Meets Tryd.prog 48 [.str s] (symRV s) := by
  have hao := assembleR_ok s hl
  unfold asmRV at hao
  cases he : asmR s with
  | error e =>
    have hr : symRV s = .tup [.sl 2 true [], errV e] := by unfold symRV symR; rw [he]
    have hne := asmR_err he
    rw [he] at hao
    refine Meets.of Tryd.func48 rfl (by kernel_rfl) rfl ?_
    simp only [Tryd.ntmps48, St.start, argT]
    refine au  ?_
    repeat intro K hK
    refine wr ?_
    refine ca (hao)  ?_
    refine au  ?_
    repeat intro K hK
    refine wr ?_
    refine awp_cond rfl (fun _ => ?_) (fun h => by simp [hne] at h)
    refine au  ?_
    repeat intro K hK
    refine wr ?_
    refine awp_planI ([0, 1, 2] : List Nat) ([[], [], [0, 1]] : List (List Nat)) ([(2, ([[], []], [])), (1, ([], []))] : List (Nat × List (List Nat) × List (Nat × Nat))) (by kernel_rfl) (by kernel_rfl) (by kernel_rfl) ?_
    refine af  ?_
    repeat intro K hK
    refine wr ?_
    refine awp_fzA ?_
    refine awp_ret ?_
    simp [hr]
  | ok out =>
    rw [he] at hao
    have hro := read_ok s (by omega)
    unfold readV at hro
    cases hrd : readR s with
    | error e => exact absurd he (by unfold asmR; rw [hrd]; simp)
    | ok p =>
      have hr : symRV s = .tup [.sl 2 false (symsV p.syms), errV (0, 0)] := by unfold symRV symR; rw [he, hrd]
      rw [hrd] at hro
      refine Meets.of Tryd.func48 rfl (by kernel_rfl) rfl ?_
      simp only [Tryd.ntmps48, St.start, argT]
      refine af  ?_
      repeat intro K hK
      refine wr ?_
      refine ca (hao)  ?_
      refine af  ?_
      repeat intro K hK
      refine wr ?_
      refine awp_cond rfl (fun h => by simp at h) (fun _ => ?_)
      refine af  ?_
      repeat intro K hK
      refine wr ?_
      refine ca (hro)  ?_
      refine af  ?_
      repeat intro K hK
      refine wr ?_
      refine awp_fzA ?_
      refine awp_ret ?_
      simp [hr]
theorem same_ok (l : List (Str × Int)) (hl : l.length ≤ 1000000000) : Meets Tryd.prog 49 [.sl 2 false (symsV l), .sl 2 false (symsV l)] (.bool true) := by
  have hil := symsV_len l
  refine Meets.of Tryd.func49 rfl (by kernel_rfl) rfl ?_
  simp only [Tryd.ntmps49, St.start, argT]
  refine au1 @hil ?_
  repeat intro K hK
  refine wr ?_
  refine awp_cond rfl (fun h => by simp at h) (fun _ => ?_)
  refine au  ?_
  repeat intro K hK
  refine wr ?_
  obtain ⟨I, hI⟩ : ∃ I : Nat → St → Prop, I = (fun kk ss => ∃ (i : Nat) , i ≤ l.length ∧ kk = l.length - i ∧ (True) ∧ ss = ⟨26, [(5, .int .i64 i), (0, .sl 2 false (symsV l)), (1, .sl 2 false (symsV l))], 0, [], 0⟩) := ⟨_, rfl⟩
  refine awp_loopA I (k0 := l.length) (st0 := (fun (i : Nat)  => (⟨26, [(5, .int .i64 i), (0, .sl 2 false (symsV l)), (1, .sl 2 false (symsV l))], 0, [], 0⟩ : St)) 0 ) (ρ0 := id) ⟨rfl, by simp [leT, ltV, lt1, ren, ren1], by simp [leO, lt1, ren1], by simp, by simp⟩ (by rw [hI]; exact ⟨0, by simp, by simp, trivial, rfl⟩) ?_
  intro kk ss hIk _
  rw [hI] at hIk
  obtain ⟨i, hi, rfl, hx, rfl⟩ := hIk
  have hw : IntKind.i64.wrap ((i : Int) + 1) = ((i + 1 : Nat) : Int) := by rw [wrap_i64_in (by omega) (by omega)]; omega
  refine au1 @hil ?_
  repeat intro K hK
  refine wr ?_
  by_cases hi' : i < l.length
  · obtain ⟨z, hz⟩ : ∃ z, z = l[i] := ⟨_, rfl⟩
    have hget : (symsV l)[i]? = some [.str z.1, .int .u32 z.2] := by rw [hz]; exact symsV_at _ i hi'
    refine awp_cond rfl (fun _ => ?_) (fun h => by simp [hi'] at h)
    refine au  ?_
    repeat intro K hK
    refine wr ?_
    refine awp_planI ([0, 1, 2, 3, 4, 5, 6, 7, 8] : List Nat) ([[], [], [0, 1], [0, 1, 2], [], [], [4, 5], [4, 5, 6], [0, 1, 2, 3, 4, 5, 6, 7]] : List (List Nat)) ([(8, ([[], [], [0, 1], [0, 1, 2], [], [], [4, 5], [4, 5, 6]], [])), (1, ([], []))] : List (Nat × List (List Nat) × List (Nat × Nat))) (by kernel_rfl) (by kernel_rfl) (by kernel_rfl) ?_
    refine af2 @hget @hil ?_
    repeat intro K hK
    refine wr ?_
    refine awp_cond rfl (fun h => by simp at h) (fun _ => ?_)
    refine af  ?_
    repeat intro K hK
    refine wr ?_
    refine again_of (l.length - (i + 1)) ((fun (i : Nat)  => (⟨26, [(5, .int .i64 i), (0, .sl 2 false (symsV l)), (1, .sl 2 false (symsV l))], 0, [], 0⟩ : St)) (i + 1) ) (id) (by omega) (by rw [hI]; exact ⟨i + 1, by omega, rfl, trivial, rfl⟩) ⟨rfl, ?_, ?_, ?_, by simp⟩
    · simp [leT, ltV, lt1, ren, ren1, wrap_i64_in (n := (i : Int) + 1) (by omega) (by omega), hw]
    · simp [leO, lt1, ren1, hw]
    · (simp; try omega)
  · have : i = l.length := by omega
    subst this
    refine awp_cond rfl (fun h => by simp at h) (fun _ => ?_)
    refine af  ?_
    repeat intro K hK
    refine wr ?_
    refine awp_ret ?_
    simp
theorem sameR_ok (a : List Int) (hl : a.length ≤ 1000000000) : Meets Tryd.prog 30 [.sl 1 false (ints .u32 a), .sl 1 false (ints .u32 a)] (.bool true) := by
  have hil := ints_len .u32 a
  refine Meets.of Tryd.func30 rfl (by kernel_rfl) rfl ?_
  simp only [Tryd.ntmps30, St.start, argT]
  refine au1 @hil ?_
  repeat intro K hK
  refine wr ?_
  refine awp_cond rfl (fun h => by simp at h) (fun _ => ?_)
  refine au  ?_
  repeat intro K hK
  refine wr ?_
  obtain ⟨I, hI⟩ : ∃ I : Nat → St → Prop, I = (fun kk ss => ∃ (i : Nat) , i ≤ a.length ∧ kk = a.length - i ∧ (True) ∧ ss = ⟨26, [(5, .int .i64 i), (0, .sl 1 false (ints .u32 a)), (1, .sl 1 false (ints .u32 a))], 0, [], 0⟩) := ⟨_, rfl⟩
  refine awp_loopA I (k0 := a.length) (st0 := (fun (i : Nat)  => (⟨26, [(5, .int .i64 i), (0, .sl 1 false (ints .u32 a)), (1, .sl 1 false (ints .u32 a))], 0, [], 0⟩ : St)) 0 ) (ρ0 := id) ⟨rfl, by simp [leT, ltV, lt1, ren, ren1], by simp [leO, lt1, ren1], by simp, by simp⟩ (by rw [hI]; exact ⟨0, by simp, by simp, trivial, rfl⟩) ?_
  intro kk ss hIk _
  rw [hI] at hIk
  obtain ⟨i, hi, rfl, hx, rfl⟩ := hIk
  have hw : IntKind.i64.wrap ((i : Int) + 1) = ((i + 1 : Nat) : Int) := by rw [wrap_i64_in (by omega) (by omega)]; omega
  refine au1 @hil ?_
  repeat intro K hK
  refine wr ?_
  by_cases hi' : i < a.length
  · obtain ⟨z, hz⟩ : ∃ z, z = a[i] := ⟨_, rfl⟩
    have hget : (ints .u32 a)[i]? = some [.int .u32 z] := by rw [hz]; exact iint_at _ a i hi'
    refine awp_cond rfl (fun _ => ?_) (fun h => by simp [hi'] at h)
    refine au  ?_
    repeat intro K hK
    refine wr ?_
    refine awp_planI ([0, 1, 2, 3, 4, 5, 6, 7, 8] : List Nat) ([[], [], [0, 1], [0, 1, 2], [], [], [4, 5], [4, 5, 6], [0, 1, 2, 3, 4, 5, 6, 7]] : List (List Nat)) ([(8, ([[], [], [0, 1], [0, 1, 2], [], [], [4, 5], [4, 5, 6]], [])), (1, ([], []))] : List (Nat × List (List Nat) × List (Nat × Nat))) (by kernel_rfl) (by kernel_rfl) (by kernel_rfl) ?_
    refine af2 @hget @hil ?_
    repeat intro K hK
    refine wr ?_
    refine awp_cond rfl (fun h => by simp at h) (fun _ => ?_)
    refine af  ?_
    repeat intro K hK
    refine wr ?_
    refine again_of (a.length - (i + 1)) ((fun (i : Nat)  => (⟨26, [(5, .int .i64 i), (0, .sl 1 false (ints .u32 a)), (1, .sl 1 false (ints .u32 a))], 0, [], 0⟩ : St)) (i + 1) ) (id) (by omega) (by rw [hI]; exact ⟨i + 1, by omega, rfl, trivial, rfl⟩) ⟨rfl, ?_, ?_, ?_, by simp⟩
    · simp [leT, ltV, lt1, ren, ren1, wrap_i64_in (n := (i : Int) + 1) (by omega) (by omega), hw]
    · simp [leO, lt1, ren1, hw]
    · (simp; try omega)
  · have : i = a.length := by omega
    subst this
    refine awp_cond rfl (fun h => by simp at h) (fun _ => ?_)
    refine af  ?_
    repeat intro K hK
    refine wr ?_
    refine awp_ret ?_
    simp
theorem encR_bound {S : List (Str × Int)} : ∀ {L : List LineD} {out r : List Int}, (∀ l ∈ L, okLine l) → encAll S L out = .ok r → r.length ≤ out.length + 1024 * L.length
  | [], out, r, _, h => by simp only [encAll, Except.ok.injEq] at h; subst h; simp
  | l :: L, out, r, hL, h => by
    simp only [encAll] at h
    cases hx : valL S l with
    | none => rw [hx] at h; cases h
    | some x =>
      rw [hx] at h
      simp only at h
      cases hw : codeL l x with
      | none => rw [hw] at h; cases h
      | some w =>
        rw [hw] at h
        simp only at h
        have h1 := encR_bound (fun y hy => hL y (List.mem_cons_of_mem _ hy)) h
        have h2 := code_len (hL l (List.mem_cons_self ..)) hw
        simp only [List.length_append, List.length_cons] at h1 ⊢
        omega
theorem asmR_bound {s : Str} {x : List Int} (h : asmD s = .ok x) : x.length ≤ 10000000 := by
  unfold asmD at h
  split at h
  · cases h
  · rename_i p hp
    obtain ⟨h1, h2, _⟩ := parse_good hp
    have := encR_bound (fun l hl => (h1.1 l hl).1.1) h
    simp only [List.length_nil] at this
    omega
theorem symD_len {s : Str} {x : List (Str × Int)} (h : symD s = .ok x) : x.length ≤ 10000000 := by
  unfold symD at h
  split at h
  · simp at h
  · rename_i p hp
    split at h
    · simp at h
    · simp only [Except.ok.injEq] at h; subst h
      have := (parse_good hp).2.2
      omega
set_option maxHeartbeats 16000000 in
theorem agrees_ok (s : Str) (ha : okText s) (hl : s.length ≤ 999999) (he : asmR s = asmD s) (hs : symR s = symD s) : Meets Tryd.prog 26 [.str s] (.bool true) := by
  have h1 := assemble_ok s ha (by omega)
  have h2 := assembleR_ok s hl
  have h3 := symbols_ok s ha (by omega)
  have h4 := symbolsR_ok s hl
  unfold asmV at h1
  unfold asmRV at h2
  unfold symV at h3
  unfold symRV at h4
  rw [he] at h2
  rw [hs] at h4
  refine Meets.of Tryd.func26 rfl (by kernel_rfl) rfl ?_
  simp only [Tryd.ntmps26, St.start, argT]
  refine au  ?_
  repeat intro K hK
  refine wr ?_
  cases e1 : asmD s with
  | error x =>
    rw [e1] at h1 h2
    cases e2 : symD s with
    | error y =>
      rw [e2] at h3 h4
      have hw : ([] : List Int).length ≤ 1000000000 := by decide
      have hy : ([] : List (Str × Int)).length ≤ 1000000000 := by decide
      refine ca (h1)  ?_
      refine au  ?_
      repeat intro K hK
      refine wr ?_
      refine ca (h2)  ?_
      refine au  ?_
      repeat intro K hK
      refine wr ?_
      refine ca (h3)  ?_
      refine au  ?_
      repeat intro K hK
      refine wr ?_
      refine ca (h4)  ?_
      refine au  ?_
      repeat intro K hK
      refine wr ?_
      refine ca (sameR_ok ([]) hw)  ?_
      refine au  ?_
      repeat intro K hK
      refine wr ?_
      refine ca (same_ok ([]) hy)  ?_
      refine au  ?_
      repeat intro K hK
      refine wr ?_
      refine awp_ret ?_
      simp
    | ok q =>
      rw [e2] at h3 h4
      have hw : ([] : List Int).length ≤ 1000000000 := by decide
      have hy : q.length ≤ 1000000000 := by have := symD_len e2; omega
      refine ca (h1)  ?_
      refine au  ?_
      repeat intro K hK
      refine wr ?_
      refine ca (h2)  ?_
      refine au  ?_
      repeat intro K hK
      refine wr ?_
      refine ca (h3)  ?_
      refine au  ?_
      repeat intro K hK
      refine wr ?_
      refine ca (h4)  ?_
      refine au  ?_
      repeat intro K hK
      refine wr ?_
      refine ca (sameR_ok ([]) hw)  ?_
      refine au  ?_
      repeat intro K hK
      refine wr ?_
      refine ca (same_ok (q) hy)  ?_
      refine au  ?_
      repeat intro K hK
      refine wr ?_
      refine awp_ret ?_
      simp
  | ok w =>
    rw [e1] at h1 h2
    have hw : w.length ≤ 1000000000 := by have := asmR_bound e1; omega
    cases e2 : symD s with
    | error y =>
      rw [e2] at h3 h4
      have hy : ([] : List (Str × Int)).length ≤ 1000000000 := by decide
      refine ca (h1)  ?_
      refine au  ?_
      repeat intro K hK
      refine wr ?_
      refine ca (h2)  ?_
      refine au  ?_
      repeat intro K hK
      refine wr ?_
      refine ca (h3)  ?_
      refine au  ?_
      repeat intro K hK
      refine wr ?_
      refine ca (h4)  ?_
      refine au  ?_
      repeat intro K hK
      refine wr ?_
      refine ca (sameR_ok (w) hw)  ?_
      refine au  ?_
      repeat intro K hK
      refine wr ?_
      refine ca (same_ok ([]) hy)  ?_
      refine au  ?_
      repeat intro K hK
      refine wr ?_
      refine awp_ret ?_
      simp
    | ok q =>
      rw [e2] at h3 h4
      have hy : q.length ≤ 1000000000 := by have := symD_len e2; omega
      refine ca (h1)  ?_
      refine au  ?_
      repeat intro K hK
      refine wr ?_
      refine ca (h2)  ?_
      refine au  ?_
      repeat intro K hK
      refine wr ?_
      refine ca (h3)  ?_
      refine au  ?_
      repeat intro K hK
      refine wr ?_
      refine ca (h4)  ?_
      refine au  ?_
      repeat intro K hK
      refine wr ?_
      refine ca (sameR_ok (w) hw)  ?_
      refine au  ?_
      repeat intro K hK
      refine wr ?_
      refine ca (same_ok (q) hy)  ?_
      refine au  ?_
      repeat intro K hK
      refine wr ?_
      refine awp_ret ?_
      simp
end Go.Proofs.YtjlbpkokdlggiaaDoor
