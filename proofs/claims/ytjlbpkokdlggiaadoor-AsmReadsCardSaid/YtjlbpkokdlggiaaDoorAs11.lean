/- Package asm: Assemble; what Symbols gives. (Numbers of seat r2.D.) -/
import Derived.Test.YtjlbpkokdlggiaaDoorAs10
namespace Go.Proofs.YtjlbpkokdlggiaaDoor
open Go.Ab Go.RowKit
set_option linter.unusedSimpArgs false
set_option maxRecDepth 100000
/-- what Assemble gives: an error and its line, or words -/
def asmD (s : Str) : Except (Int × Int) (List Int) := match parseD s with
  | .error e => .error e
  | .ok p => encAll p.syms p.lines []
def symD (s : Str) : Except (Int × Int) (List (Str × Int)) := match parseD s with
  | .error e => .error e
  | .ok p => match encAll p.syms p.lines [] with
    | .error e => .error e
    | .ok _ => .ok p.syms
abbrev errV (e : Int × Int) : V := .st [.int .i64 e.1, .int .i64 e.2]
def asmV (s : Str) : V := match asmD s with
  | .error e => .tup [.sl 1 true [], errV e]
  | .ok out => .tup [.sl 1 false (ints .u32 out), errV (0, 0)]
def symV (s : Str) : V := match symD s with
  | .error e => .tup [.sl 2 true [], errV e]
  | .ok out => .tup [.sl 2 false (symsV out), errV (0, 0)]
theorem fin_code {lb : Str} {at' : Int} {q : ProgD} : (finD lb at' q).1 = 0 ∨ (finD lb at' q).1 = 303 ∨ (finD lb at' q).1 = 305 := by
  unfold finD
  split
  · simp
  · split <;> simp
theorem add_code {p : ProgD} {n : Int} {t : Str} : (addD p n t).1 = 0 ∨ (addD p n t).1 = 301 ∨ (addD p n t).1 = 303 ∨ (addD p n t).1 = 305 := by
  unfold addD
  split
  · simp
  · split
    · simp
    · rcases fin_code (lb := (clD t).1) (at' := 4 * p.words) (q := by assumption) with h | h | h <;> simp [h]
theorem addAll_err : ∀ {L : List Str} {n : Int} {p : ProgD} {e : Int × Int}, addAll L n p = .error e → e.1 = 301 ∨ e.1 = 303 ∨ e.1 = 305
  | t :: L, n, p, e, h => by
    simp only [addAll] at h
    split at h
    · exact addAll_err h
    · rename_i h0
      simp only [Except.error.injEq] at h
      subst h
      simp only
      rcases add_code (p := p) (n := n) (t := t) with h | h | h | h
      · exact absurd h h0
      · exact .inl h
      · exact .inr (.inl h)
      · exact .inr (.inr h)
  | [], n, p, e, h => by simp [addAll] at h
theorem parse_err {s : Str} {e : Int × Int} (h : parseD s = .error e) : e.1 = 300 ∨ e.1 = 301 ∨ e.1 = 303 ∨ e.1 = 305 := by
  unfold parseD at h
  split at h
  · simp only [Except.error.injEq] at h; subst h; exact .inl rfl
  · exact .inr (addAll_err h)
theorem enc_err {S : List (Str × Int)} : ∀ {L : List LineD} {out : List Int} {e : Int × Int}, encAll S L out = .error e → e.1 = 302 ∨ e.1 = 304
  | [], out, e, h => by simp [encAll] at h
  | l :: L, out, e, h => by
    simp only [encAll] at h
    split at h
    · simp only [Except.error.injEq] at h; subst h; exact .inl rfl
    · split at h
      · simp only [Except.error.injEq] at h; subst h; exact .inr rfl
      · exact enc_err h
set_option maxHeartbeats 16000000 in
theorem assemble_ok (s : Str) (ha : okText s) (hl : s.length < 4294967281) : Meets Tryd.prog 25 [.str s] (asmV s) := by
  have hpo := parse_ok s ha hl
  cases hp : parseD s with
  | error e =>
    have hv : parseV s = .tup [.st [.poi, .poi, .poi, .poi], .st [.int .i64 e.1, .int .i64 e.2]] := by unfold parseV; rw [hp]
    have hr : asmV s = .tup [.sl 1 true [], errV e] := by unfold asmV asmD; rw [hp]
    have he := parse_err hp
    have hne : ¬ (e.1 = 0) := by omega
    rw [hv] at hpo
    refine Meets.of Tryd.func25 rfl (by kernel_rfl) rfl ?_
    simp only [Tryd.ntmps25, St.start, argT]
    refine au  ?_
    repeat intro K hK
    refine wr ?_
    refine ca (hpo)  ?_
    refine au  ?_
    repeat intro K hK
    refine wr ?_
    refine awp_cond rfl (fun _ => ?_) (fun h => by simp [hne] at h)
    refine au  ?_
    repeat intro K hK
    refine wr ?_
    refine awp_planI ([0, 1, 2] : List Nat) ([[], [], [0, 1]] : List (List Nat)) ([(2, ([[], []], [])), (1, ([], []))] : List (Nat × List (List Nat) × List (Nat × Nat))) (by kernel_rfl) (by kernel_rfl) (by kernel_rfl) ?_
    refine af  ?_
    repeat intro K hK
    refine wr ?_
    refine awp_fzA ?_
    refine awp_ret ?_
    simp [hr]
  | ok p =>
    have hv : parseV s = .tup [progV p, .st [.int .i64 0, .int .i64 0]] := by unfold parseV; rw [hp]
    have hg := parse_good hp
    have heo := encode46_ok p hg.1 hg.2.1
    rw [hv, progV] at hpo
    refine Meets.of Tryd.func25 rfl (by kernel_rfl) rfl ?_
    simp only [Tryd.ntmps25, St.start, argT]
    refine af  ?_
    repeat intro K hK
    refine wr ?_
    refine ca (hpo)  ?_
    refine af  ?_
    repeat intro K hK
    refine wr ?_
    refine awp_cond rfl (fun h => by simp at h) (fun _ => ?_)
    refine af  ?_
    repeat intro K hK
    refine wr ?_
    cases he : encAll p.syms p.lines [] with
    | error e =>
      have hr : asmV s = .tup [.sl 1 true [], errV e] := by unfold asmV asmD; rw [hp]; simp only; rw [he]
      have hev : encV p = .tup [.sl 1 true [], .st [.int .i64 e.1, .int .i64 e.2]] := by unfold encV; rw [he]
      rw [hev, progV] at heo
      refine ca (heo)  ?_
      refine af  ?_
      repeat intro K hK
      refine wr ?_
      refine awp_fzA ?_
      refine awp_ret ?_
      simp [hr]
    | ok out =>
      have hr : asmV s = .tup [.sl 1 false (ints .u32 out), errV (0, 0)] := by unfold asmV asmD; rw [hp]; simp only; rw [he]
      have hev : encV p = .tup [.new 22 1 (ints .u32 out), .st [.int .i64 0, .int .i64 0]] := by unfold encV; rw [he]
      rw [hev, progV] at heo
      refine ca (heo)  ?_
      refine af  ?_
      repeat intro K hK
      refine wr ?_
      refine awp_fzA ?_
      refine awp_ret ?_
      simp [hr]
end Go.Proofs.YtjlbpkokdlggiaaDoor
