/- Package asm: Symbols. (Numbers of seat r2.D.) -/
import Derived.Test.YtjlbpkokdlggiaaDoorAs11
namespace Go.Proofs.YtjlbpkokdlggiaaDoor
open Go.Ab Go.RowKit
set_option linter.unusedSimpArgs false
set_option maxRecDepth 100000
set_option maxHeartbeats 16000000 in
theorem symbols_ok (s : Str) (ha : okText s) (hl : s.length < 4294967281) : Meets Tryd.prog 27 [.str s] (symV s) := by
  have hpo := parse_ok s ha hl
  cases hp : parseD s with
  | error e =>
    have hv : parseV s = .tup [.st [.poi, .poi, .poi, .poi], .st [.int .i64 e.1, .int .i64 e.2]] := by unfold parseV; rw [hp]
    have hr : symV s = .tup [.sl 2 true [], errV e] := by unfold symV symD; rw [hp]
    have he := parse_err hp
    have hne : ¬ (e.1 = 0) := by omega
    rw [hv] at hpo
    refine Meets.of Tryd.func27 rfl (by kernel_rfl) rfl ?_
    simp only [Tryd.ntmps27, St.start, argT]
    refine au  ?_
    repeat intro K hK
    refine wr ?_
    refine ca (hpo)  ?_
    refine au  ?_
    repeat intro K hK
    refine wr ?_
    refine awp_cond rfl (fun _ => ?_) (fun h => by simp [hne] at h)
    refine au  ?_
    repeat intro K hK
    refine wr ?_
    refine awp_planI ([0, 1, 2] : List Nat) ([[], [], [0, 1]] : List (List Nat)) ([(2, ([[], []], [])), (1, ([], []))] : List (Nat × List (List Nat) × List (Nat × Nat))) (by kernel_rfl) (by kernel_rfl) (by kernel_rfl) ?_
    refine af  ?_
    repeat intro K hK
    refine wr ?_
    refine awp_fzA ?_
    refine awp_ret ?_
    simp [hr]
  | ok p =>
    have hv : parseV s = .tup [progV p, .st [.int .i64 0, .int .i64 0]] := by unfold parseV; rw [hp]
    have hg := parse_good hp
    have heo := encode46_ok p hg.1 hg.2.1
    rw [hv, progV] at hpo
    refine Meets.of Tryd.func27 rfl (by kernel_rfl) rfl ?_
    simp only [Tryd.ntmps27, St.start, argT]
    refine af  ?_
    repeat intro K hK
    refine wr ?_
    refine ca (hpo)  ?_
    refine af  ?_
    repeat intro K hK
    refine wr ?_
    refine awp_cond rfl (fun h => by simp at h) (fun _ => ?_)
    refine af  ?_
    repeat intro K hK
    refine wr ?_
    cases he : encAll p.syms p.lines [] with
    | error e =>
      have hr : symV s = .tup [.sl 2 true [], errV e] := by unfold symV symD; rw [hp]; simp only; rw [he]
      have hev : encV p = .tup [.sl 1 true [], .st [.int .i64 e.1, .int .i64 e.2]] := by unfold encV; rw [he]
      have hee := enc_err he
      have hne : ¬ (e.1 = 0) := by omega
      rw [hev, progV] at heo
      refine ca (heo)  ?_
      refine af  ?_
      repeat intro K hK
      refine wr ?_
      refine awp_cond rfl (fun _ => ?_) (fun h => by simp [hne] at h)
      refine af  ?_
      repeat intro K hK
      refine wr ?_
      refine awp_planI ([0, 1, 2] : List Nat) ([[], [], [0, 1]] : List (List Nat)) ([(2, ([[], []], [])), (1, ([], []))] : List (Nat × List (List Nat) × List (Nat × Nat))) (by kernel_rfl) (by kernel_rfl) (by kernel_rfl) ?_
      refine af  ?_
      repeat intro K hK
      refine wr ?_
      refine awp_fzA ?_
      refine awp_ret ?_
      simp [hr]
    | ok out =>
      have hr : symV s = .tup [.sl 2 false (symsV p.syms), errV (0, 0)] := by unfold symV symD; rw [hp]; simp only; rw [he]
      have hev : encV p = .tup [.new 22 1 (ints .u32 out), .st [.int .i64 0, .int .i64 0]] := by unfold encV; rw [he]
      rw [hev, progV] at heo
      refine ca (heo)  ?_
      refine af  ?_
      repeat intro K hK
      refine wr ?_
      refine awp_cond rfl (fun h => by simp at h) (fun _ => ?_)
      refine af  ?_
      repeat intro K hK
      refine wr ?_
      refine awp_fzA ?_
      refine awp_ret ?_
      simp [hr]
end Go.Proofs.YtjlbpkokdlggiaaDoor
