/- Contracts of Next, Mix, Round of vmfleetmake. (Numbers of seat r2.D.) -/
import Derived.Test.YtjlbpkokdlggiaaDoorIsa5
namespace Go.Proofs.YtjlbpkokdlggiaaDoor
open Go.Ab
set_option linter.unusedSimpArgs false
set_option maxRecDepth 100000
theorem next_ex (x : Int) : ∃ a b, Meets Tryd.prog 58 [.int .u64 x] (.tup [.int .u64 a, .int .u64 b]) := by
  apply Exists.intro
  apply Exists.intro
  refine Meets.of Tryd.func58 rfl (by kernel_rfl) rfl ?_
  simp only [Tryd.ntmps58, St.start, argT]
  refine au  ?_
  repeat intro K hK
  refine wr ?_
  refine awp_ret ?_
  simp
  exact ⟨rfl, rfl⟩
theorem mix_ex (n k : Int) : ∃ m, Meets Tryd.prog 34 [.int .i64 n, .int .i64 k] (.int .i64 m) := by
  have hn := fun x => next_ex x
  apply Exists.intro
  refine Meets.of Tryd.func34 rfl (by kernel_rfl) rfl ?_
  simp only [Tryd.ntmps34, St.start, argT]
  refine au  ?_
  repeat intro K hK
  refine wr ?_
  refine ca (Classical.choose_spec (Classical.choose_spec (next_ex _)))  ?_
  refine au  ?_
  repeat intro K hK
  refine wr ?_
  refine awp_ret ?_
  simp
  rfl
noncomputable def mixA (n k : Int) : Int := Classical.choose (mix_ex n k)
theorem mix_ok (n k : Int) : Meets Tryd.prog 34 [.int .i64 n, .int .i64 k] (.int .i64 (mixA n k)) := Classical.choose_spec (mix_ex n k)
theorem round_ok (n k : Int) (h0 : 0 < k) (h1 : k ≤ 9223372036854775807) : Meets Tryd.prog 22 [.int .i64 n, .int .i64 k] (.int .i64 (n % k)) := by
  have e3 := Int.emod_lt_of_pos n h0
  have e4 := Int.emod_nonneg n (show k ≠ 0 by omega)
  have e1 : 0 ≤ n.tmod k → n.tmod k = n % k := fun h => by rw [Int.tmod_eq_emod] at h ⊢; split <;> split at h <;> omega
  have e2 : n.tmod k < 0 → n.tmod k + k = n % k := fun h => by rw [Int.tmod_eq_emod] at h ⊢; split <;> split at h <;> omega
  refine Meets.of Tryd.func22 rfl (by kernel_rfl) rfl ?_
  simp only [Tryd.ntmps22, St.start, argT]
  refine au  ?_
  repeat intro K hK
  refine wr ?_
  refine awp_cond rfl (fun h => ?_) (fun h => ?_)
  · simp at h
    refine au  ?_
    repeat intro K hK
    refine wr ?_
    refine awp_ret ?_
    simp
    rw [wrap_i64_in (by omega) (by omega), e2 h]
  · simp at h
    refine au  ?_
    repeat intro K hK
    refine wr ?_
    refine awp_ret ?_
    simp
    exact e1 h
end Go.Proofs.YtjlbpkokdlggiaaDoor
