/- few, awake, LinkCuts. -/
import Derived.Test.YtnjpakhnaegdgaaAbX
namespace Go.Proofs.Ytnjpakhnaegdgaa
open Go.Ab
set_option linter.unusedSimpArgs false
set_option maxRecDepth 100000
def strs (l : List (List UInt8)) : List (List V) := l.map fun s => [.str s]
def fewB (l : List (List UInt8)) : Bool := (l.take 40).all (fun s => decide (s.length ≤ 200)) && decide (l.length ≤ 30)
theorem strs_at (l : List (List UInt8)) (i : Nat) (h : i < l.length) : (strs l)[i]? = some [.str l[i]] := by simp [strs, h]
theorem all_take (l : List (List UInt8)) (i : Nat) (h : i < l.length) (p : List UInt8 → Bool) : (l.take (i + 1)).all p = ((l.take i).all p && p l[i]) := by
  rw [List.take_succ_eq_append_getElem h, List.all_append]; simp
def fewI (l : List (List UInt8)) (z : Nat) (t c : Bool) (k : Nat) (s : St) : Prop := ∃ i : Nat, i ≤ l.length ∧ i ≤ 40 ∧ k = 40 - i ∧ (l.take i).all (fun s => decide (s.length ≤ 200)) = true ∧ s = ⟨26, [(3, .int .i64 i), (1, .ptr 0 2 0 0)], 1, [(0, some ⟨24, 2, true, false, [[.sl z t (strs l), .bool c]]⟩)]⟩
theorem few_ok (l : List (List UInt8)) (z : Nat) (t c : Bool) (hz : z = 1 ∨ (z = 0 ∧ l = [])) : Meets Try.prog 15 [.st [.sl z t (strs l), .bool c]] (.bool (fewB l)) := by
  have hsl : (strs l).length = l.length := by simp [strs]
  refine Meets.of Try.func15 rfl (by kernel_rfl) rfl ?_
  simp only [Try.ntmps15, St.start, argT]
  repeat (first | (with_reducible refine awp_seqK fun K hK => ?_) | (with_reducible refine awp_block ?_) | (with_reducible refine awp_region (by kernel_rfl) ?_; simp) | (first | (with_reducible refine hK _ ?_; clear hK) | (clear hK; (first | (with_reducible refine hK _ ?_; clear hK) | (clear hK; (first | (with_reducible refine hK _ ?_; clear hK) | (clear hK; (first | (with_reducible refine hK _ ?_; clear hK) | (clear hK; (first | (with_reducible refine hK _ ?_; clear hK) | (clear hK; (first | (with_reducible refine hK _ ?_; clear hK) | (clear hK; (first | (with_reducible refine hK _ ?_; clear hK) | (clear hK; (first | (with_reducible refine hK _ ?_; clear hK) | (clear hK; (first | (with_reducible refine hK _ ?_; clear hK) | (clear hK; (first | (with_reducible refine hK _ ?_; clear hK) | (clear hK; (first | (with_reducible refine hK _ ?_; clear hK) | (clear hK; (first | (with_reducible refine hK _ ?_; clear hK)))))))))))))))))))))))) | ((with_reducible first | refine gcall_tt ?_ | refine gcall_ff ?_ | refine gcall_tf ?_ | refine gcall_ft ?_); simp) | (with_reducible refine awp_skip ?_; simp) | (with_reducible refine awp_exit ?_; simp) | (refine And.intro (by first | omega | assumption | grind) ?_))
  refine awp_loopA (fewI l z t c)
    (k0 := 40) (st0 := ⟨26, [(3, .int .i64 ((0 : Nat) : Int)), (1, .ptr 0 2 0 0)], 1, [(0, some ⟨24, 2, true, false, [[.sl z t (strs l), .bool c]]⟩)]⟩) (ρ0 := id)
    ⟨rfl, by simp [leT, ltV, lt1, ren, ren1], by simp [leO, lt1, ren1], by simp⟩ ⟨0, by simp, by simp, rfl, by simp, rfl⟩ ?_
  rintro k s ⟨i, h1, h2, rfl, h3, rfl⟩ -
  repeat (first | (with_reducible refine awp_seqK fun K hK => ?_) | (with_reducible refine awp_block ?_) | (with_reducible refine awp_region (by kernel_rfl) ?_; simp [hsl]) | (first | (with_reducible refine hK _ ?_; clear hK) | (clear hK; (first | (with_reducible refine hK _ ?_; clear hK) | (clear hK; (first | (with_reducible refine hK _ ?_; clear hK) | (clear hK; (first | (with_reducible refine hK _ ?_; clear hK) | (clear hK; (first | (with_reducible refine hK _ ?_; clear hK) | (clear hK; (first | (with_reducible refine hK _ ?_; clear hK) | (clear hK; (first | (with_reducible refine hK _ ?_; clear hK) | (clear hK; (first | (with_reducible refine hK _ ?_; clear hK) | (clear hK; (first | (with_reducible refine hK _ ?_; clear hK) | (clear hK; (first | (with_reducible refine hK _ ?_; clear hK) | (clear hK; (first | (with_reducible refine hK _ ?_; clear hK) | (clear hK; (first | (with_reducible refine hK _ ?_; clear hK)))))))))))))))))))))))) | ((with_reducible first | refine gcall_tt ?_ | refine gcall_ff ?_ | refine gcall_tf ?_ | refine gcall_ft ?_); simp [hsl]) | (with_reducible refine awp_skip ?_; simp [hsl]) | (with_reducible refine awp_exit ?_; simp [hsl]) | (refine And.intro (by first | omega | assumption | grind) ?_))
  refine awp_cond rfl (fun h => ?_) (fun h => ?_)
  · simp at h
    have hx := strs_at l i h.1
    have hz' : 1 = z ∨ strs l = [] := by
      rcases hz with hz | hz
      · exact .inl hz.symm
      · rw [hz.2] at h; simp at h
    have hl1 := h.1
    repeat (first | (with_reducible refine awp_seqK fun K hK => ?_) | (with_reducible refine awp_block ?_) | (with_reducible refine awp_region (by kernel_rfl) ?_; simp [hx, hsl]) | (first | (with_reducible refine hK _ ?_; clear hK) | (clear hK; (first | (with_reducible refine hK _ ?_; clear hK) | (clear hK; (first | (with_reducible refine hK _ ?_; clear hK) | (clear hK; (first | (with_reducible refine hK _ ?_; clear hK) | (clear hK; (first | (with_reducible refine hK _ ?_; clear hK) | (clear hK; (first | (with_reducible refine hK _ ?_; clear hK) | (clear hK; (first | (with_reducible refine hK _ ?_; clear hK) | (clear hK; (first | (with_reducible refine hK _ ?_; clear hK) | (clear hK; (first | (with_reducible refine hK _ ?_; clear hK) | (clear hK; (first | (with_reducible refine hK _ ?_; clear hK) | (clear hK; (first | (with_reducible refine hK _ ?_; clear hK) | (clear hK; (first | (with_reducible refine hK _ ?_; clear hK)))))))))))))))))))))))) | ((with_reducible first | refine gcall_tt ?_ | refine gcall_ff ?_ | refine gcall_tf ?_ | refine gcall_ft ?_); simp [hx, hsl]) | (with_reducible refine awp_skip ?_; simp [hx, hsl]) | (with_reducible refine awp_exit ?_; simp [hx, hsl]) | (refine And.intro (by first | omega | assumption | grind) ?_))
    refine awp_cond rfl (fun h' => ?_) (fun h' => ?_)
    · simp at h'
      repeat (first | (with_reducible refine awp_seqK fun K hK => ?_) | (with_reducible refine awp_block ?_) | (with_reducible refine awp_region (by kernel_rfl) ?_; simp) | (first | (with_reducible refine hK _ ?_; clear hK) | (clear hK; (first | (with_reducible refine hK _ ?_; clear hK) | (clear hK; (first | (with_reducible refine hK _ ?_; clear hK) | (clear hK; (first | (with_reducible refine hK _ ?_; clear hK) | (clear hK; (first | (with_reducible refine hK _ ?_; clear hK) | (clear hK; (first | (with_reducible refine hK _ ?_; clear hK) | (clear hK; (first | (with_reducible refine hK _ ?_; clear hK) | (clear hK; (first | (with_reducible refine hK _ ?_; clear hK) | (clear hK; (first | (with_reducible refine hK _ ?_; clear hK) | (clear hK; (first | (with_reducible refine hK _ ?_; clear hK) | (clear hK; (first | (with_reducible refine hK _ ?_; clear hK) | (clear hK; (first | (with_reducible refine hK _ ?_; clear hK)))))))))))))))))))))))) | ((with_reducible first | refine gcall_tt ?_ | refine gcall_ff ?_ | refine gcall_tf ?_ | refine gcall_ft ?_); simp) | (with_reducible refine awp_skip ?_; simp) | (with_reducible refine awp_exit ?_; simp) | (refine And.intro (by first | omega | assumption | grind) ?_))
      refine awp_ret ?_
      have hb : fewB l = false := by
        simp only [fewB, Bool.and_eq_false_iff]
        left
        rw [List.all_eq_false]
        refine ⟨l[i], ?_, by simp; omega⟩
        rw [List.mem_take_iff_getElem]
        exact ⟨i, by omega, rfl⟩
      simp [hb]
    · simp at h'
      repeat (first | (with_reducible refine awp_seqK fun K hK => ?_) | (with_reducible refine awp_block ?_) | (with_reducible refine awp_region (by kernel_rfl) ?_; simp) | (first | (with_reducible refine hK _ ?_; clear hK) | (clear hK; (first | (with_reducible refine hK _ ?_; clear hK) | (clear hK; (first | (with_reducible refine hK _ ?_; clear hK) | (clear hK; (first | (with_reducible refine hK _ ?_; clear hK) | (clear hK; (first | (with_reducible refine hK _ ?_; clear hK) | (clear hK; (first | (with_reducible refine hK _ ?_; clear hK) | (clear hK; (first | (with_reducible refine hK _ ?_; clear hK) | (clear hK; (first | (with_reducible refine hK _ ?_; clear hK) | (clear hK; (first | (with_reducible refine hK _ ?_; clear hK) | (clear hK; (first | (with_reducible refine hK _ ?_; clear hK) | (clear hK; (first | (with_reducible refine hK _ ?_; clear hK) | (clear hK; (first | (with_reducible refine hK _ ?_; clear hK)))))))))))))))))))))))) | ((with_reducible first | refine gcall_tt ?_ | refine gcall_ff ?_ | refine gcall_tf ?_ | refine gcall_ft ?_); simp) | (with_reducible refine awp_skip ?_; simp) | (with_reducible refine awp_exit ?_; simp) | (refine And.intro (by first | omega | assumption | grind) ?_))
      refine again_of (40 - (i + 1)) _ id (by omega) ⟨i + 1, h.1, by omega, rfl, ?_, rfl⟩ ⟨rfl, ?_, ?_, ?_⟩
      · rw [all_take l i h.1, h3]; simp; omega
      · have : ((i : Int) + 1) = ((i + 1 : Nat) : Int) := by omega
        simp [leT, ltV, lt1, ren, ren1, wrap_i64_in (n := (i : Int) + 1) (by omega) (by omega)]
      · simp [leO, lt1, ren1]
      · simp
  · simp at h
    repeat (first | (with_reducible refine awp_seqK fun K hK => ?_) | (with_reducible refine awp_block ?_) | (with_reducible refine awp_region (by kernel_rfl) ?_; simp) | (first | (with_reducible refine hK _ ?_; clear hK) | (clear hK; (first | (with_reducible refine hK _ ?_; clear hK) | (clear hK; (first | (with_reducible refine hK _ ?_; clear hK) | (clear hK; (first | (with_reducible refine hK _ ?_; clear hK) | (clear hK; (first | (with_reducible refine hK _ ?_; clear hK) | (clear hK; (first | (with_reducible refine hK _ ?_; clear hK) | (clear hK; (first | (with_reducible refine hK _ ?_; clear hK) | (clear hK; (first | (with_reducible refine hK _ ?_; clear hK) | (clear hK; (first | (with_reducible refine hK _ ?_; clear hK) | (clear hK; (first | (with_reducible refine hK _ ?_; clear hK) | (clear hK; (first | (with_reducible refine hK _ ?_; clear hK) | (clear hK; (first | (with_reducible refine hK _ ?_; clear hK)))))))))))))))))))))))) | ((with_reducible first | refine gcall_tt ?_ | refine gcall_ff ?_ | refine gcall_tf ?_ | refine gcall_ft ?_); simp) | (with_reducible refine awp_skip ?_; simp) | (with_reducible refine awp_exit ?_; simp) | (refine And.intro (by first | omega | assumption | grind) ?_))
    refine awp_ret ?_
    have hb : fewB l = decide (l.length ≤ 30) := by
      unfold fewB
      rcases Nat.lt_or_ge i l.length with hc | hc
      · have hi : i = 40 := by have := h hc; omega
        subst hi
        rw [h3, Bool.true_and]
      · rw [List.take_of_length_le hc] at h3
        have : (l.take 40).all (fun s => decide (s.length ≤ 200)) = true := by
          rw [List.all_eq_true] at h3 ⊢
          exact fun s hs => h3 s (List.mem_of_mem_take hs)
        rw [this, Bool.true_and]
    simp [hb, hsl]; try omega
end Go.Proofs.Ytnjpakhnaegdgaa
