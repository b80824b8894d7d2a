/- Contracts of law 25's functions: plain, gated. -/
import Derived.Test.YtnjpakhnaegdgaaFn24
namespace Go.Proofs.Ytnjpakhnaegdgaa
open Go.Ab
set_option linter.unusedSimpArgs false
set_option maxRecDepth 100000
theorem rels_at (l : List (OutD × Int)) (i : Nat) (h : i < l.length) : (rels l)[i]? = some (l[i].1.row ++ [.int .u64 l[i].2]) := by simp [rels, h]
set_option maxHeartbeats 4000000 in
theorem plain_ok (l : List (OutD × Int)) (hl : l.length ≤ 100000) : Meets Try.prog 60 [.sl 5 false (rels l)] (.new 48 4 (outs (l.map (·.1)))) := by
  have hll := rels_len l
  refine Meets.of Try.func60 rfl (by kernel_rfl) rfl ?_
  simp only [Try.ntmps60, St.start, argT]
  repeat (first | (with_reducible refine awp_seqK fun K hK => ?_) | (with_reducible refine awp_block ?_) | (with_reducible refine awp_region (by kernel_rfl) ?_; simp [hll]) | (first | (with_reducible refine hK _ ?_; clear hK) | (clear hK; (first | (with_reducible refine hK _ ?_; clear hK) | (clear hK; (first | (with_reducible refine hK _ ?_; clear hK) | (clear hK; (first | (with_reducible refine hK _ ?_; clear hK) | (clear hK; (first | (with_reducible refine hK _ ?_; clear hK) | (clear hK; (first | (with_reducible refine hK _ ?_; clear hK) | (clear hK; (first | (with_reducible refine hK _ ?_; clear hK) | (clear hK; (first | (with_reducible refine hK _ ?_; clear hK) | (clear hK; (first | (with_reducible refine hK _ ?_; clear hK) | (clear hK; (first | (with_reducible refine hK _ ?_; clear hK) | (clear hK; (first | (with_reducible refine hK _ ?_; clear hK) | (clear hK; (first | (with_reducible refine hK _ ?_; clear hK)))))))))))))))))))))))) | ((with_reducible first | refine gcall_tt ?_ | refine gcall_ff ?_ | refine gcall_tf ?_ | refine gcall_ft ?_); simp [hll]) | (with_reducible refine awp_skip ?_; simp [hll]) | (with_reducible refine awp_exit ?_; simp [hll]) | (refine And.intro (by first | omega | assumption | grind) ?_))
  refine awp_nilOwn 3 48 4 (by decide) rfl ?_
  obtain ⟨I, hI⟩ : ∃ I : Nat → St → Prop, I = (fun kk ss => ∃ (i : Nat) (g : List OutD), i ≤ l.length ∧ kk = l.length - i ∧ (g = (l.take i).map (·.1)) ∧ ss = ⟨20, [(4, .int .i64 i), (3, .own 0), (0, .sl 5 false (rels l))], 1, [(0, some ⟨48, 4, false, false, outs g⟩)]⟩) := ⟨_, rfl⟩
  refine awp_loopA I (k0 := l.length) (st0 := (fun (i : Nat) (g : List OutD) => (⟨20, [(4, .int .i64 i), (3, .own 0), (0, .sl 5 false (rels l))], 1, [(0, some ⟨48, 4, false, false, outs g⟩)]⟩ : St)) 0 []) (ρ0 := id) ⟨rfl, by simp [leT, ltV, lt1, ren, ren1], by simp [leO, lt1, ren1], by simp⟩ (by rw [hI]; exact ⟨0, [], by simp, by simp, by simp, rfl⟩) ?_
  intro kk ss hIk _
  rw [hI] at hIk
  obtain ⟨i, g, hi, rfl, hx, rfl⟩ := hIk
  repeat (first | (with_reducible refine awp_seqK fun K hK => ?_) | (with_reducible refine awp_block ?_) | (with_reducible refine awp_region (by kernel_rfl) ?_; simp [hll]) | (first | (with_reducible refine hK _ ?_; clear hK) | (clear hK; (first | (with_reducible refine hK _ ?_; clear hK) | (clear hK; (first | (with_reducible refine hK _ ?_; clear hK) | (clear hK; (first | (with_reducible refine hK _ ?_; clear hK) | (clear hK; (first | (with_reducible refine hK _ ?_; clear hK) | (clear hK; (first | (with_reducible refine hK _ ?_; clear hK) | (clear hK; (first | (with_reducible refine hK _ ?_; clear hK) | (clear hK; (first | (with_reducible refine hK _ ?_; clear hK) | (clear hK; (first | (with_reducible refine hK _ ?_; clear hK) | (clear hK; (first | (with_reducible refine hK _ ?_; clear hK) | (clear hK; (first | (with_reducible refine hK _ ?_; clear hK) | (clear hK; (first | (with_reducible refine hK _ ?_; clear hK)))))))))))))))))))))))) | ((with_reducible first | refine gcall_tt ?_ | refine gcall_ff ?_ | refine gcall_tf ?_ | refine gcall_ft ?_); simp [hll]) | (with_reducible refine awp_skip ?_; simp [hll]) | (with_reducible refine awp_exit ?_; simp [hll]) | (refine And.intro (by first | omega | assumption | grind) ?_))
  refine awp_cond rfl (fun h => ?_) (fun h => ?_)
  · simp at h
    have hx1 := rels_at l i h
    have htk : l.take (i + 1) = l.take i ++ [l[i]] := List.take_succ_eq_append_getElem h
    have hgl : g.length ≤ 100000 := by rw [hx]; simp; omega
    have hol := outs_len g
    have hg2 : (l.take (i + 1)).map (·.1) = g ++ [l[i].1] := by rw [htk, List.map_append, hx]; rfl
    generalize l[i] = x at hx1 hg2
    repeat (first | (with_reducible refine awp_seqK fun K hK => ?_) | (with_reducible refine awp_block ?_) | (with_reducible refine awp_region (by kernel_rfl) ?_; simp [hx1, hll, hol, maxLen]) | (first | (with_reducible refine hK _ ?_; clear hK) | (clear hK; (first | (with_reducible refine hK _ ?_; clear hK) | (clear hK; (first | (with_reducible refine hK _ ?_; clear hK) | (clear hK; (first | (with_reducible refine hK _ ?_; clear hK) | (clear hK; (first | (with_reducible refine hK _ ?_; clear hK) | (clear hK; (first | (with_reducible refine hK _ ?_; clear hK) | (clear hK; (first | (with_reducible refine hK _ ?_; clear hK) | (clear hK; (first | (with_reducible refine hK _ ?_; clear hK) | (clear hK; (first | (with_reducible refine hK _ ?_; clear hK) | (clear hK; (first | (with_reducible refine hK _ ?_; clear hK) | (clear hK; (first | (with_reducible refine hK _ ?_; clear hK) | (clear hK; (first | (with_reducible refine hK _ ?_; clear hK)))))))))))))))))))))))) | ((with_reducible first | refine gcall_tt ?_ | refine gcall_ff ?_ | refine gcall_tf ?_ | refine gcall_ft ?_); simp [hx1, hll, hol, maxLen]) | (with_reducible refine awp_skip ?_; simp [hx1, hll, hol, maxLen]) | (with_reducible refine awp_exit ?_; simp [hx1, hll, hol, maxLen]) | (refine And.intro (by first | omega | assumption | grind) ?_))
    refine again_of (l.length - (i + 1)) ((fun (i : Nat) (g : List OutD) => (⟨20, [(4, .int .i64 i), (3, .own 0), (0, .sl 5 false (rels l))], 1, [(0, some ⟨48, 4, false, false, outs g⟩)]⟩ : St)) (i + 1) (g ++ [x.1])) (fun _ => 2) (by omega) (by rw [hI]; exact ⟨i + 1, (g ++ [x.1]), by omega, rfl, hg2.symm, rfl⟩) ⟨rfl, ?_, ?_, ?_⟩
    · simp [leT, ltV, lt1, ren, ren1, wrap_i64_in (n := (i : Int) + 1) (by omega) (by omega), outs]
    · simp [leO, lt1, ren1, outs]
    · simp
  · simp at h
    have hil : i = l.length := by omega
    subst hil
    rw [List.take_length] at hx
    subst hx
    repeat (first | (with_reducible refine awp_seqK fun K hK => ?_) | (with_reducible refine awp_block ?_) | (with_reducible refine awp_region (by kernel_rfl) ?_; simp) | (first | (with_reducible refine hK _ ?_; clear hK) | (clear hK; (first | (with_reducible refine hK _ ?_; clear hK) | (clear hK; (first | (with_reducible refine hK _ ?_; clear hK) | (clear hK; (first | (with_reducible refine hK _ ?_; clear hK) | (clear hK; (first | (with_reducible refine hK _ ?_; clear hK) | (clear hK; (first | (with_reducible refine hK _ ?_; clear hK) | (clear hK; (first | (with_reducible refine hK _ ?_; clear hK) | (clear hK; (first | (with_reducible refine hK _ ?_; clear hK) | (clear hK; (first | (with_reducible refine hK _ ?_; clear hK) | (clear hK; (first | (with_reducible refine hK _ ?_; clear hK) | (clear hK; (first | (with_reducible refine hK _ ?_; clear hK) | (clear hK; (first | (with_reducible refine hK _ ?_; clear hK)))))))))))))))))))))))) | ((with_reducible first | refine gcall_tt ?_ | refine gcall_ff ?_ | refine gcall_tf ?_ | refine gcall_ft ?_); simp) | (with_reducible refine awp_skip ?_; simp) | (with_reducible refine awp_exit ?_; simp) | (refine And.intro (by first | omega | assumption | grind) ?_))
    refine awp_ret ?_
    simp
def gatedL (b : Int) (l : List OutD) : List OutD := l.filter fun o => decide (o.at_ < b) && gkind o
theorem gatedL_app (b : Int) (l : List OutD) (o : OutD) : gatedL b (l ++ [o]) = gatedL b l ++ if decide (o.at_ < b) && gkind o then [o] else [] := by
  unfold gatedL; rw [List.filter_append]; simp [List.filter_cons]
theorem gatedL_le (b : Int) (l : List OutD) : (gatedL b l).length ≤ l.length := List.length_filter_le ..
set_option maxHeartbeats 4000000 in
theorem gatedL_ok (l : List OutD) (b : Int) (hl : l.length ≤ 100000) : Meets Try.prog 62 [.sl 4 false (outs l), .int .u64 b] (.new 48 4 (outs (gatedL b l))) := by
  have hll := outs_len l
  refine Meets.of Try.func62 rfl (by kernel_rfl) rfl ?_
  simp only [Try.ntmps62, St.start, argT]
  repeat (first | (with_reducible refine awp_seqK fun K hK => ?_) | (with_reducible refine awp_block ?_) | (with_reducible refine awp_region (by kernel_rfl) ?_; simp [hll]) | (first | (with_reducible refine hK _ ?_; clear hK) | (clear hK; (first | (with_reducible refine hK _ ?_; clear hK) | (clear hK; (first | (with_reducible refine hK _ ?_; clear hK) | (clear hK; (first | (with_reducible refine hK _ ?_; clear hK) | (clear hK; (first | (with_reducible refine hK _ ?_; clear hK) | (clear hK; (first | (with_reducible refine hK _ ?_; clear hK) | (clear hK; (first | (with_reducible refine hK _ ?_; clear hK) | (clear hK; (first | (with_reducible refine hK _ ?_; clear hK) | (clear hK; (first | (with_reducible refine hK _ ?_; clear hK) | (clear hK; (first | (with_reducible refine hK _ ?_; clear hK) | (clear hK; (first | (with_reducible refine hK _ ?_; clear hK) | (clear hK; (first | (with_reducible refine hK _ ?_; clear hK)))))))))))))))))))))))) | ((with_reducible first | refine gcall_tt ?_ | refine gcall_ff ?_ | refine gcall_tf ?_ | refine gcall_ft ?_); simp [hll]) | (with_reducible refine awp_skip ?_; simp [hll]) | (with_reducible refine awp_exit ?_; simp [hll]) | (refine And.intro (by first | omega | assumption | grind) ?_))
  refine awp_nilOwn 5 48 4 (by decide) rfl ?_
  obtain ⟨I, hI⟩ : ∃ I : Nat → St → Prop, I = (fun kk ss => ∃ (i : Nat) (g : List OutD), i ≤ l.length ∧ kk = l.length - i ∧ (g = gatedL b (l.take i)) ∧ ss = ⟨44, [(6, .int .i64 i), (5, .own 0), (1, .int .u64 b), (0, .sl 4 false (outs l))], 1, [(0, some ⟨48, 4, false, false, outs g⟩)]⟩) := ⟨_, rfl⟩
  refine awp_loopA I (k0 := l.length) (st0 := (fun (i : Nat) (g : List OutD) => (⟨44, [(6, .int .i64 i), (5, .own 0), (1, .int .u64 b), (0, .sl 4 false (outs l))], 1, [(0, some ⟨48, 4, false, false, outs g⟩)]⟩ : St)) 0 []) (ρ0 := id) ⟨rfl, by simp [leT, ltV, lt1, ren, ren1], by simp [leO, lt1, ren1], by simp⟩ (by rw [hI]; exact ⟨0, [], by simp, by simp, by simp [gatedL], rfl⟩) ?_
  intro kk ss hIk _
  rw [hI] at hIk
  obtain ⟨i, g, hi, rfl, hx, rfl⟩ := hIk
  repeat (first | (with_reducible refine awp_seqK fun K hK => ?_) | (with_reducible refine awp_block ?_) | (with_reducible refine awp_region (by kernel_rfl) ?_; simp [hll]) | (first | (with_reducible refine hK _ ?_; clear hK) | (clear hK; (first | (with_reducible refine hK _ ?_; clear hK) | (clear hK; (first | (with_reducible refine hK _ ?_; clear hK) | (clear hK; (first | (with_reducible refine hK _ ?_; clear hK) | (clear hK; (first | (with_reducible refine hK _ ?_; clear hK) | (clear hK; (first | (with_reducible refine hK _ ?_; clear hK) | (clear hK; (first | (with_reducible refine hK _ ?_; clear hK) | (clear hK; (first | (with_reducible refine hK _ ?_; clear hK) | (clear hK; (first | (with_reducible refine hK _ ?_; clear hK) | (clear hK; (first | (with_reducible refine hK _ ?_; clear hK) | (clear hK; (first | (with_reducible refine hK _ ?_; clear hK) | (clear hK; (first | (with_reducible refine hK _ ?_; clear hK)))))))))))))))))))))))) | ((with_reducible first | refine gcall_tt ?_ | refine gcall_ff ?_ | refine gcall_tf ?_ | refine gcall_ft ?_); simp [hll]) | (with_reducible refine awp_skip ?_; simp [hll]) | (with_reducible refine awp_exit ?_; simp [hll]) | (refine And.intro (by first | omega | assumption | grind) ?_))
  refine awp_cond rfl (fun h => ?_) (fun h => ?_)
  · simp at h
    have hx1 := outs_at l i h
    have htk : l.take (i + 1) = l.take i ++ [l[i]] := List.take_succ_eq_append_getElem h
    have hgl : g.length ≤ 100000 := by
      have := gatedL_le b (l.take i)
      rw [hx]; simp at this; omega
    have hol := outs_len g
    have hg2 := gatedL_app b (l.take i) l[i]
    rw [← htk, ← hx] at hg2
    generalize l[i] = o at hx1 hg2
    repeat (first | (with_reducible refine awp_seqK fun K hK => ?_) | (with_reducible refine awp_block ?_) | (with_reducible refine awp_region (by kernel_rfl) ?_; simp [hx1, hll, hol, maxLen]) | (first | (with_reducible refine hK _ ?_; clear hK) | (clear hK; (first | (with_reducible refine hK _ ?_; clear hK) | (clear hK; (first | (with_reducible refine hK _ ?_; clear hK) | (clear hK; (first | (with_reducible refine hK _ ?_; clear hK) | (clear hK; (first | (with_reducible refine hK _ ?_; clear hK) | (clear hK; (first | (with_reducible refine hK _ ?_; clear hK) | (clear hK; (first | (with_reducible refine hK _ ?_; clear hK) | (clear hK; (first | (with_reducible refine hK _ ?_; clear hK) | (clear hK; (first | (with_reducible refine hK _ ?_; clear hK) | (clear hK; (first | (with_reducible refine hK _ ?_; clear hK) | (clear hK; (first | (with_reducible refine hK _ ?_; clear hK) | (clear hK; (first | (with_reducible refine hK _ ?_; clear hK)))))))))))))))))))))))) | ((with_reducible first | refine gcall_tt ?_ | refine gcall_ff ?_ | refine gcall_tf ?_ | refine gcall_ft ?_); simp [hx1, hll, hol, maxLen]) | (with_reducible refine awp_skip ?_; simp [hx1, hll, hol, maxLen]) | (with_reducible refine awp_exit ?_; simp [hx1, hll, hol, maxLen]) | (refine And.intro (by first | omega | assumption | grind) ?_))
    refine awp_cond rfl (fun h2 => ?_) (fun h2 => ?_)
    · have hc : (decide (o.at_ < b) && gkind o) = true := by simp [gkind] at h2 ⊢; grind
      rw [hc, if_pos rfl] at hg2
      repeat (first | (with_reducible refine awp_seqK fun K hK => ?_) | (with_reducible refine awp_block ?_) | (with_reducible refine awp_region (by kernel_rfl) ?_; simp [hx1, hll, hol, maxLen]) | (first | (with_reducible refine hK _ ?_; clear hK) | (clear hK; (first | (with_reducible refine hK _ ?_; clear hK) | (clear hK; (first | (with_reducible refine hK _ ?_; clear hK) | (clear hK; (first | (with_reducible refine hK _ ?_; clear hK) | (clear hK; (first | (with_reducible refine hK _ ?_; clear hK) | (clear hK; (first | (with_reducible refine hK _ ?_; clear hK) | (clear hK; (first | (with_reducible refine hK _ ?_; clear hK) | (clear hK; (first | (with_reducible refine hK _ ?_; clear hK) | (clear hK; (first | (with_reducible refine hK _ ?_; clear hK) | (clear hK; (first | (with_reducible refine hK _ ?_; clear hK) | (clear hK; (first | (with_reducible refine hK _ ?_; clear hK) | (clear hK; (first | (with_reducible refine hK _ ?_; clear hK)))))))))))))))))))))))) | ((with_reducible first | refine gcall_tt ?_ | refine gcall_ff ?_ | refine gcall_tf ?_ | refine gcall_ft ?_); simp [hx1, hll, hol, maxLen]) | (with_reducible refine awp_skip ?_; simp [hx1, hll, hol, maxLen]) | (with_reducible refine awp_exit ?_; simp [hx1, hll, hol, maxLen]) | (refine And.intro (by first | omega | assumption | grind) ?_))
      refine again_of (l.length - (i + 1)) ((fun (i : Nat) (g : List OutD) => (⟨44, [(6, .int .i64 i), (5, .own 0), (1, .int .u64 b), (0, .sl 4 false (outs l))], 1, [(0, some ⟨48, 4, false, false, outs g⟩)]⟩ : St)) (i + 1) (g ++ [o])) (fun _ => 2) (by omega) (by rw [hI]; exact ⟨i + 1, (g ++ [o]), by omega, rfl, hg2.symm, rfl⟩) ⟨rfl, ?_, ?_, ?_⟩
      · simp [leT, ltV, lt1, ren, ren1, wrap_i64_in (n := (i : Int) + 1) (by omega) (by omega), outs]
      · simp [leO, lt1, ren1, outs]
      · simp
    · have hc : (decide (o.at_ < b) && gkind o) = false := by simp [gkind] at h2 ⊢; grind
      rw [hc] at hg2
      simp at hg2
      repeat (first | (with_reducible refine awp_seqK fun K hK => ?_) | (with_reducible refine awp_block ?_) | (with_reducible refine awp_region (by kernel_rfl) ?_; simp) | (first | (with_reducible refine hK _ ?_; clear hK) | (clear hK; (first | (with_reducible refine hK _ ?_; clear hK) | (clear hK; (first | (with_reducible refine hK _ ?_; clear hK) | (clear hK; (first | (with_reducible refine hK _ ?_; clear hK) | (clear hK; (first | (with_reducible refine hK _ ?_; clear hK) | (clear hK; (first | (with_reducible refine hK _ ?_; clear hK) | (clear hK; (first | (with_reducible refine hK _ ?_; clear hK) | (clear hK; (first | (with_reducible refine hK _ ?_; clear hK) | (clear hK; (first | (with_reducible refine hK _ ?_; clear hK) | (clear hK; (first | (with_reducible refine hK _ ?_; clear hK) | (clear hK; (first | (with_reducible refine hK _ ?_; clear hK) | (clear hK; (first | (with_reducible refine hK _ ?_; clear hK)))))))))))))))))))))))) | ((with_reducible first | refine gcall_tt ?_ | refine gcall_ff ?_ | refine gcall_tf ?_ | refine gcall_ft ?_); simp) | (with_reducible refine awp_skip ?_; simp) | (with_reducible refine awp_exit ?_; simp) | (refine And.intro (by first | omega | assumption | grind) ?_))
      refine again_of (l.length - (i + 1)) ((fun (i : Nat) (g : List OutD) => (⟨44, [(6, .int .i64 i), (5, .own 0), (1, .int .u64 b), (0, .sl 4 false (outs l))], 1, [(0, some ⟨48, 4, false, false, outs g⟩)]⟩ : St)) (i + 1) g) (id) (by omega) (by rw [hI]; exact ⟨i + 1, g, by omega, rfl, hg2.symm, rfl⟩) ⟨rfl, ?_, ?_, ?_⟩
      · simp [leT, ltV, lt1, ren, ren1, wrap_i64_in (n := (i : Int) + 1) (by omega) (by omega)]
      · simp [leO, lt1, ren1]
      · simp
  · simp at h
    have hil : i = l.length := by omega
    subst hil
    rw [List.take_length] at hx
    subst hx
    repeat (first | (with_reducible refine awp_seqK fun K hK => ?_) | (with_reducible refine awp_block ?_) | (with_reducible refine awp_region (by kernel_rfl) ?_; simp) | (first | (with_reducible refine hK _ ?_; clear hK) | (clear hK; (first | (with_reducible refine hK _ ?_; clear hK) | (clear hK; (first | (with_reducible refine hK _ ?_; clear hK) | (clear hK; (first | (with_reducible refine hK _ ?_; clear hK) | (clear hK; (first | (with_reducible refine hK _ ?_; clear hK) | (clear hK; (first | (with_reducible refine hK _ ?_; clear hK) | (clear hK; (first | (with_reducible refine hK _ ?_; clear hK) | (clear hK; (first | (with_reducible refine hK _ ?_; clear hK) | (clear hK; (first | (with_reducible refine hK _ ?_; clear hK) | (clear hK; (first | (with_reducible refine hK _ ?_; clear hK) | (clear hK; (first | (with_reducible refine hK _ ?_; clear hK) | (clear hK; (first | (with_reducible refine hK _ ?_; clear hK)))))))))))))))))))))))) | ((with_reducible first | refine gcall_tt ?_ | refine gcall_ff ?_ | refine gcall_tf ?_ | refine gcall_ft ?_); simp) | (with_reducible refine awp_skip ?_; simp) | (with_reducible refine awp_exit ?_; simp) | (refine And.intro (by first | omega | assumption | grind) ?_))
    refine awp_ret ?_
    simp
end Go.Proofs.Ytnjpakhnaegdgaa
