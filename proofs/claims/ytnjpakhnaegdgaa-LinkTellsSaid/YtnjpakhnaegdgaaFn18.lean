/- Contract of the document's Corrupt. -/
import Derived.Test.YtnjpakhnaegdgaaFn17
namespace Go.Proofs.Ytnjpakhnaegdgaa
open Go.Ab
set_option linter.unusedSimpArgs false
set_option maxRecDepth 100000
set_option maxHeartbeats 2000000 in
theorem corruptR_ok (l : List (List UInt8)) (c : Bool) (k bit : Int) (hb : l.length ≤ 1048576) (hbl : ∀ s ∈ l, s.length ≤ 1000000) : Meets Try.prog 44 [linkV l c, .int .i64 k, .int .i64 bit]
    (.tup [linkV (if corB l k then l.set k.toNat (flipAt (l.getD k.toNat []) (flipM bit (l.getD k.toNat []).length)) else l) c, .bool (corB l k)]) := by
  have hsl := sstr_len l
  refine Meets.of Try.func44 rfl (by kernel_rfl) rfl ?_
  simp only [Try.ntmps44, St.start, argT]
  repeat (first | (with_reducible refine awp_seqK fun K hK => ?_) | (with_reducible refine awp_block ?_) | (with_reducible refine awp_region (by kernel_rfl) ?_; simp) | (first | (with_reducible refine hK _ ?_; clear hK) | (clear hK; (first | (with_reducible refine hK _ ?_; clear hK) | (clear hK; (first | (with_reducible refine hK _ ?_; clear hK) | (clear hK; (first | (with_reducible refine hK _ ?_; clear hK) | (clear hK; (first | (with_reducible refine hK _ ?_; clear hK) | (clear hK; (first | (with_reducible refine hK _ ?_; clear hK) | (clear hK; (first | (with_reducible refine hK _ ?_; clear hK) | (clear hK; (first | (with_reducible refine hK _ ?_; clear hK) | (clear hK; (first | (with_reducible refine hK _ ?_; clear hK) | (clear hK; (first | (with_reducible refine hK _ ?_; clear hK) | (clear hK; (first | (with_reducible refine hK _ ?_; clear hK) | (clear hK; (first | (with_reducible refine hK _ ?_; clear hK)))))))))))))))))))))))) | ((with_reducible first | refine gcall_tt ?_ | refine gcall_ff ?_ | refine gcall_tf ?_ | refine gcall_ft ?_); simp) | (with_reducible refine awp_skip ?_; simp) | (with_reducible refine awp_exit ?_; simp) | (refine And.intro (by first | omega | assumption | grind) ?_))
  first | refine ⟨0, _, packets_ok l c hb, ?_⟩ | refine ⟨0, _, Meets.wk (packets_ok l c hb) (by simp), ?_⟩
  simp [aftC, aftE]
  repeat (first | (with_reducible refine awp_seqK fun K hK => ?_) | (with_reducible refine awp_block ?_) | (with_reducible refine awp_region (by kernel_rfl) ?_; simp) | (first | (with_reducible refine hK _ ?_; clear hK) | (clear hK; (first | (with_reducible refine hK _ ?_; clear hK) | (clear hK; (first | (with_reducible refine hK _ ?_; clear hK) | (clear hK; (first | (with_reducible refine hK _ ?_; clear hK) | (clear hK; (first | (with_reducible refine hK _ ?_; clear hK) | (clear hK; (first | (with_reducible refine hK _ ?_; clear hK) | (clear hK; (first | (with_reducible refine hK _ ?_; clear hK) | (clear hK; (first | (with_reducible refine hK _ ?_; clear hK) | (clear hK; (first | (with_reducible refine hK _ ?_; clear hK) | (clear hK; (first | (with_reducible refine hK _ ?_; clear hK) | (clear hK; (first | (with_reducible refine hK _ ?_; clear hK) | (clear hK; (first | (with_reducible refine hK _ ?_; clear hK)))))))))))))))))))))))) | ((with_reducible first | refine gcall_tt ?_ | refine gcall_ff ?_ | refine gcall_tf ?_ | refine gcall_ft ?_); simp) | (with_reducible refine awp_skip ?_; simp) | (with_reducible refine awp_exit ?_; simp) | (refine And.intro (by first | omega | assumption | grind) ?_))
  cases hh : hasB l k with
  | false =>
    have hc := there_ok l c k
    rw [hh] at hc
    have hcB : corB l k = false := by simp [corB, hh]
    rcases sstr_any l k.toNat with hx | ⟨y, hx⟩
    · refine ⟨1, _, hc, ?_⟩
      simp [aftC, noX, noXc, noX1, hx, hsl]
      repeat (first | (with_reducible refine awp_seqK fun K hK => ?_) | (with_reducible refine awp_block ?_) | (with_reducible refine awp_region (by kernel_rfl) ?_; simp) | (first | (with_reducible refine hK _ ?_; clear hK) | (clear hK; (first | (with_reducible refine hK _ ?_; clear hK) | (clear hK; (first | (with_reducible refine hK _ ?_; clear hK) | (clear hK; (first | (with_reducible refine hK _ ?_; clear hK) | (clear hK; (first | (with_reducible refine hK _ ?_; clear hK) | (clear hK; (first | (with_reducible refine hK _ ?_; clear hK) | (clear hK; (first | (with_reducible refine hK _ ?_; clear hK) | (clear hK; (first | (with_reducible refine hK _ ?_; clear hK) | (clear hK; (first | (with_reducible refine hK _ ?_; clear hK) | (clear hK; (first | (with_reducible refine hK _ ?_; clear hK) | (clear hK; (first | (with_reducible refine hK _ ?_; clear hK) | (clear hK; (first | (with_reducible refine hK _ ?_; clear hK)))))))))))))))))))))))) | ((with_reducible first | refine gcall_tt ?_ | refine gcall_ff ?_ | refine gcall_tf ?_ | refine gcall_ft ?_); simp) | (with_reducible refine awp_skip ?_; simp) | (with_reducible refine awp_exit ?_; simp) | (refine And.intro (by first | omega | assumption | grind) ?_))
      refine awp_cond rfl (fun _ => ?_) (fun h => by simp at h)
      repeat (first | (with_reducible refine awp_seqK fun K hK => ?_) | (with_reducible refine awp_block ?_) | (with_reducible refine awp_region (by kernel_rfl) ?_; simp) | (first | (with_reducible refine hK _ ?_; clear hK) | (clear hK; (first | (with_reducible refine hK _ ?_; clear hK) | (clear hK; (first | (with_reducible refine hK _ ?_; clear hK) | (clear hK; (first | (with_reducible refine hK _ ?_; clear hK) | (clear hK; (first | (with_reducible refine hK _ ?_; clear hK) | (clear hK; (first | (with_reducible refine hK _ ?_; clear hK) | (clear hK; (first | (with_reducible refine hK _ ?_; clear hK) | (clear hK; (first | (with_reducible refine hK _ ?_; clear hK) | (clear hK; (first | (with_reducible refine hK _ ?_; clear hK) | (clear hK; (first | (with_reducible refine hK _ ?_; clear hK) | (clear hK; (first | (with_reducible refine hK _ ?_; clear hK) | (clear hK; (first | (with_reducible refine hK _ ?_; clear hK)))))))))))))))))))))))) | ((with_reducible first | refine gcall_tt ?_ | refine gcall_ff ?_ | refine gcall_tf ?_ | refine gcall_ft ?_); simp) | (with_reducible refine awp_skip ?_; simp) | (with_reducible refine awp_exit ?_; simp) | (refine And.intro (by first | omega | assumption | grind) ?_))
      refine awp_fzA ?_
      refine awp_ret ?_
      simp [hcB]
    · refine ⟨1, _, hc, ?_⟩
      simp [aftC, noX, noXc, noX1, hx, hsl]
      repeat (first | (with_reducible refine awp_seqK fun K hK => ?_) | (with_reducible refine awp_block ?_) | (with_reducible refine awp_region (by kernel_rfl) ?_; simp) | (first | (with_reducible refine hK _ ?_; clear hK) | (clear hK; (first | (with_reducible refine hK _ ?_; clear hK) | (clear hK; (first | (with_reducible refine hK _ ?_; clear hK) | (clear hK; (first | (with_reducible refine hK _ ?_; clear hK) | (clear hK; (first | (with_reducible refine hK _ ?_; clear hK) | (clear hK; (first | (with_reducible refine hK _ ?_; clear hK) | (clear hK; (first | (with_reducible refine hK _ ?_; clear hK) | (clear hK; (first | (with_reducible refine hK _ ?_; clear hK) | (clear hK; (first | (with_reducible refine hK _ ?_; clear hK) | (clear hK; (first | (with_reducible refine hK _ ?_; clear hK) | (clear hK; (first | (with_reducible refine hK _ ?_; clear hK) | (clear hK; (first | (with_reducible refine hK _ ?_; clear hK)))))))))))))))))))))))) | ((with_reducible first | refine gcall_tt ?_ | refine gcall_ff ?_ | refine gcall_tf ?_ | refine gcall_ft ?_); simp) | (with_reducible refine awp_skip ?_; simp) | (with_reducible refine awp_exit ?_; simp) | (refine And.intro (by first | omega | assumption | grind) ?_))
      refine awp_cond rfl (fun _ => ?_) (fun h => by simp at h)
      repeat (first | (with_reducible refine awp_seqK fun K hK => ?_) | (with_reducible refine awp_block ?_) | (with_reducible refine awp_region (by kernel_rfl) ?_; simp) | (first | (with_reducible refine hK _ ?_; clear hK) | (clear hK; (first | (with_reducible refine hK _ ?_; clear hK) | (clear hK; (first | (with_reducible refine hK _ ?_; clear hK) | (clear hK; (first | (with_reducible refine hK _ ?_; clear hK) | (clear hK; (first | (with_reducible refine hK _ ?_; clear hK) | (clear hK; (first | (with_reducible refine hK _ ?_; clear hK) | (clear hK; (first | (with_reducible refine hK _ ?_; clear hK) | (clear hK; (first | (with_reducible refine hK _ ?_; clear hK) | (clear hK; (first | (with_reducible refine hK _ ?_; clear hK) | (clear hK; (first | (with_reducible refine hK _ ?_; clear hK) | (clear hK; (first | (with_reducible refine hK _ ?_; clear hK) | (clear hK; (first | (with_reducible refine hK _ ?_; clear hK)))))))))))))))))))))))) | ((with_reducible first | refine gcall_tt ?_ | refine gcall_ff ?_ | refine gcall_tf ?_ | refine gcall_ft ?_); simp) | (with_reducible refine awp_skip ?_; simp) | (with_reducible refine awp_exit ?_; simp) | (refine And.intro (by first | omega | assumption | grind) ?_))
      refine awp_fzA ?_
      refine awp_ret ?_
      simp [hcB]
  | true =>
    have h1 : 0 ≤ k ∧ k < l.length := by simpa [hasB] using hh
    have hx := sstr_get l k.toNat (by omega)
    have hc := there_ok l c k
    rw [hh] at hc
    refine ⟨1, _, hc, ?_⟩
    simp [aftC, noX, noXc, noX1, hx, hsl]
    repeat (first | (with_reducible refine awp_seqK fun K hK => ?_) | (with_reducible refine awp_block ?_) | (with_reducible refine awp_region (by kernel_rfl) ?_; simp [hx, hsl]) | (first | (with_reducible refine hK _ ?_; clear hK) | (clear hK; (first | (with_reducible refine hK _ ?_; clear hK) | (clear hK; (first | (with_reducible refine hK _ ?_; clear hK) | (clear hK; (first | (with_reducible refine hK _ ?_; clear hK) | (clear hK; (first | (with_reducible refine hK _ ?_; clear hK) | (clear hK; (first | (with_reducible refine hK _ ?_; clear hK) | (clear hK; (first | (with_reducible refine hK _ ?_; clear hK) | (clear hK; (first | (with_reducible refine hK _ ?_; clear hK) | (clear hK; (first | (with_reducible refine hK _ ?_; clear hK) | (clear hK; (first | (with_reducible refine hK _ ?_; clear hK) | (clear hK; (first | (with_reducible refine hK _ ?_; clear hK) | (clear hK; (first | (with_reducible refine hK _ ?_; clear hK)))))))))))))))))))))))) | ((with_reducible first | refine gcall_tt ?_ | refine gcall_ff ?_ | refine gcall_tf ?_ | refine gcall_ft ?_); simp [hx, hsl]) | (with_reducible refine awp_skip ?_; simp [hx, hsl]) | (with_reducible refine awp_exit ?_; simp [hx, hsl]) | (refine And.intro (by first | omega | assumption | grind) ?_))
    generalize hy : l[k.toNat]?.getD [] = y
    refine awp_cond rfl (fun h => ?_) (fun h => ?_)
    · simp at h
      repeat (first | (with_reducible refine awp_seqK fun K hK => ?_) | (with_reducible refine awp_block ?_) | (with_reducible refine awp_region (by kernel_rfl) ?_; simp) | (first | (with_reducible refine hK _ ?_; clear hK) | (clear hK; (first | (with_reducible refine hK _ ?_; clear hK) | (clear hK; (first | (with_reducible refine hK _ ?_; clear hK) | (clear hK; (first | (with_reducible refine hK _ ?_; clear hK) | (clear hK; (first | (with_reducible refine hK _ ?_; clear hK) | (clear hK; (first | (with_reducible refine hK _ ?_; clear hK) | (clear hK; (first | (with_reducible refine hK _ ?_; clear hK) | (clear hK; (first | (with_reducible refine hK _ ?_; clear hK) | (clear hK; (first | (with_reducible refine hK _ ?_; clear hK) | (clear hK; (first | (with_reducible refine hK _ ?_; clear hK) | (clear hK; (first | (with_reducible refine hK _ ?_; clear hK) | (clear hK; (first | (with_reducible refine hK _ ?_; clear hK)))))))))))))))))))))))) | ((with_reducible first | refine gcall_tt ?_ | refine gcall_ff ?_ | refine gcall_tf ?_ | refine gcall_ft ?_); simp) | (with_reducible refine awp_skip ?_; simp) | (with_reducible refine awp_exit ?_; simp) | (refine And.intro (by first | omega | assumption | grind) ?_))
      have hcB : corB l k = false := by simp [corB, hh, hy, h]
      refine awp_fzA ?_
      refine awp_ret ?_
      simp [hcB]
    · simp at h
      have hcB : corB l k = true := by simp [corB, hh, hy, h]
      refine awp_keepT [1, 2, 3, 6] (by simp; rfl) ?_
      rw [List.getD_eq_getElem?_getD, hy] at hx
      have hyl : y.length ≤ 1000000 := hbl y (by rw [← hy, List.getElem?_eq_getElem (show k.toNat < l.length by omega)]; exact List.getElem_mem _)
      have hy0 : 0 < y.length := List.length_pos_iff.2 h
      have hmx : y.length ≤ maxLen := by unfold maxLen; omega
      have hq1 := bytesX_len y
      have hq2 : IntKind.u64.wrap (IntKind.i64.wrap (8 * (y.length : Int))) = 8 * (y.length : Int) := by rw [wrap_i64_in (by omega) (by omega), IntKind.wrap_u64]; omega
      have hq3 := flipM_eq bit y.length
      have hm := flipM_lt bit y.length hy0
      generalize hM : flipM bit y.length = m at hq3 hm
      obtain ⟨j, hj⟩ : ∃ j, j = m / 8 := ⟨_, rfl⟩
      obtain ⟨b, hbb⟩ : ∃ b, b = m % 8 := ⟨_, rfl⟩
      have hq4 : IntKind.u64.wrap ((m : Int) / 8) = (j : Int) := by rw [IntKind.wrap_u64]; omega
      have hq5 : (m : Int) % 8 = (b : Int) := by omega
      have hjl : j < y.length := by omega
      have hq6 := bytesX_at' y j hjl
      have hq9 : (m : Int).tmod 8 = (b : Int) := by rw [Int.tmod_eq_emod_of_nonneg (by omega)]; omega
      have hjl' : (j : Int) < y.length := by omega
      have hq7 := flip_bits' (y.getD j 0) b (by omega)
      have hq8 := bytesX_set y j (y.getD j 0 ^^^ (1 <<< UInt8.ofNat b))
      have hfl : y.set j (y.getD j 0 ^^^ (1 <<< UInt8.ofNat b)) = flipAt y (flipM bit y.length) := by rw [hM, hj, hbb]; rfl
      generalize y.set j (y.getD j 0 ^^^ (1 <<< UInt8.ofNat b)) = z at hq8 hfl
      generalize (y.getD j 0 ^^^ (1 <<< UInt8.ofNat b)).toNat = v at hq7 hq8
      generalize y.getD j 0 = cc at hq6 hq7
      have hz1 := bytesX_str z
      have hz2 := bytesX_isB z
      repeat (first | (with_reducible refine awp_seqK fun K hK => ?_) | (with_reducible refine awp_block ?_) | (with_reducible refine awp_region (by kernel_rfl) ?_; simp [hx, hsl, hmx, hq1, hq2, hq3, hq4, hq5, hq6, hq7, hq8, hz1, hz2, hjl', hq9, spl]) | (first | (with_reducible refine hK _ ?_; clear hK) | (clear hK; (first | (with_reducible refine hK _ ?_; clear hK) | (clear hK; (first | (with_reducible refine hK _ ?_; clear hK) | (clear hK; (first | (with_reducible refine hK _ ?_; clear hK) | (clear hK; (first | (with_reducible refine hK _ ?_; clear hK) | (clear hK; (first | (with_reducible refine hK _ ?_; clear hK) | (clear hK; (first | (with_reducible refine hK _ ?_; clear hK) | (clear hK; (first | (with_reducible refine hK _ ?_; clear hK) | (clear hK; (first | (with_reducible refine hK _ ?_; clear hK) | (clear hK; (first | (with_reducible refine hK _ ?_; clear hK) | (clear hK; (first | (with_reducible refine hK _ ?_; clear hK) | (clear hK; (first | (with_reducible refine hK _ ?_; clear hK)))))))))))))))))))))))) | ((with_reducible first | refine gcall_tt ?_ | refine gcall_ff ?_ | refine gcall_tf ?_ | refine gcall_ft ?_); simp [hx, hsl, hmx, hq1, hq2, hq3, hq4, hq5, hq6, hq7, hq8, hz1, hz2, hjl', hq9, spl]) | (with_reducible refine awp_skip ?_; simp [hx, hsl, hmx, hq1, hq2, hq3, hq4, hq5, hq6, hq7, hq8, hz1, hz2, hjl', hq9, spl]) | (with_reducible refine awp_exit ?_; simp [hx, hsl, hmx, hq1, hq2, hq3, hq4, hq5, hq6, hq7, hq8, hz1, hz2, hjl', hq9, spl]) | (refine And.intro (by first | omega | assumption | grind) ?_))
      refine awp_fzA ?_
      refine awp_ret ?_
      simp [hcB, hy, strs_set, ← hfl]
end Go.Proofs.Ytnjpakhnaegdgaa
