/- Contract of link.Corrupt. -/
import Derived.Test.YtnjpakhnaegdgaaFn14
namespace Go.Proofs.Ytnjpakhnaegdgaa
open Go.Ab
set_option linter.unusedSimpArgs false
set_option maxRecDepth 100000
def corB (l : List (List UInt8)) (k : Int) : Bool := hasB l k && !(l.getD k.toNat [] == [])
theorem sstr_any (l : List (List UInt8)) (i : Nat) : (strs l)[i]?.getD [] = [] ∨ ∃ y, (strs l)[i]?.getD [] = [.str y] := by
  by_cases h : i < l.length
  · exact .inr ⟨_, sstr_get l i h⟩
  · left; simp [strs, List.getElem?_eq_none (Nat.le_of_not_lt h)]
def flipM (bit : Int) (n : Nat) : Nat := (bit % 18446744073709551616).toNat % (8 * n)
def flipAt (s : List UInt8) (m : Nat) : List UInt8 := s.set (m / 8) (s.getD (m / 8) 0 ^^^ (1 <<< UInt8.ofNat (m % 8)))
theorem bytesX_len (y : List UInt8) : (bytesX y).length = y.length := by simp [bytesX]
theorem bytesX_at (y : List UInt8) (i : Nat) (h : i < y.length) : (bytesX y)[i]?.getD [] = [.int .u8 ((y.getD i 0).toNat : Int)] := by simp [bytesX, h]
theorem bytesX_at' (y : List UInt8) (i : Nat) (h : i < y.length) : (bytesX y)[i]? = some [.int .u8 ((y.getD i 0).toNat : Int)] := by simp [bytesX, h]
theorem bytesX_set (y : List UInt8) (i : Nat) (c : UInt8) : (bytesX y).set i [.int .u8 (c.toNat : Int)] = bytesX (y.set i c) := by simp [bytesX, List.map_set]
theorem bytesX_str (y : List UInt8) : (bytesX y).map byteV = y := by
  induction y with
  | nil => rfl
  | cons c y ih => simp only [bytesX, List.map_cons] at ih ⊢; rw [ih]; simp [byteV]
theorem bytesX_isB (y : List UInt8) : ∀ z ∈ bytesX y, isByteV z := by
  intro z hz
  simp only [bytesX, List.mem_map] at hz
  obtain ⟨c, _, rfl⟩ := hz
  exact ⟨c, rfl⟩
theorem flip_bits (c : UInt8) (b : Nat) (hb : b < 8) : IntKind.u8.wrap ((BitVec.ofInt 8 (c.toNat : Int) ^^^ BitVec.ofInt 8 (IntKind.u8.wrap (1 * 2 ^ min b 8))).toNat : Int) = ((c ^^^ (1 <<< UInt8.ofNat b)).toNat : Int) := by
  have h1 : (BitVec.ofInt 8 (c.toNat : Int)) = c.toBitVec := by
    apply BitVec.eq_of_toNat_eq
    simp
  have h2 : BitVec.ofInt 8 (IntKind.u8.wrap (1 * 2 ^ min b 8)) = (1 <<< UInt8.ofNat b : UInt8).toBitVec := by
    have : b = 0 ∨ b = 1 ∨ b = 2 ∨ b = 3 ∨ b = 4 ∨ b = 5 ∨ b = 6 ∨ b = 7 := by omega
    rcases this with rfl | rfl | rfl | rfl | rfl | rfl | rfl | rfl <;> decide
  rw [h1, h2, ← UInt8.toBitVec_xor, UInt8.toNat_toBitVec, IntKind.wrap_u8]
  have := (c ^^^ (1 <<< UInt8.ofNat b)).toNat_lt
  omega
theorem flipM_lt (bit : Int) (n : Nat) (h : 0 < n) : flipM bit n < 8 * n := Nat.mod_lt _ (by omega)
theorem flipM_eq (bit : Int) (n : Nat) : (IntKind.u64.wrap bit).tmod (8 * (n : Int)) = (flipM bit n : Int) := by
  have h0 : 0 ≤ bit % 18446744073709551616 := Int.emod_nonneg _ (by omega)
  rw [IntKind.wrap_u64, Int.tmod_eq_emod_of_nonneg h0]
  unfold flipM
  rw [Int.natCast_emod, Int.toNat_of_nonneg h0]
  simp
theorem flip_bits' (c : UInt8) (b : Nat) (hb : b < 8) : IntKind.u8.wrap (c.toNat % 2 ^ IntKind.u8.bits ^^^ ((IntKind.u8.wrap (2 ^ min b IntKind.u8.bits)) % 2 ^ IntKind.u8.bits).toNat : Nat) = ((c ^^^ (1 <<< UInt8.ofNat b)).toNat : Int) := by
  have h := flip_bits c b hb
  rw [← h]
  have h2 : c.toNat % 256 = c.toNat := by have := c.toNat_lt; omega
  simp [BitVec.toNat_ofInt, IntKind.bits, h2]
theorem strs_set (l : List (List UInt8)) (i : Nat) (z : List UInt8) : (strs l).set i [.str z] = strs (l.set i z) := by simp [strs, List.map_set]
theorem corrupt_ok (l : List (List UInt8)) (c : Bool) (k bit : Int) (hb : l.length ≤ 1048576) (hbl : ∀ s ∈ l, s.length ≤ 1000000) : Meets Try.prog 25 [linkV l c, .int .i64 k, .int .i64 bit]
    (.tup [linkV (if corB l k then l.set k.toNat (flipAt (l.getD k.toNat []) (flipM bit (l.getD k.toNat []).length)) else l) c, .bool (corB l k)]) := by
  have hsl := sstr_len l
  refine Meets.of Try.func25 rfl (by kernel_rfl) rfl ?_
  simp only [Try.ntmps25, St.start, argT]
  repeat (first | (with_reducible refine awp_seqK fun K hK => ?_) | (with_reducible refine awp_block ?_) | (with_reducible refine awp_region (by kernel_rfl) ?_; simp) | (first | (with_reducible refine hK _ ?_; clear hK) | (clear hK; (first | (with_reducible refine hK _ ?_; clear hK) | (clear hK; (first | (with_reducible refine hK _ ?_; clear hK) | (clear hK; (first | (with_reducible refine hK _ ?_; clear hK) | (clear hK; (first | (with_reducible refine hK _ ?_; clear hK) | (clear hK; (first | (with_reducible refine hK _ ?_; clear hK) | (clear hK; (first | (with_reducible refine hK _ ?_; clear hK) | (clear hK; (first | (with_reducible refine hK _ ?_; clear hK) | (clear hK; (first | (with_reducible refine hK _ ?_; clear hK) | (clear hK; (first | (with_reducible refine hK _ ?_; clear hK) | (clear hK; (first | (with_reducible refine hK _ ?_; clear hK) | (clear hK; (first | (with_reducible refine hK _ ?_; clear hK)))))))))))))))))))))))) | ((with_reducible first | refine gcall_tt ?_ | refine gcall_ff ?_ | refine gcall_tf ?_ | refine gcall_ft ?_); simp) | (with_reducible refine awp_skip ?_; simp) | (with_reducible refine awp_exit ?_; simp) | (refine And.intro (by first | omega | assumption | grind) ?_))
  first | refine ⟨0, _, lcloneV_ok l c hb, ?_⟩ | refine ⟨0, _, Meets.wk (lcloneV_ok l c hb) (by simp), ?_⟩
  simp [aftC, aftE]
  repeat (first | (with_reducible refine awp_seqK fun K hK => ?_) | (with_reducible refine awp_block ?_) | (with_reducible refine awp_region (by kernel_rfl) ?_; simp) | (first | (with_reducible refine hK _ ?_; clear hK) | (clear hK; (first | (with_reducible refine hK _ ?_; clear hK) | (clear hK; (first | (with_reducible refine hK _ ?_; clear hK) | (clear hK; (first | (with_reducible refine hK _ ?_; clear hK) | (clear hK; (first | (with_reducible refine hK _ ?_; clear hK) | (clear hK; (first | (with_reducible refine hK _ ?_; clear hK) | (clear hK; (first | (with_reducible refine hK _ ?_; clear hK) | (clear hK; (first | (with_reducible refine hK _ ?_; clear hK) | (clear hK; (first | (with_reducible refine hK _ ?_; clear hK) | (clear hK; (first | (with_reducible refine hK _ ?_; clear hK) | (clear hK; (first | (with_reducible refine hK _ ?_; clear hK) | (clear hK; (first | (with_reducible refine hK _ ?_; clear hK)))))))))))))))))))))))) | ((with_reducible first | refine gcall_tt ?_ | refine gcall_ff ?_ | refine gcall_tf ?_ | refine gcall_ft ?_); simp) | (with_reducible refine awp_skip ?_; simp) | (with_reducible refine awp_exit ?_; simp) | (refine And.intro (by first | omega | assumption | grind) ?_))
  cases hh : hasB l k with
  | false =>
    have hc := hasV_ok l c k
    rw [hh] at hc
    have hcB : corB l k = false := by simp [corB, hh]
    rcases sstr_any l k.toNat with hx | ⟨y, hx⟩
    · first | refine ⟨0, _, hc, ?_⟩ | refine ⟨0, _, Meets.wk (hc) (by simp), ?_⟩
      simp [aftC, aftE, hx, hsl]
      repeat (first | (with_reducible refine awp_seqK fun K hK => ?_) | (with_reducible refine awp_block ?_) | (with_reducible refine awp_region (by kernel_rfl) ?_; simp) | (first | (with_reducible refine hK _ ?_; clear hK) | (clear hK; (first | (with_reducible refine hK _ ?_; clear hK) | (clear hK; (first | (with_reducible refine hK _ ?_; clear hK) | (clear hK; (first | (with_reducible refine hK _ ?_; clear hK) | (clear hK; (first | (with_reducible refine hK _ ?_; clear hK) | (clear hK; (first | (with_reducible refine hK _ ?_; clear hK) | (clear hK; (first | (with_reducible refine hK _ ?_; clear hK) | (clear hK; (first | (with_reducible refine hK _ ?_; clear hK) | (clear hK; (first | (with_reducible refine hK _ ?_; clear hK) | (clear hK; (first | (with_reducible refine hK _ ?_; clear hK) | (clear hK; (first | (with_reducible refine hK _ ?_; clear hK) | (clear hK; (first | (with_reducible refine hK _ ?_; clear hK)))))))))))))))))))))))) | ((with_reducible first | refine gcall_tt ?_ | refine gcall_ff ?_ | refine gcall_tf ?_ | refine gcall_ft ?_); simp) | (with_reducible refine awp_skip ?_; simp) | (with_reducible refine awp_exit ?_; simp) | (refine And.intro (by first | omega | assumption | grind) ?_))
      refine awp_cond rfl (fun _ => ?_) (fun h => by simp at h)
      repeat (first | (with_reducible refine awp_seqK fun K hK => ?_) | (with_reducible refine awp_block ?_) | (with_reducible refine awp_region (by kernel_rfl) ?_; simp) | (first | (with_reducible refine hK _ ?_; clear hK) | (clear hK; (first | (with_reducible refine hK _ ?_; clear hK) | (clear hK; (first | (with_reducible refine hK _ ?_; clear hK) | (clear hK; (first | (with_reducible refine hK _ ?_; clear hK) | (clear hK; (first | (with_reducible refine hK _ ?_; clear hK) | (clear hK; (first | (with_reducible refine hK _ ?_; clear hK) | (clear hK; (first | (with_reducible refine hK _ ?_; clear hK) | (clear hK; (first | (with_reducible refine hK _ ?_; clear hK) | (clear hK; (first | (with_reducible refine hK _ ?_; clear hK) | (clear hK; (first | (with_reducible refine hK _ ?_; clear hK) | (clear hK; (first | (with_reducible refine hK _ ?_; clear hK) | (clear hK; (first | (with_reducible refine hK _ ?_; clear hK)))))))))))))))))))))))) | ((with_reducible first | refine gcall_tt ?_ | refine gcall_ff ?_ | refine gcall_tf ?_ | refine gcall_ft ?_); simp) | (with_reducible refine awp_skip ?_; simp) | (with_reducible refine awp_exit ?_; simp) | (refine And.intro (by first | omega | assumption | grind) ?_))
      refine awp_fzA ?_
      refine awp_ret ?_
      simp [hcB]
    · first | refine ⟨0, _, hc, ?_⟩ | refine ⟨0, _, Meets.wk (hc) (by simp), ?_⟩
      simp [aftC, aftE, hx, hsl]
      repeat (first | (with_reducible refine awp_seqK fun K hK => ?_) | (with_reducible refine awp_block ?_) | (with_reducible refine awp_region (by kernel_rfl) ?_; simp) | (first | (with_reducible refine hK _ ?_; clear hK) | (clear hK; (first | (with_reducible refine hK _ ?_; clear hK) | (clear hK; (first | (with_reducible refine hK _ ?_; clear hK) | (clear hK; (first | (with_reducible refine hK _ ?_; clear hK) | (clear hK; (first | (with_reducible refine hK _ ?_; clear hK) | (clear hK; (first | (with_reducible refine hK _ ?_; clear hK) | (clear hK; (first | (with_reducible refine hK _ ?_; clear hK) | (clear hK; (first | (with_reducible refine hK _ ?_; clear hK) | (clear hK; (first | (with_reducible refine hK _ ?_; clear hK) | (clear hK; (first | (with_reducible refine hK _ ?_; clear hK) | (clear hK; (first | (with_reducible refine hK _ ?_; clear hK) | (clear hK; (first | (with_reducible refine hK _ ?_; clear hK)))))))))))))))))))))))) | ((with_reducible first | refine gcall_tt ?_ | refine gcall_ff ?_ | refine gcall_tf ?_ | refine gcall_ft ?_); simp) | (with_reducible refine awp_skip ?_; simp) | (with_reducible refine awp_exit ?_; simp) | (refine And.intro (by first | omega | assumption | grind) ?_))
      refine awp_cond rfl (fun _ => ?_) (fun h => by simp at h)
      repeat (first | (with_reducible refine awp_seqK fun K hK => ?_) | (with_reducible refine awp_block ?_) | (with_reducible refine awp_region (by kernel_rfl) ?_; simp) | (first | (with_reducible refine hK _ ?_; clear hK) | (clear hK; (first | (with_reducible refine hK _ ?_; clear hK) | (clear hK; (first | (with_reducible refine hK _ ?_; clear hK) | (clear hK; (first | (with_reducible refine hK _ ?_; clear hK) | (clear hK; (first | (with_reducible refine hK _ ?_; clear hK) | (clear hK; (first | (with_reducible refine hK _ ?_; clear hK) | (clear hK; (first | (with_reducible refine hK _ ?_; clear hK) | (clear hK; (first | (with_reducible refine hK _ ?_; clear hK) | (clear hK; (first | (with_reducible refine hK _ ?_; clear hK) | (clear hK; (first | (with_reducible refine hK _ ?_; clear hK) | (clear hK; (first | (with_reducible refine hK _ ?_; clear hK) | (clear hK; (first | (with_reducible refine hK _ ?_; clear hK)))))))))))))))))))))))) | ((with_reducible first | refine gcall_tt ?_ | refine gcall_ff ?_ | refine gcall_tf ?_ | refine gcall_ft ?_); simp) | (with_reducible refine awp_skip ?_; simp) | (with_reducible refine awp_exit ?_; simp) | (refine And.intro (by first | omega | assumption | grind) ?_))
      refine awp_fzA ?_
      refine awp_ret ?_
      simp [hcB]
  | true =>
    have h1 : 0 ≤ k ∧ k < l.length := by simpa [hasB] using hh
    have hx := sstr_get l k.toNat (by omega)
    have hc := hasV_ok l c k
    rw [hh] at hc
    first | refine ⟨0, _, hc, ?_⟩ | refine ⟨0, _, Meets.wk (hc) (by simp), ?_⟩
    simp [aftC, aftE, hx, hsl]
    repeat (first | (with_reducible refine awp_seqK fun K hK => ?_) | (with_reducible refine awp_block ?_) | (with_reducible refine awp_region (by kernel_rfl) ?_; simp [hx, hsl]) | (first | (with_reducible refine hK _ ?_; clear hK) | (clear hK; (first | (with_reducible refine hK _ ?_; clear hK) | (clear hK; (first | (with_reducible refine hK _ ?_; clear hK) | (clear hK; (first | (with_reducible refine hK _ ?_; clear hK) | (clear hK; (first | (with_reducible refine hK _ ?_; clear hK) | (clear hK; (first | (with_reducible refine hK _ ?_; clear hK) | (clear hK; (first | (with_reducible refine hK _ ?_; clear hK) | (clear hK; (first | (with_reducible refine hK _ ?_; clear hK) | (clear hK; (first | (with_reducible refine hK _ ?_; clear hK) | (clear hK; (first | (with_reducible refine hK _ ?_; clear hK) | (clear hK; (first | (with_reducible refine hK _ ?_; clear hK) | (clear hK; (first | (with_reducible refine hK _ ?_; clear hK)))))))))))))))))))))))) | ((with_reducible first | refine gcall_tt ?_ | refine gcall_ff ?_ | refine gcall_tf ?_ | refine gcall_ft ?_); simp [hx, hsl]) | (with_reducible refine awp_skip ?_; simp [hx, hsl]) | (with_reducible refine awp_exit ?_; simp [hx, hsl]) | (refine And.intro (by first | omega | assumption | grind) ?_))
    generalize hy : l[k.toNat]?.getD [] = y
    refine awp_cond rfl (fun h => ?_) (fun h => ?_)
    · simp at h
      repeat (first | (with_reducible refine awp_seqK fun K hK => ?_) | (with_reducible refine awp_block ?_) | (with_reducible refine awp_region (by kernel_rfl) ?_; simp) | (first | (with_reducible refine hK _ ?_; clear hK) | (clear hK; (first | (with_reducible refine hK _ ?_; clear hK) | (clear hK; (first | (with_reducible refine hK _ ?_; clear hK) | (clear hK; (first | (with_reducible refine hK _ ?_; clear hK) | (clear hK; (first | (with_reducible refine hK _ ?_; clear hK) | (clear hK; (first | (with_reducible refine hK _ ?_; clear hK) | (clear hK; (first | (with_reducible refine hK _ ?_; clear hK) | (clear hK; (first | (with_reducible refine hK _ ?_; clear hK) | (clear hK; (first | (with_reducible refine hK _ ?_; clear hK) | (clear hK; (first | (with_reducible refine hK _ ?_; clear hK) | (clear hK; (first | (with_reducible refine hK _ ?_; clear hK) | (clear hK; (first | (with_reducible refine hK _ ?_; clear hK)))))))))))))))))))))))) | ((with_reducible first | refine gcall_tt ?_ | refine gcall_ff ?_ | refine gcall_tf ?_ | refine gcall_ft ?_); simp) | (with_reducible refine awp_skip ?_; simp) | (with_reducible refine awp_exit ?_; simp) | (refine And.intro (by first | omega | assumption | grind) ?_))
      have hcB : corB l k = false := by simp [corB, hh, hy, h]
      refine awp_fzA ?_
      refine awp_ret ?_
      simp [hcB]
    · simp at h
      have hcB : corB l k = true := by simp [corB, hh, hy, h]
      refine awp_keepT [1, 2, 3, 6, 8] (by simp; rfl) ?_
      rw [List.getD_eq_getElem?_getD, hy] at hx
      have hyl : y.length ≤ 1000000 := hbl y (by rw [← hy, List.getElem?_eq_getElem (show k.toNat < l.length by omega)]; exact List.getElem_mem _)
      have hy0 : 0 < y.length := List.length_pos_iff.2 h
      have hmx : y.length ≤ maxLen := by unfold maxLen; omega
      have hq1 := bytesX_len y
      have hq2 : IntKind.u64.wrap (8 * IntKind.u64.wrap (y.length : Int)) = 8 * (y.length : Int) := by simp only [IntKind.wrap_u64]; omega
      have hq3 := flipM_eq bit y.length
      have hm := flipM_lt bit y.length hy0
      generalize hM : flipM bit y.length = m at hq3 hm
      obtain ⟨j, hj⟩ : ∃ j, j = m / 8 := ⟨_, rfl⟩
      obtain ⟨b, hbb⟩ : ∃ b, b = m % 8 := ⟨_, rfl⟩
      have hq4 : IntKind.u64.wrap ((m : Int) / 8) = (j : Int) := by rw [IntKind.wrap_u64]; omega
      have hq5 : (m : Int) % 8 = (b : Int) := by omega
      have hjl : j < y.length := by omega
      have hq6 := bytesX_at' y j hjl
      have hq9 : (m : Int).tmod 8 = (b : Int) := by rw [Int.tmod_eq_emod_of_nonneg (by omega)]; omega
      have hjl' : (j : Int) < y.length := by omega
      have hq7 := flip_bits' (y.getD j 0) b (by omega)
      have hq8 := bytesX_set y j (y.getD j 0 ^^^ (1 <<< UInt8.ofNat b))
      have hfl : y.set j (y.getD j 0 ^^^ (1 <<< UInt8.ofNat b)) = flipAt y (flipM bit y.length) := by rw [hM, hj, hbb]; rfl
      generalize y.set j (y.getD j 0 ^^^ (1 <<< UInt8.ofNat b)) = z at hq8 hfl
      generalize (y.getD j 0 ^^^ (1 <<< UInt8.ofNat b)).toNat = v at hq7 hq8
      generalize y.getD j 0 = cc at hq6 hq7
      have hz1 := bytesX_str z
      have hz2 := bytesX_isB z
      repeat (first | (with_reducible refine awp_seqK fun K hK => ?_) | (with_reducible refine awp_block ?_) | (with_reducible refine awp_region (by kernel_rfl) ?_; simp [hx, hsl, hmx, hq1, hq2, hq3, hq4, hq5, hq6, hq7, hq8, hz1, hz2, hjl', hq9, spl]) | (first | (with_reducible refine hK _ ?_; clear hK) | (clear hK; (first | (with_reducible refine hK _ ?_; clear hK) | (clear hK; (first | (with_reducible refine hK _ ?_; clear hK) | (clear hK; (first | (with_reducible refine hK _ ?_; clear hK) | (clear hK; (first | (with_reducible refine hK _ ?_; clear hK) | (clear hK; (first | (with_reducible refine hK _ ?_; clear hK) | (clear hK; (first | (with_reducible refine hK _ ?_; clear hK) | (clear hK; (first | (with_reducible refine hK _ ?_; clear hK) | (clear hK; (first | (with_reducible refine hK _ ?_; clear hK) | (clear hK; (first | (with_reducible refine hK _ ?_; clear hK) | (clear hK; (first | (with_reducible refine hK _ ?_; clear hK) | (clear hK; (first | (with_reducible refine hK _ ?_; clear hK)))))))))))))))))))))))) | ((with_reducible first | refine gcall_tt ?_ | refine gcall_ff ?_ | refine gcall_tf ?_ | refine gcall_ft ?_); simp [hx, hsl, hmx, hq1, hq2, hq3, hq4, hq5, hq6, hq7, hq8, hz1, hz2, hjl', hq9, spl]) | (with_reducible refine awp_skip ?_; simp [hx, hsl, hmx, hq1, hq2, hq3, hq4, hq5, hq6, hq7, hq8, hz1, hz2, hjl', hq9, spl]) | (with_reducible refine awp_exit ?_; simp [hx, hsl, hmx, hq1, hq2, hq3, hq4, hq5, hq6, hq7, hq8, hz1, hz2, hjl', hq9, spl]) | (refine And.intro (by first | omega | assumption | grind) ?_))
      refine awp_fzA ?_
      refine awp_ret ?_
      simp [hcB, hy, strs_set, ← hfl]
end Go.Proofs.Ytnjpakhnaegdgaa
