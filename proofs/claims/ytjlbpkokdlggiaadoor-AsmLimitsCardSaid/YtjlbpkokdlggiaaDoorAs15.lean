/- The law AsmLimits: the plain part, the walk. (Numbers of seat r2.D.) -/
import Derived.Test.YtjlbpkokdlggiaaDoorAs12
import Derived.Test.YtjlbpkokdlggiaaDoorDec
namespace Go.Proofs.YtjlbpkokdlggiaaDoor
open Go.Ab Go.RowKit
set_option linter.unusedSimpArgs false
set_option maxRecDepth 100000
def nops : Nat → Str
  | 0 => []
  | k + 1 => nops k ++ [110, 111, 112, 10]
def srcW (w : Nat) : Str := [46, 115, 112, 97, 99, 101, 32] ++ Lib.itoa (min w 1024 : Nat) ++ [10] ++ nops (w - 1024)
def limB (w : Nat) : Bool := match asmD (srcW w) with
  | .ok l => decide (w ≤ 1024) && decide (l.length = w)
  | .error e => decide (1024 < w) && decide (e = (305, 2))
theorem lim_all : ((List.range 41).all fun k => limB (1000 + k)) = true := by kernel_rfl
theorem src_ascii_all : ((List.range 41).all fun k => (srcW (1000 + k)).all fun b => decide (b.toNat < 128)) = true := by kernel_rfl
theorem src_len_all : ((List.range 41).all fun k => decide ((srcW (1000 + k)).length ≤ 100)) = true := by kernel_rfl
theorem lim_at (k : Nat) (hk : k < 41) : limB (1000 + k) = true ∧ isAscii (srcW (1000 + k)) ∧ (srcW (1000 + k)).length ≤ 100 := by
  have h1 := List.all_eq_true.1 lim_all k (List.mem_range.2 hk)
  have h2 := List.all_eq_true.1 src_ascii_all k (List.mem_range.2 hk)
  have h3 := List.all_eq_true.1 src_len_all k (List.mem_range.2 hk)
  refine ⟨h1, fun b hb => ?_, by simpa using h3⟩
  have := List.all_eq_true.1 h2 b hb
  simpa using this
theorem lim_cases (k : Nat) (hk : k < 41) : (1000 + k ≤ 1024 ∧ ∃ l : List Int, asmD (srcW (1000 + k)) = .ok l ∧ l.length = 1000 + k) ∨ (1024 < 1000 + k ∧ asmD (srcW (1000 + k)) = .error (305, 2)) := by
  have h := (lim_at k hk).1
  unfold limB at h
  cases ha : asmD (srcW (1000 + k)) with
  | ok l =>
    rw [ha] at h
    simp only [Bool.and_eq_true, decide_eq_true_eq] at h
    exact .inl ⟨h.1, l, rfl, h.2⟩
  | error e =>
    rw [ha] at h
    simp only [Bool.and_eq_true, decide_eq_true_eq] at h
    exact .inr ⟨h.1, by rw [h.2]⟩
theorem lines_rep (n : Nat) (c : UInt8) (h : c ≠ 10) : linesD (List.replicate n c) = [List.replicate n c] := by
  induction n with
  | zero => rfl
  | succ n ih => rw [List.replicate_succ, linesD, if_neg h, ih]
theorem long_asm (n : Nat) : asmD (List.replicate n 59) = if 8192 < n then .error (300, 0) else .ok [] := by
  have hs : splitD (List.replicate n 59) = [[]] := by
    unfold splitD
    rw [lines_rep n 59 (by decide)]
    cases n with
    | zero => rfl
    | succ n => simp [befD, List.replicate_succ]
  unfold asmD parseD
  rw [List.length_replicate, hs]
  by_cases h : 8192 < n
  · rw [if_pos h, if_pos h]
  · rw [if_neg h, if_neg h]; rfl
@[simp] theorem nops_zero : nops 0 = [] := rfl
theorem nops_succ (k : Nat) : nops (k + 1) = nops k ++ [110, 111, 112, 10] := rfl
theorem nops_len : ∀ i, (nops i).length = 4 * i
  | 0 => rfl
  | i + 1 => by rw [nops_succ, List.length_append, nops_len i]; simp; omega
theorem fill_set (n j : Nat) (h : j < n) : (List.replicate j [V.int .u8 59] ++ List.replicate (n - j) [V.int .u8 0]).set j [V.int .u8 59] = List.replicate (j + 1) [V.int .u8 59] ++ List.replicate (n - (j + 1)) [V.int .u8 0] := by
  rw [List.set_append_right _ _ (by simp), List.length_replicate, Nat.sub_self, show n - j = (n - (j + 1)) + 1 by omega, List.replicate_succ, List.set_cons_zero, List.replicate_succ' (n := j)]
  simp
theorem rep_ascii (n : Nat) : isAscii (List.replicate n 59) := by
  intro b hb
  rw [List.mem_replicate] at hb
  rw [hb.2]; decide
set_option maxHeartbeats 16000000 in
theorem limits_ok (words bytes : Int) : Meets Tryd.prog 7 [.int .i64 words, .int .i64 bytes] (.bool true) := by
  refine Meets.of Tryd.func7 rfl (by kernel_rfl) rfl ?_
  simp only [Tryd.ntmps7, St.start, argT]
  repeat (first | (with_reducible refine awp_seqK fun K hK => ?_) | (with_reducible refine awp_block ?_) | (with_reducible refine awp_region (by kernel_rfl) ?_; simp) | (first | ((with_reducible refine hK _ ?_); clear hK) | (clear hK; (iterate 10 (try ((fail_if_success ((with_reducible refine hK _ ?_))); clear hK))); (with_reducible refine hK _ ?_); clear hK)) | ((with_reducible first | refine gcall_tt ?_ | refine gcall_ff ?_ | refine gcall_tf ?_ | refine gcall_ft ?_); simp) | (with_reducible refine awp_skip ?_; simp) | (with_reducible refine awp_exit ?_; simp) | (refine And.intro (by first | omega | assumption | grind) ?_))
  refine awp_cond rfl (fun h => ?_) (fun h => ?_)
  · repeat (first | (with_reducible refine awp_seqK fun K hK => ?_) | (with_reducible refine awp_block ?_) | (with_reducible refine awp_region (by kernel_rfl) ?_; simp) | (first | ((with_reducible refine hK _ ?_); clear hK) | (clear hK; (iterate 10 (try ((fail_if_success ((with_reducible refine hK _ ?_))); clear hK))); (with_reducible refine hK _ ?_); clear hK)) | ((with_reducible first | refine gcall_tt ?_ | refine gcall_ff ?_ | refine gcall_tf ?_ | refine gcall_ft ?_); simp) | (with_reducible refine awp_skip ?_; simp) | (with_reducible refine awp_exit ?_; simp) | (refine And.intro (by first | omega | assumption | grind) ?_))
    first | refine .inl ⟨0, _, awake23_ok, ?_⟩ | refine .inl ⟨0, _, Meets.wk (awake23_ok) (by simp), ?_⟩ | refine ⟨0, _, awake23_ok, ?_⟩ | refine ⟨0, _, Meets.wk (awake23_ok) (by simp), ?_⟩
    simp [aftC, aftE]
    repeat (first | (with_reducible refine awp_seqK fun K hK => ?_) | (with_reducible refine awp_block ?_) | (with_reducible refine awp_region (by kernel_rfl) ?_; simp) | (first | ((with_reducible refine hK _ ?_); clear hK) | (clear hK; (iterate 10 (try ((fail_if_success ((with_reducible refine hK _ ?_))); clear hK))); (with_reducible refine hK _ ?_); clear hK)) | ((with_reducible first | refine gcall_tt ?_ | refine gcall_ff ?_ | refine gcall_tf ?_ | refine gcall_ft ?_); simp) | (with_reducible refine awp_skip ?_; simp) | (with_reducible refine awp_exit ?_; simp) | (refine And.intro (by first | omega | assumption | grind) ?_))
    refine awp_ret ?_
    simp
  · have hb : 1000 ≤ words ∧ words ≤ 1040 ∧ 8150 ≤ bytes ∧ bytes ≤ 8230 := by simp at h; omega
    clear h
    obtain ⟨k, hk, rfl⟩ : ∃ k : Nat, k < 41 ∧ words = ((1000 + k : Nat) : Int) := ⟨(words - 1000).toNat, by omega, by omega⟩
    obtain ⟨n, hn1, hn2, rfl⟩ : ∃ n : Nat, 8150 ≤ n ∧ n ≤ 8230 ∧ bytes = (n : Int) := ⟨bytes.toNat, by omega, by omega, by omega⟩
    obtain ⟨l1, l2, l3⟩ := lim_at k hk
    have hmin : min ((1000 + k : Nat) : Int) 1024 = ((min (1000 + k) 1024 : Nat) : Int) := by omega
    have hdec := decimal_ok ((min (1000 + k) 1024 : Nat) : Int) (by omega) (by omega)
    have hdl := Lib.itoa_length_le ((min (1000 + k) 1024 : Nat) : Int) (by omega) (by omega)
    have hif : (if (1024 : Int) < 1000 + (k : Int) then 1024 else 1000 + (k : Int)) = ((min (1000 + k) 1024 : Nat) : Int) := by split <;> omega
    repeat (first | (with_reducible refine awp_seqK fun K hK => ?_) | (with_reducible refine awp_block ?_) | (with_reducible refine awp_region (by kernel_rfl) ?_; simp [hif]) | (first | ((with_reducible refine hK _ ?_); clear hK) | (clear hK; (iterate 10 (try ((fail_if_success ((with_reducible refine hK _ ?_))); clear hK))); (with_reducible refine hK _ ?_); clear hK)) | ((with_reducible first | refine gcall_tt ?_ | refine gcall_ff ?_ | refine gcall_tf ?_ | refine gcall_ft ?_); simp [hif]) | (with_reducible refine awp_skip ?_; simp [hif]) | (with_reducible refine awp_exit ?_; simp [hif]) | (refine And.intro (by first | omega | assumption | grind) ?_))
    first | refine .inl ⟨0, _, hdec, ?_⟩ | refine .inl ⟨0, _, Meets.wk (hdec) (by simp), ?_⟩ | refine ⟨0, _, hdec, ?_⟩ | refine ⟨0, _, Meets.wk (hdec) (by simp), ?_⟩
    simp [aftC, aftE]
    repeat (first | (with_reducible refine awp_seqK fun K hK => ?_) | (with_reducible refine awp_block ?_) | (with_reducible refine awp_region (by kernel_rfl) ?_; simp) | (first | ((with_reducible refine hK _ ?_); clear hK) | (clear hK; (iterate 10 (try ((fail_if_success ((with_reducible refine hK _ ?_))); clear hK))); (with_reducible refine hK _ ?_); clear hK)) | ((with_reducible first | refine gcall_tt ?_ | refine gcall_ff ?_ | refine gcall_tf ?_ | refine gcall_ft ?_); simp) | (with_reducible refine awp_skip ?_; simp) | (with_reducible refine awp_exit ?_; simp) | (refine And.intro (by first | omega | assumption | grind) ?_))
    obtain ⟨I, hI⟩ : ∃ I : Nat → St → Prop, I = (fun kk ss => ∃ (i : Nat) (s : Str), i ≤ 1000 + k - 1024 ∧ kk = 1000 + k - 1024 - i ∧ (s = [46, 115, 112, 97, 99, 101, 32] ++ Lib.itoa ((min (1000 + k) 1024 : Nat) : Int) ++ [10] ++ nops i) ∧ ss = ⟨103, [(6, .int .i64 (1024 + i)), (5, .str s), (0, .int .i64 (1000 + k)), (1, .int .i64 n)], 0, [], 0⟩) := ⟨_, rfl⟩
    refine awp_loopA I (k0 := 1000 + k - 1024) (st0 := (fun (i : Nat) (s : Str) => (⟨103, [(6, .int .i64 (1024 + i)), (5, .str s), (0, .int .i64 (1000 + k)), (1, .int .i64 n)], 0, [], 0⟩ : St)) 0 ([46, 115, 112, 97, 99, 101, 32] ++ Lib.itoa ((min (1000 + k) 1024 : Nat) : Int) ++ [10] ++ nops 0)) (ρ0 := id) ⟨rfl, by simp [leT, ltV, lt1, ren, ren1], by simp [leO, lt1, ren1], by simp, by simp⟩ (by rw [hI]; exact ⟨0, ([46, 115, 112, 97, 99, 101, 32] ++ Lib.itoa ((min (1000 + k) 1024 : Nat) : Int) ++ [10] ++ nops 0), by simp, by simp, rfl, rfl⟩) ?_
    intro kk ss hIk _
    rw [hI] at hIk
    obtain ⟨i, s, hi, rfl, hx, rfl⟩ := hIk
    subst hx
    have hsrc : [46, 115, 112, 97, 99, 101, 32] ++ Lib.itoa ((min (1000 + k) 1024 : Nat) : Int) ++ [10] ++ nops (1000 + k - 1024) = srcW (1000 + k) := rfl
    have hnl := nops_len i
    have hw : IntKind.i64.wrap (1024 + (i : Int) + 1) = 1024 + ((i + 1 : Nat) : Int) := by rw [wrap_i64_in (by omega) (by omega)]; omega
    repeat (first | (with_reducible refine awp_seqK fun K hK => ?_) | (with_reducible refine awp_block ?_) | (with_reducible refine awp_region (by kernel_rfl) ?_; simp) | (first | ((with_reducible refine hK _ ?_); clear hK) | (clear hK; (iterate 10 (try ((fail_if_success ((with_reducible refine hK _ ?_))); clear hK))); (with_reducible refine hK _ ?_); clear hK)) | ((with_reducible first | refine gcall_tt ?_ | refine gcall_ff ?_ | refine gcall_tf ?_ | refine gcall_ft ?_); simp) | (with_reducible refine awp_skip ?_; simp) | (with_reducible refine awp_exit ?_; simp) | (refine And.intro (by first | omega | assumption | grind) ?_))
    by_cases hi' : i < 1000 + k - 1024
    · have hlt : 1024 + (i : Int) < 1000 + (k : Int) := by omega
      refine awp_cond rfl (fun _ => ?_) (fun h => by simp [hlt] at h)
      repeat (first | (with_reducible refine awp_seqK fun K hK => ?_) | (with_reducible refine awp_block ?_) | (with_reducible refine awp_region (by kernel_rfl) ?_; simp) | (first | ((with_reducible refine hK _ ?_); clear hK) | (clear hK; (iterate 10 (try ((fail_if_success ((with_reducible refine hK _ ?_))); clear hK))); (with_reducible refine hK _ ?_); clear hK)) | ((with_reducible first | refine gcall_tt ?_ | refine gcall_ff ?_ | refine gcall_tf ?_ | refine gcall_ft ?_); simp) | (with_reducible refine awp_skip ?_; simp) | (with_reducible refine awp_exit ?_; simp) | (refine And.intro (by first | omega | assumption | grind) ?_))
      refine again_of (1000 + k - 1024 - (i + 1)) ((fun (i : Nat) (s : Str) => (⟨103, [(6, .int .i64 (1024 + i)), (5, .str s), (0, .int .i64 (1000 + k)), (1, .int .i64 n)], 0, [], 0⟩ : St)) (i + 1) ([46, 115, 112, 97, 99, 101, 32] ++ Lib.itoa ((min (1000 + k) 1024 : Nat) : Int) ++ [10] ++ nops (i + 1))) (id) (by omega) (by rw [hI]; exact ⟨i + 1, ([46, 115, 112, 97, 99, 101, 32] ++ Lib.itoa ((min (1000 + k) 1024 : Nat) : Int) ++ [10] ++ nops (i + 1)), by omega, rfl, rfl, rfl⟩) ⟨rfl, ?_, ?_, ?_, by simp⟩
      · simp [leT, ltV, lt1, ren, ren1, wrap_i64_in (n := (i : Int) + 1) (by omega) (by omega), hw, nops_succ]
      · simp [leO, lt1, ren1, hw, nops_succ]
      · (simp; try omega)
    · have hil : i = 1000 + k - 1024 := by omega
      have hlt : ¬ (1024 + (i : Int) < 1000 + (k : Int)) := by omega
      refine awp_cond rfl (fun h => by simp [hlt] at h) (fun _ => ?_)
      repeat (first | (with_reducible refine awp_seqK fun K hK => ?_) | (with_reducible refine awp_block ?_) | (with_reducible refine awp_region (by kernel_rfl) ?_; simp) | (first | ((with_reducible refine hK _ ?_); clear hK) | (clear hK; (iterate 10 (try ((fail_if_success ((with_reducible refine hK _ ?_))); clear hK))); (with_reducible refine hK _ ?_); clear hK)) | ((with_reducible first | refine gcall_tt ?_ | refine gcall_ff ?_ | refine gcall_tf ?_ | refine gcall_ft ?_); simp) | (with_reducible refine awp_skip ?_; simp) | (with_reducible refine awp_exit ?_; simp) | (refine And.intro (by first | omega | assumption | grind) ?_))
      subst hil
      have hmn : n ≤ maxLen := by simp only [maxLen]; omega
      have hsrc2 : srcW (1000 + k) = 46 :: 115 :: 112 :: 97 :: 99 :: 101 :: 32 :: (Lib.itoa ((min (1000 + k) 1024 : Nat) : Int) ++ 10 :: nops (1000 + k - 1024)) := by simp [srcW]
      rw [← hsrc2]
      repeat (first | (with_reducible refine awp_seqK fun K hK => ?_) | (with_reducible refine awp_block ?_) | (with_reducible refine awp_region (by kernel_rfl) ?_; simp) | (first | ((with_reducible refine hK _ ?_); clear hK) | (clear hK; (iterate 10 (try ((fail_if_success ((with_reducible refine hK _ ?_))); clear hK))); (with_reducible refine hK _ ?_); clear hK)) | ((with_reducible first | refine gcall_tt ?_ | refine gcall_ff ?_ | refine gcall_tf ?_ | refine gcall_ft ?_); simp) | (with_reducible refine awp_skip ?_; simp) | (with_reducible refine awp_exit ?_; simp) | (refine And.intro (by first | omega | assumption | grind) ?_))
      have hs1 := assemble_ok (srcW (1000 + k)) l2 (by omega)
      have hlc := lim_cases k hk
      have hs2 := assemble_ok (List.replicate n 59) (rep_ascii n) (by simp; omega)
      have hl2 := long_asm n
      generalize srcW (1000 + k) = S at *
      obtain ⟨Ij, hIj⟩ : ∃ I : Nat → St → Prop, I = (fun kk ss => ∃ (j : Nat) , j ≤ n ∧ kk = n - j ∧ (True) ∧ ss = ⟨103, [(8, .int .i64 j), (7, .own 0), (5, .str S), (0, .int .i64 (1000 + k)), (1, .int .i64 n)], 1, [(0, some ⟨5, 1, false, false, List.replicate j [.int .u8 59] ++ List.replicate (n - j) [.int .u8 0]⟩)], 0⟩) := ⟨_, rfl⟩
      refine awp_loopA Ij (k0 := n) (st0 := (fun (j : Nat)  => (⟨103, [(8, .int .i64 j), (7, .own 0), (5, .str S), (0, .int .i64 (1000 + k)), (1, .int .i64 n)], 1, [(0, some ⟨5, 1, false, false, List.replicate j [.int .u8 59] ++ List.replicate (n - j) [.int .u8 0]⟩)], 0⟩ : St)) 0 ) (ρ0 := id) ⟨rfl, by simp [leT, ltV, lt1, ren, ren1], by simp [leO, lt1, ren1], by simp, by simp⟩ (by rw [hIj]; exact ⟨0, by simp, by simp, trivial, rfl⟩) ?_
      intro kk ss hIk _
      rw [hIj] at hIk
      obtain ⟨j, hj, rfl, hxj, rfl⟩ := hIk
      have hwj : IntKind.i64.wrap ((j : Int) + 1) = ((j + 1 : Nat) : Int) := by rw [wrap_i64_in (by omega) (by omega)]; omega
      have hnj : j + (n - j) = n := by omega
      repeat (first | (with_reducible refine awp_seqK fun K hK => ?_) | (with_reducible refine awp_block ?_) | (with_reducible refine awp_region (by kernel_rfl) ?_; simp [hnj]) | (first | ((with_reducible refine hK _ ?_); clear hK) | (clear hK; (iterate 10 (try ((fail_if_success ((with_reducible refine hK _ ?_))); clear hK))); (with_reducible refine hK _ ?_); clear hK)) | ((with_reducible first | refine gcall_tt ?_ | refine gcall_ff ?_ | refine gcall_tf ?_ | refine gcall_ft ?_); simp [hnj]) | (with_reducible refine awp_skip ?_; simp [hnj]) | (with_reducible refine awp_exit ?_; simp [hnj]) | (refine And.intro (by first | omega | assumption | grind) ?_))
      by_cases hj' : j < n
      · have hfs := fill_set n j hj'
        have hgj : (List.replicate j [V.int .u8 59] ++ List.replicate (n - j) [V.int .u8 0])[j]? = some [.int .u8 0] := by
          rw [List.getElem?_append_right (by simp), List.length_replicate, Nat.sub_self, List.getElem?_replicate, if_pos (by omega)]
        refine awp_cond rfl (fun _ => ?_) (fun h => by simp [hj'] at h)
        repeat (first | (with_reducible refine awp_seqK fun K hK => ?_) | (with_reducible refine awp_block ?_) | (with_reducible refine awp_region (by kernel_rfl) ?_; simp [hnj, hgj, hfs]) | (first | ((with_reducible refine hK _ ?_); clear hK) | (clear hK; (iterate 10 (try ((fail_if_success ((with_reducible refine hK _ ?_))); clear hK))); (with_reducible refine hK _ ?_); clear hK)) | ((with_reducible first | refine gcall_tt ?_ | refine gcall_ff ?_ | refine gcall_tf ?_ | refine gcall_ft ?_); simp [hnj, hgj, hfs]) | (with_reducible refine awp_skip ?_; simp [hnj, hgj, hfs]) | (with_reducible refine awp_exit ?_; simp [hnj, hgj, hfs]) | (refine And.intro (by first | omega | assumption | grind) ?_))
        refine again_of (n - (j + 1)) ((fun (j : Nat)  => (⟨103, [(8, .int .i64 j), (7, .own 0), (5, .str S), (0, .int .i64 (1000 + k)), (1, .int .i64 n)], 1, [(0, some ⟨5, 1, false, false, List.replicate j [.int .u8 59] ++ List.replicate (n - j) [.int .u8 0]⟩)], 0⟩ : St)) (j + 1) ) (id) (by omega) (by rw [hIj]; exact ⟨j + 1, by omega, rfl, trivial, rfl⟩) ⟨rfl, ?_, ?_, ?_, by simp⟩
        · simp [leT, ltV, lt1, ren, ren1, wrap_i64_in (n := (j : Int) + 1) (by omega) (by omega), hwj, hgj, hfs]
        · simp [leO, lt1, ren1, hwj, hgj, hfs]
        · (simp; try omega)
      · have hjn : j = n := by omega
        subst hjn
        have hbv : byteV [.int .u8 59] = 59 := rfl
        have hby : isByteV [.int .u8 59] := ⟨59, rfl⟩
        refine awp_cond rfl (fun h => by simp at h) (fun _ => ?_)
        repeat (first | (with_reducible refine awp_seqK fun K hK => ?_) | (with_reducible refine awp_block ?_) | (with_reducible refine awp_region (by kernel_rfl) ?_; simp) | (first | ((with_reducible refine hK _ ?_); clear hK) | (clear hK; (iterate 10 (try ((fail_if_success ((with_reducible refine hK _ ?_))); clear hK))); (with_reducible refine hK _ ?_); clear hK)) | ((with_reducible first | refine gcall_tt ?_ | refine gcall_ff ?_ | refine gcall_tf ?_ | refine gcall_ft ?_); simp) | (with_reducible refine awp_skip ?_; simp) | (with_reducible refine awp_exit ?_; simp) | (refine And.intro (by first | omega | assumption | grind) ?_))
        rcases hlc with ⟨g1, l, g2, g3⟩ | ⟨g1, g2⟩
        · have v1 : asmV S = .tup [.sl 1 false (ints .u32 l), errV (0, 0)] := by unfold asmV; rw [g2]
          have hil := ints_len .u32 l
          have gi : ¬ ((1024 : Int) < 1000 + (k : Int)) := by omega
          have g3' : ((l.length : Nat) : Int) = 1000 + (k : Int) := by omega
          rw [v1] at hs1
          by_cases hj8 : 8192 < j
          · have v2 : asmV (List.replicate j 59) = .tup [.sl 1 true [], errV (300, 0)] := by unfold asmV; rw [hl2, if_pos hj8]
            have hj9 : (8192 : Int) < (j : Int) := by omega
            rw [v2] at hs2
            first | refine .inl ⟨0, _, hs1, ?_⟩ | refine .inl ⟨0, _, Meets.wk (hs1) (by simp), ?_⟩ | refine ⟨0, _, hs1, ?_⟩ | refine ⟨0, _, Meets.wk (hs1) (by simp), ?_⟩
            simp [aftC, aftE]
            repeat (first | (with_reducible refine awp_seqK fun K hK => ?_) | (with_reducible refine awp_block ?_) | (with_reducible refine awp_region (by kernel_rfl) ?_; simp [hbv, hby]) | (first | ((with_reducible refine hK _ ?_); clear hK) | (clear hK; (iterate 10 (try ((fail_if_success ((with_reducible refine hK _ ?_))); clear hK))); (with_reducible refine hK _ ?_); clear hK)) | ((with_reducible first | refine gcall_tt ?_ | refine gcall_ff ?_ | refine gcall_tf ?_ | refine gcall_ft ?_); simp [hbv, hby]) | (with_reducible refine awp_skip ?_; simp [hbv, hby]) | (with_reducible refine awp_exit ?_; simp [hbv, hby]) | (refine And.intro (by first | omega | assumption | grind) ?_))
            first | refine .inl ⟨0, _, hs2, ?_⟩ | refine .inl ⟨0, _, Meets.wk (hs2) (by simp), ?_⟩ | refine ⟨0, _, hs2, ?_⟩ | refine ⟨0, _, Meets.wk (hs2) (by simp), ?_⟩
            simp [aftC, aftE]
            repeat (first | (with_reducible refine awp_seqK fun K hK => ?_) | (with_reducible refine awp_block ?_) | (with_reducible refine awp_region (by kernel_rfl) ?_; simp [hil, g3']) | (first | ((with_reducible refine hK _ ?_); clear hK) | (clear hK; (iterate 10 (try ((fail_if_success ((with_reducible refine hK _ ?_))); clear hK))); (with_reducible refine hK _ ?_); clear hK)) | ((with_reducible first | refine gcall_tt ?_ | refine gcall_ff ?_ | refine gcall_tf ?_ | refine gcall_ft ?_); simp [hil, g3']) | (with_reducible refine awp_skip ?_; simp [hil, g3']) | (with_reducible refine awp_exit ?_; simp [hil, g3']) | (refine And.intro (by first | omega | assumption | grind) ?_))
            refine awp_cond rfl (fun h => by simp [gi] at h) (fun _ => ?_)
            repeat (first | (with_reducible refine awp_seqK fun K hK => ?_) | (with_reducible refine awp_block ?_) | (with_reducible refine awp_region (by kernel_rfl) ?_; simp) | (first | ((with_reducible refine hK _ ?_); clear hK) | (clear hK; (iterate 10 (try ((fail_if_success ((with_reducible refine hK _ ?_))); clear hK))); (with_reducible refine hK _ ?_); clear hK)) | ((with_reducible first | refine gcall_tt ?_ | refine gcall_ff ?_ | refine gcall_tf ?_ | refine gcall_ft ?_); simp) | (with_reducible refine awp_skip ?_; simp) | (with_reducible refine awp_exit ?_; simp) | (refine And.intro (by first | omega | assumption | grind) ?_))
            refine awp_cond rfl (fun _ => ?_) (fun h => by simp [hj9] at h)
            repeat (first | (with_reducible refine awp_seqK fun K hK => ?_) | (with_reducible refine awp_block ?_) | (with_reducible refine awp_region (by kernel_rfl) ?_; simp [hil, g3']) | (first | ((with_reducible refine hK _ ?_); clear hK) | (clear hK; (iterate 10 (try ((fail_if_success ((with_reducible refine hK _ ?_))); clear hK))); (with_reducible refine hK _ ?_); clear hK)) | ((with_reducible first | refine gcall_tt ?_ | refine gcall_ff ?_ | refine gcall_tf ?_ | refine gcall_ft ?_); simp [hil, g3']) | (with_reducible refine awp_skip ?_; simp [hil, g3']) | (with_reducible refine awp_exit ?_; simp [hil, g3']) | (refine And.intro (by first | omega | assumption | grind) ?_))
            first | refine .inl ⟨0, _, awake23_ok, ?_⟩ | refine .inl ⟨0, _, Meets.wk (awake23_ok) (by simp), ?_⟩ | refine ⟨0, _, awake23_ok, ?_⟩ | refine ⟨0, _, Meets.wk (awake23_ok) (by simp), ?_⟩
            simp [aftC, aftE]
            repeat (first | (with_reducible refine awp_seqK fun K hK => ?_) | (with_reducible refine awp_block ?_) | (with_reducible refine awp_region (by kernel_rfl) ?_; simp) | (first | ((with_reducible refine hK _ ?_); clear hK) | (clear hK; (iterate 10 (try ((fail_if_success ((with_reducible refine hK _ ?_))); clear hK))); (with_reducible refine hK _ ?_); clear hK)) | ((with_reducible first | refine gcall_tt ?_ | refine gcall_ff ?_ | refine gcall_tf ?_ | refine gcall_ft ?_); simp) | (with_reducible refine awp_skip ?_; simp) | (with_reducible refine awp_exit ?_; simp) | (refine And.intro (by first | omega | assumption | grind) ?_))
            refine awp_ret ?_
            simp
          · have v2 : asmV (List.replicate j 59) = .tup [.sl 1 false (ints .u32 []), errV (0, 0)] := by unfold asmV; rw [hl2, if_neg hj8]
            have hj9 : ¬ ((8192 : Int) < (j : Int)) := by omega
            rw [v2] at hs2
            first | refine .inl ⟨0, _, hs1, ?_⟩ | refine .inl ⟨0, _, Meets.wk (hs1) (by simp), ?_⟩ | refine ⟨0, _, hs1, ?_⟩ | refine ⟨0, _, Meets.wk (hs1) (by simp), ?_⟩
            simp [aftC, aftE]
            repeat (first | (with_reducible refine awp_seqK fun K hK => ?_) | (with_reducible refine awp_block ?_) | (with_reducible refine awp_region (by kernel_rfl) ?_; simp [hbv, hby]) | (first | ((with_reducible refine hK _ ?_); clear hK) | (clear hK; (iterate 10 (try ((fail_if_success ((with_reducible refine hK _ ?_))); clear hK))); (with_reducible refine hK _ ?_); clear hK)) | ((with_reducible first | refine gcall_tt ?_ | refine gcall_ff ?_ | refine gcall_tf ?_ | refine gcall_ft ?_); simp [hbv, hby]) | (with_reducible refine awp_skip ?_; simp [hbv, hby]) | (with_reducible refine awp_exit ?_; simp [hbv, hby]) | (refine And.intro (by first | omega | assumption | grind) ?_))
            first | refine .inl ⟨0, _, hs2, ?_⟩ | refine .inl ⟨0, _, Meets.wk (hs2) (by simp), ?_⟩ | refine ⟨0, _, hs2, ?_⟩ | refine ⟨0, _, Meets.wk (hs2) (by simp), ?_⟩
            simp [aftC, aftE]
            repeat (first | (with_reducible refine awp_seqK fun K hK => ?_) | (with_reducible refine awp_block ?_) | (with_reducible refine awp_region (by kernel_rfl) ?_; simp [hil, g3']) | (first | ((with_reducible refine hK _ ?_); clear hK) | (clear hK; (iterate 10 (try ((fail_if_success ((with_reducible refine hK _ ?_))); clear hK))); (with_reducible refine hK _ ?_); clear hK)) | ((with_reducible first | refine gcall_tt ?_ | refine gcall_ff ?_ | refine gcall_tf ?_ | refine gcall_ft ?_); simp [hil, g3']) | (with_reducible refine awp_skip ?_; simp [hil, g3']) | (with_reducible refine awp_exit ?_; simp [hil, g3']) | (refine And.intro (by first | omega | assumption | grind) ?_))
            refine awp_cond rfl (fun h => by simp [gi] at h) (fun _ => ?_)
            repeat (first | (with_reducible refine awp_seqK fun K hK => ?_) | (with_reducible refine awp_block ?_) | (with_reducible refine awp_region (by kernel_rfl) ?_; simp) | (first | ((with_reducible refine hK _ ?_); clear hK) | (clear hK; (iterate 10 (try ((fail_if_success ((with_reducible refine hK _ ?_))); clear hK))); (with_reducible refine hK _ ?_); clear hK)) | ((with_reducible first | refine gcall_tt ?_ | refine gcall_ff ?_ | refine gcall_tf ?_ | refine gcall_ft ?_); simp) | (with_reducible refine awp_skip ?_; simp) | (with_reducible refine awp_exit ?_; simp) | (refine And.intro (by first | omega | assumption | grind) ?_))
            refine awp_cond rfl (fun h => by simp [hj9] at h) (fun _ => ?_)
            repeat (first | (with_reducible refine awp_seqK fun K hK => ?_) | (with_reducible refine awp_block ?_) | (with_reducible refine awp_region (by kernel_rfl) ?_; simp [hil, g3']) | (first | ((with_reducible refine hK _ ?_); clear hK) | (clear hK; (iterate 10 (try ((fail_if_success ((with_reducible refine hK _ ?_))); clear hK))); (with_reducible refine hK _ ?_); clear hK)) | ((with_reducible first | refine gcall_tt ?_ | refine gcall_ff ?_ | refine gcall_tf ?_ | refine gcall_ft ?_); simp [hil, g3']) | (with_reducible refine awp_skip ?_; simp [hil, g3']) | (with_reducible refine awp_exit ?_; simp [hil, g3']) | (refine And.intro (by first | omega | assumption | grind) ?_))
            first | refine .inl ⟨0, _, awake23_ok, ?_⟩ | refine .inl ⟨0, _, Meets.wk (awake23_ok) (by simp), ?_⟩ | refine ⟨0, _, awake23_ok, ?_⟩ | refine ⟨0, _, Meets.wk (awake23_ok) (by simp), ?_⟩
            simp [aftC, aftE]
            repeat (first | (with_reducible refine awp_seqK fun K hK => ?_) | (with_reducible refine awp_block ?_) | (with_reducible refine awp_region (by kernel_rfl) ?_; simp) | (first | ((with_reducible refine hK _ ?_); clear hK) | (clear hK; (iterate 10 (try ((fail_if_success ((with_reducible refine hK _ ?_))); clear hK))); (with_reducible refine hK _ ?_); clear hK)) | ((with_reducible first | refine gcall_tt ?_ | refine gcall_ff ?_ | refine gcall_tf ?_ | refine gcall_ft ?_); simp) | (with_reducible refine awp_skip ?_; simp) | (with_reducible refine awp_exit ?_; simp) | (refine And.intro (by first | omega | assumption | grind) ?_))
            refine awp_ret ?_
            simp
        · have v1 : asmV S = .tup [.sl 1 true [], errV (305, 2)] := by unfold asmV; rw [g2]
          have gi : (1024 : Int) < 1000 + (k : Int) := by omega
          have hil := ints_len .u32 []
          have g3' : (0 : Int) = 0 := rfl
          rw [v1] at hs1
          by_cases hj8 : 8192 < j
          · have v2 : asmV (List.replicate j 59) = .tup [.sl 1 true [], errV (300, 0)] := by unfold asmV; rw [hl2, if_pos hj8]
            have hj9 : (8192 : Int) < (j : Int) := by omega
            rw [v2] at hs2
            first | refine .inl ⟨0, _, hs1, ?_⟩ | refine .inl ⟨0, _, Meets.wk (hs1) (by simp), ?_⟩ | refine ⟨0, _, hs1, ?_⟩ | refine ⟨0, _, Meets.wk (hs1) (by simp), ?_⟩
            simp [aftC, aftE]
            repeat (first | (with_reducible refine awp_seqK fun K hK => ?_) | (with_reducible refine awp_block ?_) | (with_reducible refine awp_region (by kernel_rfl) ?_; simp [hbv, hby]) | (first | ((with_reducible refine hK _ ?_); clear hK) | (clear hK; (iterate 10 (try ((fail_if_success ((with_reducible refine hK _ ?_))); clear hK))); (with_reducible refine hK _ ?_); clear hK)) | ((with_reducible first | refine gcall_tt ?_ | refine gcall_ff ?_ | refine gcall_tf ?_ | refine gcall_ft ?_); simp [hbv, hby]) | (with_reducible refine awp_skip ?_; simp [hbv, hby]) | (with_reducible refine awp_exit ?_; simp [hbv, hby]) | (refine And.intro (by first | omega | assumption | grind) ?_))
            first | refine .inl ⟨0, _, hs2, ?_⟩ | refine .inl ⟨0, _, Meets.wk (hs2) (by simp), ?_⟩ | refine ⟨0, _, hs2, ?_⟩ | refine ⟨0, _, Meets.wk (hs2) (by simp), ?_⟩
            simp [aftC, aftE]
            repeat (first | (with_reducible refine awp_seqK fun K hK => ?_) | (with_reducible refine awp_block ?_) | (with_reducible refine awp_region (by kernel_rfl) ?_; simp [hil, g3']) | (first | ((with_reducible refine hK _ ?_); clear hK) | (clear hK; (iterate 10 (try ((fail_if_success ((with_reducible refine hK _ ?_))); clear hK))); (with_reducible refine hK _ ?_); clear hK)) | ((with_reducible first | refine gcall_tt ?_ | refine gcall_ff ?_ | refine gcall_tf ?_ | refine gcall_ft ?_); simp [hil, g3']) | (with_reducible refine awp_skip ?_; simp [hil, g3']) | (with_reducible refine awp_exit ?_; simp [hil, g3']) | (refine And.intro (by first | omega | assumption | grind) ?_))
            refine awp_cond rfl (fun _ => ?_) (fun h => by simp [gi] at h)
            repeat (first | (with_reducible refine awp_seqK fun K hK => ?_) | (with_reducible refine awp_block ?_) | (with_reducible refine awp_region (by kernel_rfl) ?_; simp) | (first | ((with_reducible refine hK _ ?_); clear hK) | (clear hK; (iterate 10 (try ((fail_if_success ((with_reducible refine hK _ ?_))); clear hK))); (with_reducible refine hK _ ?_); clear hK)) | ((with_reducible first | refine gcall_tt ?_ | refine gcall_ff ?_ | refine gcall_tf ?_ | refine gcall_ft ?_); simp) | (with_reducible refine awp_skip ?_; simp) | (with_reducible refine awp_exit ?_; simp) | (refine And.intro (by first | omega | assumption | grind) ?_))
            refine awp_cond rfl (fun _ => ?_) (fun h => by simp [hj9] at h)
            repeat (first | (with_reducible refine awp_seqK fun K hK => ?_) | (with_reducible refine awp_block ?_) | (with_reducible refine awp_region (by kernel_rfl) ?_; simp [hil, g3']) | (first | ((with_reducible refine hK _ ?_); clear hK) | (clear hK; (iterate 10 (try ((fail_if_success ((with_reducible refine hK _ ?_))); clear hK))); (with_reducible refine hK _ ?_); clear hK)) | ((with_reducible first | refine gcall_tt ?_ | refine gcall_ff ?_ | refine gcall_tf ?_ | refine gcall_ft ?_); simp [hil, g3']) | (with_reducible refine awp_skip ?_; simp [hil, g3']) | (with_reducible refine awp_exit ?_; simp [hil, g3']) | (refine And.intro (by first | omega | assumption | grind) ?_))
            first | refine .inl ⟨0, _, awake23_ok, ?_⟩ | refine .inl ⟨0, _, Meets.wk (awake23_ok) (by simp), ?_⟩ | refine ⟨0, _, awake23_ok, ?_⟩ | refine ⟨0, _, Meets.wk (awake23_ok) (by simp), ?_⟩
            simp [aftC, aftE]
            repeat (first | (with_reducible refine awp_seqK fun K hK => ?_) | (with_reducible refine awp_block ?_) | (with_reducible refine awp_region (by kernel_rfl) ?_; simp) | (first | ((with_reducible refine hK _ ?_); clear hK) | (clear hK; (iterate 10 (try ((fail_if_success ((with_reducible refine hK _ ?_))); clear hK))); (with_reducible refine hK _ ?_); clear hK)) | ((with_reducible first | refine gcall_tt ?_ | refine gcall_ff ?_ | refine gcall_tf ?_ | refine gcall_ft ?_); simp) | (with_reducible refine awp_skip ?_; simp) | (with_reducible refine awp_exit ?_; simp) | (refine And.intro (by first | omega | assumption | grind) ?_))
            refine awp_ret ?_
            simp
          · have v2 : asmV (List.replicate j 59) = .tup [.sl 1 false (ints .u32 []), errV (0, 0)] := by unfold asmV; rw [hl2, if_neg hj8]
            have hj9 : ¬ ((8192 : Int) < (j : Int)) := by omega
            rw [v2] at hs2
            first | refine .inl ⟨0, _, hs1, ?_⟩ | refine .inl ⟨0, _, Meets.wk (hs1) (by simp), ?_⟩ | refine ⟨0, _, hs1, ?_⟩ | refine ⟨0, _, Meets.wk (hs1) (by simp), ?_⟩
            simp [aftC, aftE]
            repeat (first | (with_reducible refine awp_seqK fun K hK => ?_) | (with_reducible refine awp_block ?_) | (with_reducible refine awp_region (by kernel_rfl) ?_; simp [hbv, hby]) | (first | ((with_reducible refine hK _ ?_); clear hK) | (clear hK; (iterate 10 (try ((fail_if_success ((with_reducible refine hK _ ?_))); clear hK))); (with_reducible refine hK _ ?_); clear hK)) | ((with_reducible first | refine gcall_tt ?_ | refine gcall_ff ?_ | refine gcall_tf ?_ | refine gcall_ft ?_); simp [hbv, hby]) | (with_reducible refine awp_skip ?_; simp [hbv, hby]) | (with_reducible refine awp_exit ?_; simp [hbv, hby]) | (refine And.intro (by first | omega | assumption | grind) ?_))
            first | refine .inl ⟨0, _, hs2, ?_⟩ | refine .inl ⟨0, _, Meets.wk (hs2) (by simp), ?_⟩ | refine ⟨0, _, hs2, ?_⟩ | refine ⟨0, _, Meets.wk (hs2) (by simp), ?_⟩
            simp [aftC, aftE]
            repeat (first | (with_reducible refine awp_seqK fun K hK => ?_) | (with_reducible refine awp_block ?_) | (with_reducible refine awp_region (by kernel_rfl) ?_; simp [hil, g3']) | (first | ((with_reducible refine hK _ ?_); clear hK) | (clear hK; (iterate 10 (try ((fail_if_success ((with_reducible refine hK _ ?_))); clear hK))); (with_reducible refine hK _ ?_); clear hK)) | ((with_reducible first | refine gcall_tt ?_ | refine gcall_ff ?_ | refine gcall_tf ?_ | refine gcall_ft ?_); simp [hil, g3']) | (with_reducible refine awp_skip ?_; simp [hil, g3']) | (with_reducible refine awp_exit ?_; simp [hil, g3']) | (refine And.intro (by first | omega | assumption | grind) ?_))
            refine awp_cond rfl (fun _ => ?_) (fun h => by simp [gi] at h)
            repeat (first | (with_reducible refine awp_seqK fun K hK => ?_) | (with_reducible refine awp_block ?_) | (with_reducible refine awp_region (by kernel_rfl) ?_; simp) | (first | ((with_reducible refine hK _ ?_); clear hK) | (clear hK; (iterate 10 (try ((fail_if_success ((with_reducible refine hK _ ?_))); clear hK))); (with_reducible refine hK _ ?_); clear hK)) | ((with_reducible first | refine gcall_tt ?_ | refine gcall_ff ?_ | refine gcall_tf ?_ | refine gcall_ft ?_); simp) | (with_reducible refine awp_skip ?_; simp) | (with_reducible refine awp_exit ?_; simp) | (refine And.intro (by first | omega | assumption | grind) ?_))
            refine awp_cond rfl (fun h => by simp [hj9] at h) (fun _ => ?_)
            repeat (first | (with_reducible refine awp_seqK fun K hK => ?_) | (with_reducible refine awp_block ?_) | (with_reducible refine awp_region (by kernel_rfl) ?_; simp [hil, g3']) | (first | ((with_reducible refine hK _ ?_); clear hK) | (clear hK; (iterate 10 (try ((fail_if_success ((with_reducible refine hK _ ?_))); clear hK))); (with_reducible refine hK _ ?_); clear hK)) | ((with_reducible first | refine gcall_tt ?_ | refine gcall_ff ?_ | refine gcall_tf ?_ | refine gcall_ft ?_); simp [hil, g3']) | (with_reducible refine awp_skip ?_; simp [hil, g3']) | (with_reducible refine awp_exit ?_; simp [hil, g3']) | (refine And.intro (by first | omega | assumption | grind) ?_))
            first | refine .inl ⟨0, _, awake23_ok, ?_⟩ | refine .inl ⟨0, _, Meets.wk (awake23_ok) (by simp), ?_⟩ | refine ⟨0, _, awake23_ok, ?_⟩ | refine ⟨0, _, Meets.wk (awake23_ok) (by simp), ?_⟩
            simp [aftC, aftE]
            repeat (first | (with_reducible refine awp_seqK fun K hK => ?_) | (with_reducible refine awp_block ?_) | (with_reducible refine awp_region (by kernel_rfl) ?_; simp) | (first | ((with_reducible refine hK _ ?_); clear hK) | (clear hK; (iterate 10 (try ((fail_if_success ((with_reducible refine hK _ ?_))); clear hK))); (with_reducible refine hK _ ?_); clear hK)) | ((with_reducible first | refine gcall_tt ?_ | refine gcall_ff ?_ | refine gcall_tf ?_ | refine gcall_ft ?_); simp) | (with_reducible refine awp_skip ?_; simp) | (with_reducible refine awp_exit ?_; simp) | (refine And.intro (by first | omega | assumption | grind) ?_))
            refine awp_ret ?_
            simp
end Go.Proofs.YtjlbpkokdlggiaaDoor
