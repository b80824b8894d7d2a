/- The document's assembler: letters, digits, registers, names, numbers, operations, patterns. (Numbers of seat r2.D.) -/
import Derived.Test.YtjlbpkokdlggiaaDoorAs12
import Derived.Test.YtjlbpkokdlggiaaDoorDec
namespace Go.Proofs.YtjlbpkokdlggiaaDoor
open Go.Ab Go.RowKit
set_option linter.unusedSimpArgs false
set_option maxRecDepth 100000
theorem mn_range (lo hi : Int) (l : List (List UInt8)) (hl : (l.length : Int) = hi - lo + 1) (h0 : 0 ≤ lo) (hm : ∀ k, k < l.length → mnemo.getD (lo.toNat + k) [] = l.getD k []) (op : Int) (h1 : lo ≤ op) (h2 : op ≤ hi) :
    (l.map fun s => [V.str s])[(op - lo).toNat]? = some [.str (mnS op)] := by
  have hk : (op - lo).toNat < l.length := by omega
  rw [List.getElem?_map, List.getElem?_eq_getElem hk, Option.map_some]
  have := hm _ hk
  rw [List.getD_eq_getElem?_getD (l := l), List.getElem?_eq_getElem hk, Option.getD_some, show lo.toNat + (op - lo).toNat = op.toNat by omega] at this
  unfold mnS
  rw [this]
set_option maxHeartbeats 16000000 in
theorem mnemonic_ok (op : Int) : Meets Tryd.prog 41 [.int .i64 op] (.str (mnS op)) := by
  refine Meets.of Tryd.func41 rfl (by kernel_rfl) rfl ?_
  simp only [Tryd.ntmps41, St.start, argT]
  refine au  ?_
  repeat intro K hK
  refine wr ?_
  refine awp_cond rfl (fun h1 => ?_) (fun h1 => ?_)
  · simp at h1
    have hw : IntKind.i64.wrap (op - 1) = op - 1 := wrap_i64_in (by omega) (by omega)
    have hx := mn_range 1 13 [[97, 100, 100], [115, 117, 98], [97, 110, 100], [111, 114], [120, 111, 114], [115, 104, 108], [115, 104, 114], [115, 97, 114], [109, 117, 108], [100, 105, 118], [114, 101, 109], [115, 108, 116], [115, 108, 116, 117]] (by decide) (by decide) (by decide) op h1.1 h1.2
    simp at hx
    refine au2 @hw @hx ?_
    repeat intro K hK
    refine wr ?_
    refine awp_ret ?_
    simp
  simp at h1
  refine au  ?_
  repeat intro K hK
  refine wr ?_
  refine awp_cond rfl (fun h2 => ?_) (fun h2 => ?_)
  · simp at h2
    have hw : IntKind.i64.wrap (op - 16) = op - 16 := wrap_i64_in (by omega) (by omega)
    have hx := mn_range 16 24 [[97, 100, 100, 105], [97, 110, 100, 105], [111, 114, 105], [120, 111, 114, 105], [115, 104, 108, 105], [115, 104, 114, 105], [115, 97, 114, 105], [115, 108, 116, 105], [108, 117, 105]] (by decide) (by decide) (by decide) op h2.1 h2.2
    simp at hx
    refine au2 @hw @hx ?_
    repeat intro K hK
    refine wr ?_
    refine awp_ret ?_
    simp
  simp at h2
  refine au  ?_
  repeat intro K hK
  refine wr ?_
  refine awp_cond rfl (fun h3 => ?_) (fun h3 => ?_)
  · simp at h3
    have hw : IntKind.i64.wrap (op - 32) = op - 32 := wrap_i64_in (by omega) (by omega)
    have hx := mn_range 32 36 [[108, 119], [108, 98], [108, 98, 117], [115, 119], [115, 98]] (by decide) (by decide) (by decide) op h3.1 h3.2
    simp at hx
    refine au2 @hw @hx ?_
    repeat intro K hK
    refine wr ?_
    refine awp_ret ?_
    simp
  simp at h3
  refine au  ?_
  repeat intro K hK
  refine wr ?_
  refine awp_cond rfl (fun h4 => ?_) (fun h4 => ?_)
  · simp at h4
    have hw : IntKind.i64.wrap (op - 40) = op - 40 := wrap_i64_in (by omega) (by omega)
    have hx := mn_range 40 45 [[98, 101, 113], [98, 110, 101], [98, 108, 116], [98, 103, 101], [98, 108, 116, 117], [98, 103, 101, 117]] (by decide) (by decide) (by decide) op h4.1 h4.2
    simp at hx
    refine au2 @hw @hx ?_
    repeat intro K hK
    refine wr ?_
    refine awp_ret ?_
    simp
  simp at h4
  refine au  ?_
  repeat intro K hK
  refine wr ?_
  refine awp_cond rfl (fun h5 => ?_) (fun h5 => ?_)
  · simp at h5
    subst h5
    refine au  ?_
    repeat intro K hK
    refine wr ?_
    refine awp_ret ?_
    simp [mnS, mnemo]
  simp at h5
  refine au  ?_
  repeat intro K hK
  refine wr ?_
  refine awp_cond rfl (fun h6 => ?_) (fun h6 => ?_)
  · simp at h6
    subst h6
    refine au  ?_
    repeat intro K hK
    refine wr ?_
    refine awp_ret ?_
    simp [mnS, mnemo]
  simp at h6
  refine au  ?_
  repeat intro K hK
  refine wr ?_
  refine awp_cond rfl (fun h7 => ?_) (fun h7 => ?_)
  · simp at h7
    have hw : IntKind.i64.wrap (op - 56) = op - 56 := wrap_i64_in (by omega) (by omega)
    have hx := mn_range 56 64 [[101, 99, 97, 108, 108], [101, 114, 101, 116], [99, 115, 114, 114], [99, 115, 114, 119], [105, 110], [111, 117, 116], [119, 102, 105], [102, 108, 117, 115, 104], [104, 97, 108, 116]] (by decide) (by decide) (by decide) op h7.1 h7.2
    simp at hx
    refine au2 @hw @hx ?_
    repeat intro K hK
    refine wr ?_
    refine awp_ret ?_
    simp
  simp at h7
  refine au  ?_
  repeat intro K hK
  refine wr ?_
  have hn : mnS op = [] := by
    by_cases hneg : op < 0
    · have : op.toNat = 0 := by omega
      unfold mnS; rw [this]; rfl
    · by_cases hbig : 65 ≤ op
      · unfold mnS; rw [List.getD_eq_getElem?_getD, List.getElem?_eq_none (by rw [mnemo_len]; omega)]; rfl
      · have hc : op = 0 ∨ op = 14 ∨ op = 15 ∨ op = 25 ∨ op = 26 ∨ op = 27 ∨ op = 28 ∨ op = 29 ∨ op = 30 ∨ op = 31 ∨ op = 37 ∨ op = 38 ∨ op = 39 ∨ op = 46 ∨ op = 47 ∨ op = 50 ∨ op = 51 ∨ op = 52 ∨ op = 53 ∨ op = 54 ∨ op = 55 := by omega
        rcases hc with rfl | rfl | rfl | rfl | rfl | rfl | rfl | rfl | rfl | rfl | rfl | rfl | rfl | rfl | rfl | rfl | rfl | rfl | rfl | rfl | rfl <;> rfl
  refine awp_ret ?_
  simp [hn]
theorem reg_ok (r : Int) (h0 : -9223372036854775808 ≤ r) (h1 : r ≤ 9223372036854775807) : Meets Tryd.prog 42 [.int .i64 r] (.str (regS r)) := by
  have hw : IntKind.i64.wrap r = r := wrap_i64_in h0 h1
  have hl := Lib.itoa_length_le r h0 h1
  refine Meets.of Tryd.func42 rfl (by kernel_rfl) rfl ?_
  simp only [Tryd.ntmps42, St.start, argT]
  refine au  ?_
  repeat intro K hK
  refine wr ?_
  refine ca (decimal_ok r h0 h1)  ?_
  refine au1 @hl ?_
  repeat intro K hK
  refine wr ?_
  refine awp_ret ?_
  simp [regS]
def letB (c : UInt8) : Bool := decide (97 ≤ c.toNat) && decide (c.toNat ≤ 122)
def digB (c : UInt8) : Bool := decide (48 ≤ c.toNat) && decide (c.toNat ≤ 57)
theorem letter_ok (c : UInt8) : Meets Tryd.prog 118 [.int .u8 c.toNat] (.bool (letB c)) := by
  refine Meets.of Tryd.func118 rfl (by kernel_rfl) rfl ?_
  simp only [Tryd.ntmps118, St.start, argT]
  refine au  ?_
  repeat intro K hK
  refine wr ?_
  refine awp_ret ?_
  simp [letB]
  try (rw [Bool.eq_iff_iff]; simp; try omega)
theorem digit_ok (c : UInt8) : Meets Tryd.prog 119 [.int .u8 c.toNat] (.bool (digB c)) := by
  refine Meets.of Tryd.func119 rfl (by kernel_rfl) rfl ?_
  simp only [Tryd.ntmps119, St.start, argT]
  refine au  ?_
  repeat intro K hK
  refine wr ?_
  refine awp_ret ?_
  simp [digB]
  try (rw [Bool.eq_iff_iff]; simp; try omega)
set_option maxHeartbeats 4000000 in
theorem regOf_ok (s : Str) : Meets Tryd.prog 120 [.str s] (regV s) := by
  refine Meets.of Tryd.func120 rfl (by kernel_rfl) rfl ?_
  simp only [Tryd.ntmps120, St.start, argT]
  refine au  ?_
  repeat intro K hK
  refine wr ?_
  obtain ⟨I, hI⟩ : ∃ I : Nat → St → Prop, I = (fun kk ss => ∃ (i : Nat) , i ≤ 16 ∧ kk = 16 - i ∧ ((∀ k, k < i → s ≠ regS (k : Nat))) ∧ ss = ⟨14, [(4, .int .i64 i), (0, .str s)], 0, [], 0⟩) := ⟨_, rfl⟩
  refine awp_loopA I (k0 := 16) (st0 := (fun (i : Nat)  => (⟨14, [(4, .int .i64 i), (0, .str s)], 0, [], 0⟩ : St)) 0 ) (ρ0 := id) ⟨rfl, by simp [leT, ltV, lt1, ren, ren1], by simp [leO, lt1, ren1], by simp, by simp⟩ (by rw [hI]; exact ⟨0, by simp, by simp, (by intro k hk; omega), rfl⟩) ?_
  intro kk ss hIk _
  rw [hI] at hIk
  obtain ⟨i, hi, rfl, hx, rfl⟩ := hIk
  have hw : IntKind.i64.wrap ((i : Int) + 1) = ((i + 1 : Nat) : Int) := by rw [wrap_i64_in (by omega) (by omega)]; omega
  refine au  ?_
  repeat intro K hK
  refine wr ?_
  refine awp_cond rfl (fun h => ?_) (fun h => ?_)
  · simp at h
    refine au  ?_
    repeat intro K hK
    refine wr ?_
    refine ca (reg_ok (i : Int) (by omega) (by omega))  ?_
    refine au  ?_
    repeat intro K hK
    refine wr ?_
    refine awp_cond rfl (fun h2 => ?_) (fun h2 => ?_)
    · simp at h2
      refine au  ?_
      repeat intro K hK
      refine wr ?_
      refine awp_ret ?_
      simp [reg_at s i (by omega) h2 hx]
    · simp at h2
      have hx2 : ∀ k, k < i + 1 → s ≠ regS (k : Nat) := fun k hk => by
        by_cases e : k = i
        · subst e; exact h2
        · exact hx k (by omega)
      refine au  ?_
      repeat intro K hK
      refine wr ?_
      refine again_of (16 - (i + 1)) ((fun (i : Nat)  => (⟨14, [(4, .int .i64 i), (0, .str s)], 0, [], 0⟩ : St)) (i + 1) ) (id) (by omega) (by rw [hI]; exact ⟨i + 1, by omega, rfl, hx2, rfl⟩) ⟨rfl, ?_, ?_, ?_, by simp⟩
      · simp [leT, ltV, lt1, ren, ren1, wrap_i64_in (n := (i : Int) + 1) (by omega) (by omega), hw]
      · simp [leO, lt1, ren1, hw]
      · (simp; try omega)
  · simp at h
    have hi : i = 16 := by omega
    subst hi
    refine au  ?_
    repeat intro K hK
    refine wr ?_
    refine awp_ret ?_
    simp [reg_no s hx]
/-- the document's: a word is a name -/
def nameD (s : Str) : Bool := decide (1 ≤ s.length) && decide (s.length ≤ 12) && letB (s.getD 0 0) && (regN s).isNone
set_option maxHeartbeats 4000000 in
theorem name_ok (s : Str) : Meets Tryd.prog 102 [.str s] (.bool (nameD s)) := by
  refine Meets.of Tryd.func102 rfl (by kernel_rfl) rfl ?_
  simp only [Tryd.ntmps102, St.start, argT]
  refine au  ?_
  repeat intro K hK
  refine wr ?_
  refine ca (regOf_ok s)  ?_
  refine au  ?_
  repeat intro K hK
  refine wr ?_
  first | refine gcall_c (letter_ok (s.getD 0 0)) rfl (fun hgd => ?_) (by simp [obsL]) ?_ | refine gcallE_c (letter_ok (s.getD 0 0)) rfl (by simp) (fun hgd => ?_) (by simp [obsL]) ?_
  all_goals simp
  all_goals (try (first | exact hgd | (simp at hgd; first | done | assumption | grind)))
  refine au  ?_
  repeat intro K hK
  refine wr ?_
  have e1 : decide ((1 : Int) ≤ (s.length : Int)) = decide (1 ≤ s.length) := decide_eq_decide.2 (by omega)
  have e2 : decide ((s.length : Int) ≤ 12) = decide (s.length ≤ 12) := decide_eq_decide.2 (by omega)
  refine awp_ret ?_
  simp [nameD, e1, e2]
/-- the operation of a mnemonic, or 0 -/
def opF (s : Str) : Nat → Nat → Nat
  | 0, _ => 0
  | k + 1, op => if formD (op : Nat) ≠ 0 ∧ mnS (op : Nat) = s then op else opF s k (op + 1)
def opD (s : Str) : Nat := opF s 64 1
set_option maxHeartbeats 4000000 in
theorem operation_ok (s : Str) : Meets Tryd.prog 105 [.str s] (.int .i64 (opD s)) := by
  refine Meets.of Tryd.func105 rfl (by kernel_rfl) rfl ?_
  simp only [Tryd.ntmps105, St.start, argT]
  refine au  ?_
  repeat intro K hK
  refine wr ?_
  obtain ⟨I, hI⟩ : ∃ I : Nat → St → Prop, I = (fun kk ss => ∃ (i : Nat) , i ≤ 64 ∧ kk = 64 - i ∧ (opD s = opF s (64 - i) (i + 1)) ∧ ss = ⟨18, [(3, .int .i64 (i + 1 : Nat)), (0, .str s)], 0, [], 0⟩) := ⟨_, rfl⟩
  refine awp_loopA I (k0 := 64) (st0 := (fun (i : Nat)  => (⟨18, [(3, .int .i64 (i + 1 : Nat)), (0, .str s)], 0, [], 0⟩ : St)) 0 ) (ρ0 := id) ⟨rfl, by simp [leT, ltV, lt1, ren, ren1], by simp [leO, lt1, ren1], by simp, by simp⟩ (by rw [hI]; exact ⟨0, by simp, by simp, rfl, rfl⟩) ?_
  intro kk ss hIk _
  rw [hI] at hIk
  obtain ⟨i, hi, rfl, hx, rfl⟩ := hIk
  have hw : IntKind.i64.wrap ((i : Int) + 1 + 1) = (i : Int) + 1 + 1 := wrap_i64_in (by omega) (by omega)
  refine au  ?_
  repeat intro K hK
  refine wr ?_
  refine awp_cond rfl (fun h => ?_) (fun h => ?_)
  · simp at h
    have hst : opF s (64 - i) (i + 1) = if formD ((i + 1 : Nat) : Int) ≠ 0 ∧ mnS ((i + 1 : Nat) : Int) = s then i + 1 else opF s (64 - (i + 1)) (i + 1 + 1) := by
      rw [show 64 - i = (64 - (i + 1)) + 1 by omega]; rfl
    rw [hst] at hx
    have hc : ((i + 1 : Nat) : Int) = (i : Int) + 1 := by omega
    rw [hc] at hx
    have hfr := formD_range ((i : Int) + 1)
    refine au  ?_
    repeat intro K hK
    refine wr ?_
    refine ca (form_ok ((i : Int) + 1))  ?_
    refine au  ?_
    repeat intro K hK
    refine wr ?_
    first | refine gcall_c (mnemonic_ok ((i : Int) + 1)) rfl (fun hgd => ?_) (by simp [obsL]) ?_ | refine gcallE_c (mnemonic_ok ((i : Int) + 1)) rfl (by simp) (fun hgd => ?_) (by simp [obsL]) ?_
    all_goals simp
    all_goals (try (first | exact hgd | (simp at hgd; first | done | assumption | grind)))
    refine au  ?_
    repeat intro K hK
    refine wr ?_
    refine awp_cond rfl (fun h2 => ?_) (fun h2 => ?_)
    · have hq : formD ((i : Int) + 1) ≠ 0 ∧ mnS ((i : Int) + 1) = s := by
        simp at h2
        exact ⟨by omega, h2.2⟩
      rw [if_pos hq] at hx
      refine au  ?_
      repeat intro K hK
      refine wr ?_
      refine awp_ret ?_
      simp [hx]
    · have hq : ¬ (formD ((i : Int) + 1) ≠ 0 ∧ mnS ((i : Int) + 1) = s) := by
        intro hq
        simp at h2
        exact h2 (by omega) hq.2
      rw [if_neg hq] at hx
      refine au1 @hw ?_
      repeat intro K hK
      refine wr ?_
      refine again_of (64 - (i + 1)) ((fun (i : Nat)  => (⟨18, [(3, .int .i64 (i + 1 : Nat)), (0, .str s)], 0, [], 0⟩ : St)) (i + 1) ) (id) (by omega) (by rw [hI]; exact ⟨i + 1, by omega, rfl, hx, rfl⟩) ⟨rfl, ?_, ?_, ?_, by simp⟩
      · simp [leT, ltV, lt1, ren, ren1, wrap_i64_in (n := (i : Int) + 1) (by omega) (by omega), hw]
      · simp [leO, lt1, ren1, hw]
      · (simp; try omega)
  · simp at h
    have hi : i = 64 := by omega
    subst hi
    refine au  ?_
    repeat intro K hK
    refine wr ?_
    refine awp_ret ?_
    simp [hx, opF]
/-- the pattern of a statement's operands -/
def patR (s : Str) : Option Str :=
  if s = [46, 119, 111, 114, 100] then some [120]
  else if s = [46, 115, 112, 97, 99, 101] then some [110]
  else if s = [108, 105] then some [114, 44, 120]
  else if s = [109, 118] then some [114, 44, 114]
  else if s = [110, 111, 112] then some []
  else if opD s = 0 then none
  else if 32 ≤ opD s ∧ opD s ≤ 36 then some [114, 44, 110, 40, 114, 41]
  else if 40 ≤ opD s ∧ opD s ≤ 45 then some [114, 44, 114, 44, 120]
  else if opD s = 48 then some [114, 44, 120]
  else if formD (opD s : Nat) = 1 then some []
  else if formD (opD s : Nat) = 2 then some [114, 44, 114, 44, 114]
  else if 6 ≤ formD (opD s : Nat) then some [114, 44, 110]
  else some [114, 44, 114, 44, 110]
abbrev patRV (s : Str) : V := .tup [.str ((patR s).getD []), .bool (patR s).isSome]
set_option maxHeartbeats 16000000 in
theorem pattern_ok (s : Str) : Meets Tryd.prog 103 [.str s] (patRV s) := by
  refine Meets.of Tryd.func103 rfl (by kernel_rfl) rfl ?_
  simp only [Tryd.ntmps103, St.start, argT]
  refine au  ?_
  repeat intro K hK
  refine wr ?_
  refine ca (operation_ok s)  ?_
  refine au  ?_
  repeat intro K hK
  refine wr ?_
  by_cases h1 : s = [46, 119, 111, 114, 100]
  · refine awp_cond rfl (fun _ => ?_) (fun h => by simp [h1] at h)
    refine au  ?_
    repeat intro K hK
    refine wr ?_
    refine awp_ret ?_
    simp [patR, h1]
  refine awp_cond rfl (fun h => by simp [h1] at h) (fun _ => ?_)
  refine au  ?_
  repeat intro K hK
  refine wr ?_
  by_cases h2 : s = [46, 115, 112, 97, 99, 101]
  · refine awp_cond rfl (fun _ => ?_) (fun h => by simp [h2] at h)
    refine au  ?_
    repeat intro K hK
    refine wr ?_
    refine awp_ret ?_
    simp [patR, h1, h2]
  refine awp_cond rfl (fun h => by simp [h2] at h) (fun _ => ?_)
  refine au  ?_
  repeat intro K hK
  refine wr ?_
  by_cases h3 : s = [108, 105]
  · refine awp_cond rfl (fun _ => ?_) (fun h => by simp [h3] at h)
    refine au  ?_
    repeat intro K hK
    refine wr ?_
    refine awp_ret ?_
    simp [patR, h1, h2, h3]
  refine awp_cond rfl (fun h => by simp [h3] at h) (fun _ => ?_)
  refine au  ?_
  repeat intro K hK
  refine wr ?_
  by_cases h4 : s = [109, 118]
  · refine awp_cond rfl (fun _ => ?_) (fun h => by simp [h4] at h)
    refine au  ?_
    repeat intro K hK
    refine wr ?_
    refine awp_ret ?_
    simp [patR, h1, h2, h3, h4]
  refine awp_cond rfl (fun h => by simp [h4] at h) (fun _ => ?_)
  refine au  ?_
  repeat intro K hK
  refine wr ?_
  by_cases h5 : s = [110, 111, 112]
  · refine awp_cond rfl (fun _ => ?_) (fun h => by simp [h5] at h)
    refine au  ?_
    repeat intro K hK
    refine wr ?_
    refine awp_ret ?_
    simp [patR, h1, h2, h3, h4, h5]
  refine awp_cond rfl (fun h => by simp [h5] at h) (fun _ => ?_)
  refine au  ?_
  repeat intro K hK
  refine wr ?_
  by_cases h6 : opD s = 0
  · refine awp_cond rfl (fun _ => ?_) (fun h => by simp [h6] at h)
    refine au  ?_
    repeat intro K hK
    refine wr ?_
    refine awp_ret ?_
    simp [patR, h1, h2, h3, h4, h5, h6]
  refine awp_cond rfl (fun h => by simp [h6] at h) (fun _ => ?_)
  refine au  ?_
  repeat intro K hK
  refine wr ?_
  generalize hop : opD s = op at h6 ⊢
  by_cases h7 : 32 ≤ op ∧ op ≤ 36
  · have q1 : (32 : Int) ≤ (op : Int) := by omega
    have q2 : (op : Int) ≤ 36 := by omega
    refine awp_cond rfl (fun _ => ?_) (fun h => by simp [q1, q2] at h)
    refine au  ?_
    repeat intro K hK
    refine wr ?_
    refine awp_ret ?_
    simp [patR, h1, h2, h3, h4, h5, h6, hop, h7]
  have q7 : ¬ ((32 : Int) ≤ (op : Int) ∧ (op : Int) ≤ 36) := by omega
  refine awp_cond rfl (fun h => by simp at h; exact absurd h q7) (fun _ => ?_)
  refine au  ?_
  repeat intro K hK
  refine wr ?_
  by_cases h8 : 40 ≤ op ∧ op ≤ 45
  · have q1 : (40 : Int) ≤ (op : Int) := by omega
    have q2 : (op : Int) ≤ 45 := by omega
    refine awp_cond rfl (fun _ => ?_) (fun h => by simp [q1, q2] at h)
    refine au  ?_
    repeat intro K hK
    refine wr ?_
    refine awp_ret ?_
    simp [patR, h1, h2, h3, h4, h5, h6, hop, h7, h8]
  have q8 : ¬ ((40 : Int) ≤ (op : Int) ∧ (op : Int) ≤ 45) := by omega
  refine awp_cond rfl (fun h => by simp at h; exact absurd h q8) (fun _ => ?_)
  refine au  ?_
  repeat intro K hK
  refine wr ?_
  by_cases h9 : op = 48
  · have q1 : (op : Int) = 48 := by omega
    refine awp_cond rfl (fun _ => ?_) (fun h => by simp [q1] at h)
    refine au  ?_
    repeat intro K hK
    refine wr ?_
    refine awp_ret ?_
    simp [patR, h1, h2, h3, h4, h5, h6, hop, h7, h8, h9]
  have q9 : ¬ ((op : Int) = 48) := by omega
  refine awp_cond rfl (fun h => by simp [q9] at h) (fun _ => ?_)
  refine au  ?_
  repeat intro K hK
  refine wr ?_
  refine ca (form_ok (op : Int))  ?_
  refine au  ?_
  repeat intro K hK
  refine wr ?_
  by_cases h10 : formD (op : Int) = 1
  · refine awp_cond rfl (fun _ => ?_) (fun h => by simp [h10] at h)
    refine au  ?_
    repeat intro K hK
    refine wr ?_
    refine awp_ret ?_
    simp [patR, h1, h2, h3, h4, h5, h6, hop, h7, h8, h9, h10]
  refine awp_cond rfl (fun h => by simp [h10] at h) (fun _ => ?_)
  refine au  ?_
  repeat intro K hK
  refine wr ?_
  by_cases h11 : formD (op : Int) = 2
  · refine awp_cond rfl (fun _ => ?_) (fun h => by simp [h11] at h)
    refine au  ?_
    repeat intro K hK
    refine wr ?_
    refine awp_ret ?_
    simp [patR, h1, h2, h3, h4, h5, h6, hop, h7, h8, h9, h10, h11]
  refine awp_cond rfl (fun h => by simp [h11] at h) (fun _ => ?_)
  refine au  ?_
  repeat intro K hK
  refine wr ?_
  by_cases h12 : 6 ≤ formD (op : Int)
  · refine awp_cond rfl (fun _ => ?_) (fun h => by simp [h12] at h)
    refine au  ?_
    repeat intro K hK
    refine wr ?_
    refine awp_ret ?_
    simp [patR, h1, h2, h3, h4, h5, h6, hop, h7, h8, h9, h10, h11, h12]
  refine awp_cond rfl (fun h => by simp [h12] at h) (fun _ => ?_)
  refine au  ?_
  repeat intro K hK
  refine wr ?_
  refine awp_ret ?_
  simp [patR, h1, h2, h3, h4, h5, h6, hop, h7, h8, h9, h10, h11, h12]
end Go.Proofs.YtjlbpkokdlggiaaDoor
