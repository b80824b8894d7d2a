/- Package asm: registers, names, numbers. (Numbers of seat r2.D.) -/
import Derived.Test.YtjlbpkokdlggiaaDoorAs1
namespace Go.Proofs.YtjlbpkokdlggiaaDoor
open Go.Ab Go.RowKit
set_option linter.unusedSimpArgs false
set_option maxRecDepth 100000
def regNames : List Str := [[114, 48], [114, 49], [114, 50], [114, 51], [114, 52], [114, 53], [114, 54], [114, 55], [114, 56], [114, 57], [114, 49, 48], [114, 49, 49], [114, 49, 50], [114, 49, 51], [114, 49, 52], [114, 49, 53]]
theorem itoa_nat (i : Nat) : Lib.itoa (i : Int) = Lib.decDigits i := Lib.itoa_nonneg i
theorem regS_names : ∀ i < 16, regS (i : Nat) = regNames.getD i [] := by
  intro i hi
  unfold regS
  rw [itoa_nat]
  by_cases h : i < 10
  · rw [Lib.decDigits_one h]
    have : i = 0 ∨ i = 1 ∨ i = 2 ∨ i = 3 ∨ i = 4 ∨ i = 5 ∨ i = 6 ∨ i = 7 ∨ i = 8 ∨ i = 9 := by omega
    rcases this with rfl | rfl | rfl | rfl | rfl | rfl | rfl | rfl | rfl | rfl <;> rfl
  · rw [Lib.decDigits_two h (by omega)]
    have : i = 10 ∨ i = 11 ∨ i = 12 ∨ i = 13 ∨ i = 14 ∨ i = 15 := by omega
    rcases this with rfl | rfl | rfl | rfl | rfl | rfl <;> rfl
def findI (s : Str) : List Str → Nat → Option Nat
  | [], _ => none
  | x :: r, i => if s = x then some i else findI s r (i + 1)
def regN (s : Str) : Option Nat := findI s regNames 0
theorem findI_some (s : Str) : ∀ (l : List Str) (k i : Nat), i < l.length → s = l.getD i [] → (∀ j, j < i → s ≠ l.getD j []) → findI s l k = some (k + i)
  | x :: r, k, 0, _, h, _ => by simp only [List.getD_cons_zero] at h; simp [findI, h]
  | x :: r, k, i + 1, hl, h, hno => by
    have h0 := hno 0 (by omega)
    simp only [List.getD_cons_zero] at h0
    simp only [findI, h0, if_false]
    rw [findI_some s r (k + 1) i (by simpa using hl) (by simpa using h) (fun j hj => by simpa using hno (j + 1) (by omega))]
    congr 1; omega
  | [], _, _, hl, _, _ => by simp at hl
theorem findI_none (s : Str) : ∀ (l : List Str) (k : Nat), (∀ j, j < l.length → s ≠ l.getD j []) → findI s l k = none
  | [], _, _ => rfl
  | x :: r, k, hno => by
    have h0 := hno 0 (by simp)
    simp only [List.getD_cons_zero] at h0
    simp only [findI, h0, if_false]
    exact findI_none s r (k + 1) fun j hj => by simpa using hno (j + 1) (by simpa using hj)
abbrev regV (s : Str) : V := .tup [.int .i64 ((regN s).getD 0 : Nat), .bool (regN s).isSome]
theorem reg_at (s : Str) (i : Nat) (hi : i < 16) (h : s = 114 :: Lib.itoa i) (hno : ∀ k, k < i → s ≠ regS (k : Nat)) : regN s = some i := by
  have := findI_some s regNames 0 i hi (by rw [← regS_names i hi]; exact h) (fun j hj => by rw [← regS_names j (by omega)]; exact hno j hj)
  simpa [regN] using this
theorem reg_no (s : Str) (hno : ∀ k, k < 16 → s ≠ regS (k : Nat)) : regN s = none :=
  findI_none s regNames 0 fun j hj => by rw [← regS_names j hj]; exact hno j hj
set_option maxHeartbeats 4000000 in
theorem parseReg_ok (s : Str) : Meets Tryd.prog 99 [.str s] (regV s) := by
  refine Meets.of Tryd.func99 rfl (by kernel_rfl) rfl ?_
  simp only [Tryd.ntmps99, St.start, argT]
  refine au  ?_
  repeat intro K hK
  refine wr ?_
  obtain ⟨I, hI⟩ : ∃ I : Nat → St → Prop, I = (fun kk ss => ∃ (i : Nat) , i ≤ 16 ∧ kk = 16 - i ∧ ((∀ k, k < i → s ≠ regS (k : Nat))) ∧ ss = ⟨15, [(5, .int .i64 i), (0, .str s)], 0, [], 0⟩) := ⟨_, rfl⟩
  refine awp_loopA I (k0 := 16) (st0 := (fun (i : Nat)  => (⟨15, [(5, .int .i64 i), (0, .str s)], 0, [], 0⟩ : St)) 0 ) (ρ0 := id) ⟨rfl, by simp [leT, ltV, lt1, ren, ren1], by simp [leO, lt1, ren1], by simp, by simp⟩ (by rw [hI]; exact ⟨0, by simp, by simp, (by intro k hk; omega), rfl⟩) ?_
  intro kk ss hIk _
  rw [hI] at hIk
  obtain ⟨i, hi, rfl, hx, rfl⟩ := hIk
  have hw : IntKind.i64.wrap ((i : Int) + 1) = ((i + 1 : Nat) : Int) := by rw [wrap_i64_in (by omega) (by omega)]; omega
  refine au  ?_
  repeat intro K hK
  refine wr ?_
  refine awp_cond rfl (fun h => ?_) (fun h => ?_)
  · simp at h
    have hl := Lib.itoa_length_le (i : Int) (by omega) (by omega)
    refine au  ?_
    repeat intro K hK
    refine wr ?_
    refine ca (itoa_ok (i : Int) (by omega) (by omega))  ?_
    refine au1 @hl ?_
    repeat intro K hK
    refine wr ?_
    refine awp_cond rfl (fun h2 => ?_) (fun h2 => ?_)
    · simp at h2
      refine au  ?_
      repeat intro K hK
      refine wr ?_
      refine awp_ret ?_
      simp [reg_at s i (by omega) h2 hx]
    · simp at h2
      have hx2 : ∀ k, k < i + 1 → s ≠ regS (k : Nat) := fun k hk => by
        by_cases e : k = i
        · subst e; exact h2
        · exact hx k (by omega)
      refine au  ?_
      repeat intro K hK
      refine wr ?_
      refine again_of (16 - (i + 1)) ((fun (i : Nat)  => (⟨15, [(5, .int .i64 i), (0, .str s)], 0, [], 0⟩ : St)) (i + 1) ) (id) (by omega) (by rw [hI]; exact ⟨i + 1, by omega, rfl, hx2, rfl⟩) ⟨rfl, ?_, ?_, ?_, by simp⟩
      · simp [leT, ltV, lt1, ren, ren1, wrap_i64_in (n := (i : Int) + 1) (by omega) (by omega), hw]
      · simp [leO, lt1, ren1, hw]
      · (simp; try omega)
  · simp at h
    have hi : i = 16 := by omega
    subst hi
    refine au  ?_
    repeat intro K hK
    refine wr ?_
    refine awp_ret ?_
    simp [reg_no s hx]
def nameC (c : UInt8) : Bool := (decide (97 ≤ c.toNat) && decide (c.toNat ≤ 122)) || (decide (48 ≤ c.toNat) && decide (c.toNat ≤ 57)) || decide (c.toNat = 95)
def isNameD (s : Str) : Bool := decide (1 ≤ s.length) && decide (s.length ≤ 12) && (decide (97 ≤ (s.getD 0 0).toNat) && decide ((s.getD 0 0).toNat ≤ 122)) && s.all nameC && (regN s).isNone
theorem all_name (s : Str) (h : ∀ k, k < s.length → nameC (s.getD k 0) = true) : s.all nameC = true := by
  rw [List.all_eq_true]
  intro c hc
  obtain ⟨k, hk⟩ := List.getElem?_of_mem hc
  have hl := (List.getElem?_eq_some_iff.1 hk).1
  have := h k hl
  rwa [List.getD_eq_getElem?_getD, hk, Option.getD_some] at this
theorem not_all_name (s : Str) (k : Nat) (hk : k < s.length) (h : nameC (s.getD k 0) = false) : s.all nameC = false := by
  rw [Bool.eq_false_iff]
  intro ha
  rw [List.all_eq_true] at ha
  have := ha (s.getD k 0) (by rw [List.getD_eq_getElem?_getD, List.getElem?_eq_getElem hk, Option.getD_some]; exact List.getElem_mem hk)
  rw [h] at this; cases this
set_option maxHeartbeats 8000000 in
theorem isName_ok (s : Str) : Meets Tryd.prog 97 [.str s] (.bool (isNameD s)) := by
  refine Meets.of Tryd.func97 rfl (by kernel_rfl) rfl ?_
  simp only [Tryd.ntmps97, St.start, argT]
  refine au  ?_
  repeat intro K hK
  refine wr ?_
  refine awp_cond rfl (fun h0 => ?_) (fun h0 => ?_)
  · have hn : isNameD s = false := by
      simp at h0
      simp [isNameD]
      omega
    refine au  ?_
    repeat intro K hK
    refine wr ?_
    refine awp_ret ?_
    simp [hn]
  simp at h0
  refine au  ?_
  repeat intro K hK
  refine wr ?_
  obtain ⟨I, hI⟩ : ∃ I : Nat → St → Prop, I = (fun kk ss => ∃ (i : Nat) , i ≤ s.length ∧ kk = s.length - i ∧ ((∀ k, k < i → nameC (s.getD k 0) = true)) ∧ ss = ⟨59, [(27, .int .i64 i), (26, .int .i64 s.length), (0, .str s)], 0, [], 0⟩) := ⟨_, rfl⟩
  refine awp_loopA I (k0 := s.length) (st0 := (fun (i : Nat)  => (⟨59, [(27, .int .i64 i), (26, .int .i64 s.length), (0, .str s)], 0, [], 0⟩ : St)) 0 ) (ρ0 := id) ⟨rfl, by simp [leT, ltV, lt1, ren, ren1], by simp [leO, lt1, ren1], by simp, by simp⟩ (by rw [hI]; exact ⟨0, by simp, by simp, (by intro k hk; omega), rfl⟩) ?_
  intro kk ss hIk _
  rw [hI] at hIk
  obtain ⟨i, hi, rfl, hx, rfl⟩ := hIk
  have hw : IntKind.i64.wrap ((i : Int) + 1) = ((i + 1 : Nat) : Int) := by rw [wrap_i64_in (by omega) (by omega)]; omega
  refine au  ?_
  repeat intro K hK
  refine wr ?_
  refine awp_cond rfl (fun h => ?_) (fun h => ?_)
  · simp at h
    refine au  ?_
    repeat intro K hK
    refine wr ?_
    refine awp_cond rfl (fun h2 => ?_) (fun h2 => ?_)
    · have hc : nameC (s.getD i 0) = false := by
        simp at h2
        rw [List.getD_eq_getElem?_getD]
        generalize s[i]?.getD 0 = c at h2 ⊢
        simp [nameC]
        omega
      have hn : isNameD s = false := by
        simp only [isNameD, not_all_name s i (by omega) hc, Bool.and_false, Bool.false_and]
      refine au  ?_
      repeat intro K hK
      refine wr ?_
      refine awp_ret ?_
      simp [hn]
    · have hc : nameC (s.getD i 0) = true := by
        simp at h2
        rw [List.getD_eq_getElem?_getD]
        generalize s[i]?.getD 0 = c at h2 ⊢
        simp [nameC]
        omega
      have hx2 : ∀ k, k < i + 1 → nameC (s.getD k 0) = true := fun k hk => by
        by_cases e : k = i
        · subst e; exact hc
        · exact hx k (by omega)
      refine au  ?_
      repeat intro K hK
      refine wr ?_
      refine again_of (s.length - (i + 1)) ((fun (i : Nat)  => (⟨59, [(27, .int .i64 i), (26, .int .i64 s.length), (0, .str s)], 0, [], 0⟩ : St)) (i + 1) ) (id) (by omega) (by rw [hI]; exact ⟨i + 1, by omega, rfl, hx2, rfl⟩) ⟨rfl, ?_, ?_, ?_, by simp⟩
      · simp [leT, ltV, lt1, ren, ren1, wrap_i64_in (n := (i : Int) + 1) (by omega) (by omega), hw]
      · simp [leO, lt1, ren1, hw]
      · (simp; try omega)
  · simp at h
    have hi : i = s.length := by omega
    subst hi
    have ha := all_name s hx
    refine au  ?_
    repeat intro K hK
    refine wr ?_
    refine ca (parseReg_ok s)  ?_
    refine au  ?_
    repeat intro K hK
    refine wr ?_
    refine awp_ret ?_
    simp [isNameD, ha]
    try omega
def dig (base : Nat) (c : UInt8) : Option Nat :=
  if 48 ≤ c.toNat ∧ c.toNat ≤ 57 then some (c.toNat - 48) else if base = 16 ∧ 97 ≤ c.toNat ∧ c.toNat ≤ 102 then some (c.toNat - 87) else none
def digs (base : Nat) : Str → Nat → Option Nat
  | [], x => some x
  | c :: r, x => match dig base c with
    | some d => digs base r (x * base + d)
    | none => none
def pdD (s : Str) (most base : Nat) : Option Nat := if s.length < 1 ∨ most < s.length then none else digs base s 0
abbrev pdV (s : Str) (most base : Nat) : V := .tup [.int .i64 ((pdD s most base).getD 0 : Nat), .bool (pdD s most base).isSome]
theorem digs_step {base : Nat} {s : Str} {i x : Nat} (hi : i < s.length) : digs base (s.drop i) x = match dig base (s.getD i 0) with | some d => digs base (s.drop (i + 1)) (x * base + d) | none => none := by
  rw [List.drop_eq_getElem_cons hi, List.getD_eq_getElem?_getD, List.getElem?_eq_getElem hi]
  rfl
set_option maxHeartbeats 8000000 in
theorem pd10_ok (s : Str) : Meets Tryd.prog 136 [.str s, .int .i64 10, .int .i64 10] (pdV s 10 10) := by
  refine Meets.of Tryd.func136 rfl (by kernel_rfl) rfl ?_
  simp only [Tryd.ntmps136, St.start, argT]
  refine au  ?_
  repeat intro K hK
  refine wr ?_
  refine awp_cond rfl (fun h0 => ?_) (fun h0 => ?_)
  · have hn : pdD s 10 10 = none := by
      simp at h0
      unfold pdD
      rw [if_pos (by omega)]
    refine au  ?_
    repeat intro K hK
    refine wr ?_
    refine awp_ret ?_
    simp [hn]
  simp at h0
  have hpd : pdD s 10 10 = digs 10 s 0 := by unfold pdD; rw [if_neg (by omega)]
  refine au  ?_
  repeat intro K hK
  refine wr ?_
  obtain ⟨I, hI⟩ : ∃ I : Nat → St → Prop, I = (fun kk ss => ∃ (i : Nat) (x : Nat), i ≤ s.length ∧ kk = s.length - i ∧ (digs 10 s 0 = digs 10 (s.drop i) x ∧ x < 10 ^ i) ∧ ss = ⟨63, [(23, .int .i64 i), (22, .int .i64 s.length), (8, .int .i64 x), (2, .int .i64 10), (0, .str s)], 0, [], 0⟩) := ⟨_, rfl⟩
  refine awp_loopA I (k0 := s.length) (st0 := (fun (i : Nat) (x : Nat) => (⟨63, [(23, .int .i64 i), (22, .int .i64 s.length), (8, .int .i64 x), (2, .int .i64 10), (0, .str s)], 0, [], 0⟩ : St)) 0 0) (ρ0 := id) ⟨rfl, by simp [leT, ltV, lt1, ren, ren1], by simp [leO, lt1, ren1], by simp, by simp⟩ (by rw [hI]; exact ⟨0, 0, by simp, by simp, ⟨by simp, by simp⟩, rfl⟩) ?_
  intro kk ss hIk _
  rw [hI] at hIk
  obtain ⟨i, x, hi, rfl, hx, rfl⟩ := hIk
  have hw : IntKind.i64.wrap ((i : Int) + 1) = ((i + 1 : Nat) : Int) := by rw [wrap_i64_in (by omega) (by omega)]; omega
  obtain ⟨hx1, hx2⟩ := hx
  refine au  ?_
  repeat intro K hK
  refine wr ?_
  refine awp_cond rfl (fun h => ?_) (fun h => ?_)
  · simp at h
    have hpw : 10 ^ i * 10 ≤ 10 ^ 10 := by rw [← Nat.pow_succ]; exact Nat.pow_le_pow_right (by omega) (by omega)
    have hpc : 10 ^ 10 ≤ 10000000000 := by decide
    have hstep := digs_step (base := 10) (x := x) (show i < s.length by omega)
    rw [List.getD_eq_getElem?_getD, ← hx1] at hstep
    generalize hcd : s[i]?.getD 0 = c at hstep
    have hcu : (c.toNat : Int) ≤ 255 := by have := c.toNat_lt; omega
    refine au1 @hcd ?_
    repeat intro K hK
    refine wr ?_
    refine awp_cond rfl (fun h2 => ?_) (fun h2 => ?_)
    · simp at h2
      have hd : dig 10 c = some (c.toNat - 48) := by unfold dig; rw [if_pos (by omega)]
      rw [hd] at hstep
      have w1 : IntKind.i64.wrap (IntKind.u8.wrap ((c.toNat : Int) - 48)) = ((c.toNat - 48 : Nat) : Int) := by rw [IntKind.wrap_u8, wrap_i64_in (by omega) (by omega)]; omega
      generalize hdd : c.toNat - 48 = d at hstep w1
      have hd9 : d ≤ 9 := by omega
      have hxn : IntKind.i64.wrap (IntKind.i64.wrap ((x : Int) * 10) + (d : Int)) = ((x * 10 + d : Nat) : Int) := by
        rw [wrap_i64_in (n := (x : Int) * 10) (by omega) (by omega), wrap_i64_in (by omega) (by omega)]; omega
      have hd0 : ¬ ((d : Int) < 0) := by omega
      refine au1 @w1 ?_
      repeat intro K hK
      refine wr ?_
      refine awp_cond rfl (fun h => by simp [hd0] at h) (fun _ => ?_)
      refine au2 @w1 @hxn ?_
      repeat intro K hK
      refine wr ?_
      refine again_of (s.length - (i + 1)) ((fun (i : Nat) (x : Nat) => (⟨63, [(23, .int .i64 i), (22, .int .i64 s.length), (8, .int .i64 x), (2, .int .i64 10), (0, .str s)], 0, [], 0⟩ : St)) (i + 1) (x * 10 + d)) (id) (by omega) (by rw [hI]; exact ⟨i + 1, (x * 10 + d), by omega, rfl, ⟨hstep, by rw [Nat.pow_succ]; omega⟩, rfl⟩) ⟨rfl, ?_, ?_, ?_, by simp⟩
      · simp [leT, ltV, lt1, ren, ren1, wrap_i64_in (n := (i : Int) + 1) (by omega) (by omega), hw]
      · simp [leO, lt1, ren1, hw]
      · (simp; try omega)
    · simp at h2
      have hd : dig 10 c = none := by unfold dig; rw [if_neg (by omega), if_neg (by omega)]
      rw [hd] at hstep
      have hn : pdD s 10 10 = none := by rw [hpd, hstep]
      refine au  ?_
      repeat intro K hK
      refine wr ?_
      refine awp_cond rfl (fun h => by simp at h) (fun _ => ?_)
      refine au  ?_
      repeat intro K hK
      refine wr ?_
      refine awp_cond rfl (fun _ => ?_) (fun h => by simp at h)
      refine au  ?_
      repeat intro K hK
      refine wr ?_
      refine awp_ret ?_
      simp [hn]
  · simp at h
    have hi : i = s.length := by omega
    subst hi
    have he : pdD s 10 10 = some x := by rw [hpd, hx1, List.drop_length]; rfl
    refine au  ?_
    repeat intro K hK
    refine wr ?_
    refine awp_ret ?_
    simp [he]
set_option maxHeartbeats 8000000 in
theorem pd16_ok (s : Str) : Meets Tryd.prog 136 [.str s, .int .i64 8, .int .i64 16] (pdV s 8 16) := by
  refine Meets.of Tryd.func136 rfl (by kernel_rfl) rfl ?_
  simp only [Tryd.ntmps136, St.start, argT]
  refine au  ?_
  repeat intro K hK
  refine wr ?_
  refine awp_cond rfl (fun h0 => ?_) (fun h0 => ?_)
  · have hn : pdD s 8 16 = none := by
      simp at h0
      unfold pdD
      rw [if_pos (by omega)]
    refine au  ?_
    repeat intro K hK
    refine wr ?_
    refine awp_ret ?_
    simp [hn]
  simp at h0
  have hpd : pdD s 8 16 = digs 16 s 0 := by unfold pdD; rw [if_neg (by omega)]
  refine au  ?_
  repeat intro K hK
  refine wr ?_
  obtain ⟨I, hI⟩ : ∃ I : Nat → St → Prop, I = (fun kk ss => ∃ (i : Nat) (x : Nat), i ≤ s.length ∧ kk = s.length - i ∧ (digs 16 s 0 = digs 16 (s.drop i) x ∧ x < 16 ^ i) ∧ ss = ⟨63, [(23, .int .i64 i), (22, .int .i64 s.length), (8, .int .i64 x), (2, .int .i64 16), (0, .str s)], 0, [], 0⟩) := ⟨_, rfl⟩
  refine awp_loopA I (k0 := s.length) (st0 := (fun (i : Nat) (x : Nat) => (⟨63, [(23, .int .i64 i), (22, .int .i64 s.length), (8, .int .i64 x), (2, .int .i64 16), (0, .str s)], 0, [], 0⟩ : St)) 0 0) (ρ0 := id) ⟨rfl, by simp [leT, ltV, lt1, ren, ren1], by simp [leO, lt1, ren1], by simp, by simp⟩ (by rw [hI]; exact ⟨0, 0, by simp, by simp, ⟨by simp, by simp⟩, rfl⟩) ?_
  intro kk ss hIk _
  rw [hI] at hIk
  obtain ⟨i, x, hi, rfl, hx, rfl⟩ := hIk
  have hw : IntKind.i64.wrap ((i : Int) + 1) = ((i + 1 : Nat) : Int) := by rw [wrap_i64_in (by omega) (by omega)]; omega
  obtain ⟨hx1, hx2⟩ := hx
  refine au  ?_
  repeat intro K hK
  refine wr ?_
  refine awp_cond rfl (fun h => ?_) (fun h => ?_)
  · simp at h
    have hpw : 16 ^ i * 16 ≤ 16 ^ 8 := by rw [← Nat.pow_succ]; exact Nat.pow_le_pow_right (by omega) (by omega)
    have hpc : 16 ^ 8 ≤ 10000000000 := by decide
    have hstep := digs_step (base := 16) (x := x) (show i < s.length by omega)
    rw [List.getD_eq_getElem?_getD, ← hx1] at hstep
    generalize hcd : s[i]?.getD 0 = c at hstep
    have hcu : (c.toNat : Int) ≤ 255 := by have := c.toNat_lt; omega
    refine au1 @hcd ?_
    repeat intro K hK
    refine wr ?_
    refine awp_cond rfl (fun h2 => ?_) (fun h2 => ?_)
    · simp at h2
      have hd : dig 16 c = some (c.toNat - 48) := by unfold dig; rw [if_pos (by omega)]
      rw [hd] at hstep
      have w1 : IntKind.i64.wrap (IntKind.u8.wrap ((c.toNat : Int) - 48)) = ((c.toNat - 48 : Nat) : Int) := by rw [IntKind.wrap_u8, wrap_i64_in (by omega) (by omega)]; omega
      generalize hdd : c.toNat - 48 = d at hstep w1
      have hd9 : d ≤ 9 := by omega
      have hxn : IntKind.i64.wrap (IntKind.i64.wrap ((x : Int) * 16) + (d : Int)) = ((x * 16 + d : Nat) : Int) := by
        rw [wrap_i64_in (n := (x : Int) * 16) (by omega) (by omega), wrap_i64_in (by omega) (by omega)]; omega
      have hd0 : ¬ ((d : Int) < 0) := by omega
      refine au1 @w1 ?_
      repeat intro K hK
      refine wr ?_
      refine awp_cond rfl (fun h => by simp [hd0] at h) (fun _ => ?_)
      refine au2 @w1 @hxn ?_
      repeat intro K hK
      refine wr ?_
      refine again_of (s.length - (i + 1)) ((fun (i : Nat) (x : Nat) => (⟨63, [(23, .int .i64 i), (22, .int .i64 s.length), (8, .int .i64 x), (2, .int .i64 16), (0, .str s)], 0, [], 0⟩ : St)) (i + 1) (x * 16 + d)) (id) (by omega) (by rw [hI]; exact ⟨i + 1, (x * 16 + d), by omega, rfl, ⟨hstep, by rw [Nat.pow_succ]; omega⟩, rfl⟩) ⟨rfl, ?_, ?_, ?_, by simp⟩
      · simp [leT, ltV, lt1, ren, ren1, wrap_i64_in (n := (i : Int) + 1) (by omega) (by omega), hw]
      · simp [leO, lt1, ren1, hw]
      · (simp; try omega)
    · simp at h2
      refine au  ?_
      repeat intro K hK
      refine wr ?_
      refine awp_cond rfl (fun h3 => ?_) (fun h3 => ?_)
      · simp at h3
        have hd : dig 16 c = some (c.toNat - 87) := by unfold dig; rw [if_neg (by omega), if_pos (by omega)]
        rw [hd] at hstep
        have w1 : IntKind.i64.wrap (IntKind.i64.wrap (IntKind.u8.wrap ((c.toNat : Int) - 97)) + 10) = ((c.toNat - 87 : Nat) : Int) := by
          rw [IntKind.wrap_u8, wrap_i64_in (n := ((c.toNat : Int) - 97) % 256) (by omega) (by omega), wrap_i64_in (by omega) (by omega)]; omega
        generalize hdd : c.toNat - 87 = d at hstep w1
        have hd9 : d ≤ 15 := by omega
        have hxn : IntKind.i64.wrap (IntKind.i64.wrap ((x : Int) * 16) + (d : Int)) = ((x * 16 + d : Nat) : Int) := by
          rw [wrap_i64_in (n := (x : Int) * 16) (by omega) (by omega), wrap_i64_in (by omega) (by omega)]; omega
        have hd0 : ¬ ((d : Int) < 0) := by omega
        refine au1 @w1 ?_
        repeat intro K hK
        refine wr ?_
        refine awp_cond rfl (fun h => by simp [hd0] at h) (fun _ => ?_)
        refine au2 @w1 @hxn ?_
        repeat intro K hK
        refine wr ?_
        refine again_of (s.length - (i + 1)) ((fun (i : Nat) (x : Nat) => (⟨63, [(23, .int .i64 i), (22, .int .i64 s.length), (8, .int .i64 x), (2, .int .i64 16), (0, .str s)], 0, [], 0⟩ : St)) (i + 1) (x * 16 + d)) (id) (by omega) (by rw [hI]; exact ⟨i + 1, (x * 16 + d), by omega, rfl, ⟨hstep, by rw [Nat.pow_succ]; omega⟩, rfl⟩) ⟨rfl, ?_, ?_, ?_, by simp⟩
        · simp [leT, ltV, lt1, ren, ren1, wrap_i64_in (n := (i : Int) + 1) (by omega) (by omega), hw]
        · simp [leO, lt1, ren1, hw]
        · (simp; try omega)
      · simp at h3
        have hd : dig 16 c = none := by unfold dig; rw [if_neg (by omega), if_neg (by omega)]
        rw [hd] at hstep
        have hn : pdD s 8 16 = none := by rw [hpd, hstep]
        refine au  ?_
        repeat intro K hK
        refine wr ?_
        refine awp_cond rfl (fun _ => ?_) (fun h => by simp at h)
        refine au  ?_
        repeat intro K hK
        refine wr ?_
        refine awp_ret ?_
        simp [hn]
  · simp at h
    have hi : i = s.length := by omega
    subst hi
    have he : pdD s 8 16 = some x := by rw [hpd, hx1, List.drop_length]; rfl
    refine au  ?_
    repeat intro K hK
    refine wr ?_
    refine awp_ret ?_
    simp [he]
end Go.Proofs.YtjlbpkokdlggiaaDoor
