/- Package asm: numbers, values, labels, operands. (Numbers of seat r2.D.) -/
import Derived.Test.YtjlbpkokdlggiaaDoorAs2
namespace Go.Proofs.YtjlbpkokdlggiaaDoor
open Go.Ab Go.RowKit
set_option linter.unusedSimpArgs false
set_option maxRecDepth 100000
theorem dig_lt {base : Nat} {c : UInt8} {d : Nat} (h : dig base c = some d) (hb : base = 10 ∨ base = 16) : d < base := by
  unfold dig at h
  split at h
  · simp only [Option.some.injEq] at h; omega
  · split at h
    · simp only [Option.some.injEq] at h; omega
    · cases h
theorem digs_lt {base : Nat} (hb : base = 10 ∨ base = 16) : ∀ (s : Str) (x y : Nat), digs base s x = some y → y < (x + 1) * base ^ s.length
  | [], x, y, h => by simp only [digs, Option.some.injEq] at h; subst h; simp
  | c :: s, x, y, h => by
    simp only [digs] at h
    split at h
    · rename_i d hd
      have h1 := digs_lt hb s _ y h
      have h2 := dig_lt hd hb
      have h3 : (x * base + d + 1) ≤ (x + 1) * base := by rw [Nat.add_mul]; omega
      calc y < (x * base + d + 1) * base ^ s.length := h1
        _ ≤ (x + 1) * base * base ^ s.length := Nat.mul_le_mul_right _ h3
        _ = (x + 1) * base ^ (c :: s).length := by rw [List.length_cons, Nat.pow_succ, Nat.mul_assoc, Nat.mul_comm base]
    · cases h
theorem pd10_lt {s : Str} {x : Nat} (h : pdD s 10 10 = some x) : x < 10000000000 := by
  unfold pdD at h
  split at h
  · cases h
  · rename_i hl
    have h1 := digs_lt (.inl rfl) s 0 x h
    have h2 : 10 ^ s.length ≤ 10 ^ 10 := Nat.pow_le_pow_right (by omega) (by omega)
    have h3 : (10 : Nat) ^ 10 = 10000000000 := by decide
    omega
theorem pd16_lt {s : Str} {x : Nat} (h : pdD s 8 16 = some x) : x < 4294967296 := by
  unfold pdD at h
  split at h
  · cases h
  · rename_i hl
    have h1 := digs_lt (.inr rfl) s 0 x h
    have h2 : 16 ^ s.length ≤ 16 ^ 8 := Nat.pow_le_pow_right (by omega) (by omega)
    have h3 : (16 : Nat) ^ 8 = 4294967296 := by decide
    omega
def pnD (s : Str) : Option Int :=
  if Lib.hasPrefix s [48, 120] then (pdD (s.drop 2) 8 16).map fun x => (x : Int)
  else match pdD (Lib.trimPrefix s [45]) 10 10 with
    | none => none
    | some x => if (if Lib.hasPrefix s [45] then -(x : Int) else x) < -2147483648 ∨ (if Lib.hasPrefix s [45] then -(x : Int) else x) > 4294967295 then none else some (if Lib.hasPrefix s [45] then -(x : Int) else x)
abbrev pnV (s : Str) : V := .tup [.int .i64 ((pnD s).getD 0), .bool (pnD s).isSome]
set_option maxHeartbeats 8000000 in
theorem parseNum_ok (s : Str) : Meets Tryd.prog 117 [.str s] (pnV s) := by
  refine Meets.of Tryd.func117 rfl (by kernel_rfl) rfl ?_
  simp only [Tryd.ntmps117, St.start, argT]
  refine au  ?_
  repeat intro K hK
  refine wr ?_
  refine ca (cutp_ok s [48, 120])  ?_
  refine au  ?_
  repeat intro K hK
  refine wr ?_
  cases hp : Lib.hasPrefix s [48, 120] with
  | true =>
    have ht : Lib.trimPrefix s [48, 120] = s.drop 2 := by unfold Lib.trimPrefix; rw [if_pos hp]; rfl
    have hd := pd16_ok (s.drop 2)
    refine awp_cond rfl (fun _ => ?_) (fun h => by simp at h)
    refine au1 @ht ?_
    repeat intro K hK
    refine wr ?_
    refine ca (hd)  ?_
    refine au  ?_
    repeat intro K hK
    refine wr ?_
    refine awp_ret ?_
    simp
    cases hq : pdD (s.drop 2) 8 16 with
    | none => simp [pnD, hp, hq]
    | some x => simp [pnD, hp, hq]
  | false =>
    refine awp_cond rfl (fun h => by simp at h) (fun _ => ?_)
    refine au  ?_
    repeat intro K hK
    refine wr ?_
    refine ca (cutp_ok s [45])  ?_
    refine au  ?_
    repeat intro K hK
    refine wr ?_
    refine ca (pd10_ok (Lib.trimPrefix s [45]))  ?_
    refine au  ?_
    repeat intro K hK
    refine wr ?_
    cases hn : Lib.hasPrefix s [45] with
    | true =>
      cases hq : pdD (Lib.trimPrefix s [45]) 10 10 with
      | none =>
        have he : pnD s = none := by simp [pnD, hp, hq]
        refine awp_cond rfl (fun _ => ?_) (fun h => by simp at h)
        refine au  ?_
        repeat intro K hK
        refine wr ?_
        refine awp_cond rfl (fun _ => ?_) (fun h => by simp at h)
        refine au  ?_
        repeat intro K hK
        refine wr ?_
        refine awp_ret ?_
        simp [he]
      | some x =>
        have hx := pd10_lt hq
        have hw : IntKind.i64.wrap (-(x : Int)) = -(x : Int) := wrap_i64_in (by omega) (by omega)
        refine awp_cond rfl (fun _ => ?_) (fun h => by simp at h)
        refine au1 @hw ?_
        repeat intro K hK
        refine wr ?_
        refine awp_cond rfl (fun hr => ?_) (fun hr => ?_)
        · have he : pnD s = none := by
            simp at hr
            simp only [pnD, hp, hq, hn, if_true, Bool.false_eq_true, if_false]
            rw [if_pos (by omega)]
          refine au  ?_
          repeat intro K hK
          refine wr ?_
          refine awp_ret ?_
          simp [he]
        · have he : pnD s = some (-(x : Int)) := by
            simp at hr
            simp only [pnD, hp, hq, hn, if_true, Bool.false_eq_true, if_false]
            rw [if_neg (by omega)]
          refine au  ?_
          repeat intro K hK
          refine wr ?_
          refine awp_ret ?_
          simp [he]
    | false =>
      cases hq : pdD (Lib.trimPrefix s [45]) 10 10 with
      | none =>
        have he : pnD s = none := by simp [pnD, hp, hq]
        refine awp_cond rfl (fun h => by simp at h) (fun _ => ?_)
        refine au  ?_
        repeat intro K hK
        refine wr ?_
        refine awp_cond rfl (fun _ => ?_) (fun h => by simp at h)
        refine au  ?_
        repeat intro K hK
        refine wr ?_
        refine awp_ret ?_
        simp [he]
      | some x =>
        have hx := pd10_lt hq
        refine awp_cond rfl (fun h => by simp at h) (fun _ => ?_)
        refine au  ?_
        repeat intro K hK
        refine wr ?_
        refine awp_cond rfl (fun hr => ?_) (fun hr => ?_)
        · have he : pnD s = none := by
            simp at hr
            simp only [pnD, hp, hq, hn, Bool.false_eq_true, if_false]
            rw [if_pos (by omega)]
          refine au  ?_
          repeat intro K hK
          refine wr ?_
          refine awp_ret ?_
          simp [he]
        · have he : pnD s = some (x : Int) := by
            simp at hr
            simp only [pnD, hp, hq, hn, Bool.false_eq_true, if_false]
            rw [if_neg (by omega)]
          refine au  ?_
          repeat intro K hK
          refine wr ?_
          refine awp_ret ?_
          simp [he]
def pvD (s : Str) (names : Bool) : Option (Int × Str) := if names && isNameD s then some (0, s) else (pnD s).map fun x => (x, [])
abbrev pvV (s : Str) (names : Bool) : V := .tup [.st [.int .i64 ((pvD s names).getD (0, [])).1, .str ((pvD s names).getD (0, [])).2], .bool (pvD s names).isSome]
set_option maxHeartbeats 8000000 in
theorem parseVal_ok (s : Str) (names : Bool) : Meets Tryd.prog 100 [.str s, .bool names] (pvV s names) := by
  refine Meets.of Tryd.func100 rfl (by kernel_rfl) rfl ?_
  simp only [Tryd.ntmps100, St.start, argT]
  refine au  ?_
  repeat intro K hK
  refine wr ?_
  first | refine gcall_c (isName_ok s) rfl (fun hgd => ?_) (by simp [obsL]) ?_ | refine gcallE_c (isName_ok s) rfl (by simp) (fun hgd => ?_) (by simp [obsL]) ?_
  all_goals simp
  all_goals (try (first | exact hgd | (simp at hgd; first | done | assumption | grind)))
  refine au  ?_
  repeat intro K hK
  refine wr ?_
  refine awp_cond rfl (fun h => ?_) (fun h => ?_)
  · have h' : (names && isNameD s) = true := by simpa using h
    have he : pvD s names = some (0, s) := by unfold pvD; rw [if_pos h']
    refine au  ?_
    repeat intro K hK
    refine wr ?_
    refine awp_fzA ?_
    refine awp_ret ?_
    simp [he]
  · have h' : (names && isNameD s) = false := by simpa using h
    refine au  ?_
    repeat intro K hK
    refine wr ?_
    refine ca (parseNum_ok s)  ?_
    refine au  ?_
    repeat intro K hK
    refine wr ?_
    cases hq : pnD s with
    | none =>
      have he : pvD s names = none := by unfold pvD; rw [if_neg (by rw [h']; decide), hq]; rfl
      refine au  ?_
      repeat intro K hK
      refine wr ?_
      refine awp_fzA ?_
      refine awp_ret ?_
      simp [he]
    | some x =>
      have he : pvD s names = some (x, []) := by unfold pvD; rw [if_neg (by rw [h']; decide), hq]; rfl
      refine au  ?_
      repeat intro K hK
      refine wr ?_
      refine awp_fzA ?_
      refine awp_ret ?_
      simp [he]
theorem ascii_drop {s : Str} (h : okText s) (p : UInt8 → Bool) : okText (s.dropWhile p) := trivial
theorem ascii_take {s : Str} (h : okText s) (p : UInt8 → Bool) : okText (s.takeWhile p) := trivial
theorem ascii_dropN {s : Str} (h : okText s) (n : Nat) : okText (s.drop n) := trivial
theorem ascii_trim {s : Str} (h : okText s) (p : Str) : okText (Lib.trimPrefix s p) := trivial
theorem len_drop (s : Str) (p : UInt8 → Bool) : (s.dropWhile p).length ≤ s.length := (List.dropWhile_suffix p).length_le
theorem len_take (s : Str) (p : UInt8 → Bool) : (s.takeWhile p).length ≤ s.length := (List.takeWhile_prefix p).length_le
def clD (text : Str) : Str × Str × Bool :=
  let t := skipD text
  let r := skipD (afterD t)
  if Lib.hasPrefix r [58] then (wordD t, skipD (Lib.trimPrefix r [58]), isNameD (wordD t)) else ([], t, true)
set_option maxHeartbeats 8000000 in
theorem cutLabel_ok (s : Str) (ha : okText s) (hl : s.length < 4294967281) : Meets Tryd.prog 80 [.str s] (.tup [.str (clD s).1, .str (clD s).2.1, .bool (clD s).2.2]) := by
  refine Meets.of Tryd.func80 rfl (by kernel_rfl) rfl ?_
  simp only [Tryd.ntmps80, St.start, argT]
  refine au  ?_
  repeat intro K hK
  refine wr ?_
  refine ca (skip_ok s)  ?_
  refine au  ?_
  repeat intro K hK
  refine wr ?_
  refine ca (cutWord_ok (skipD s) (ascii_drop ha _) (Nat.lt_of_le_of_lt (len_drop s _) hl))  ?_
  refine au  ?_
  repeat intro K hK
  refine wr ?_
  refine ca (skip_ok (afterD (skipD s)))  ?_
  refine au  ?_
  repeat intro K hK
  refine wr ?_
  refine ca (cutp_ok (skipD (afterD (skipD s))) [58])  ?_
  refine au  ?_
  repeat intro K hK
  refine wr ?_
  cases hp : Lib.hasPrefix (skipD (afterD (skipD s))) [58] with
  | false =>
    have he : clD s = ([], skipD s, true) := by simp only [clD, hp, Bool.false_eq_true, if_false]
    refine awp_cond rfl (fun _ => ?_) (fun h => by simp at h)
    refine au  ?_
    repeat intro K hK
    refine wr ?_
    refine awp_ret ?_
    simp [he]
  | true =>
    have he : clD s = (wordD (skipD s), skipD (Lib.trimPrefix (skipD (afterD (skipD s))) [58]), isNameD (wordD (skipD s))) := by simp only [clD, hp, if_true]
    refine awp_cond rfl (fun h => by simp at h) (fun _ => ?_)
    refine au  ?_
    repeat intro K hK
    refine wr ?_
    refine ca (skip_ok (Lib.trimPrefix (skipD (afterD (skipD s))) [58]))  ?_
    refine au  ?_
    repeat intro K hK
    refine wr ?_
    refine ca (isName_ok (wordD (skipD s)))  ?_
    refine au  ?_
    repeat intro K hK
    refine wr ?_
    refine awp_ret ?_
    simp [he]
def opPat (op : Int) : Str :=
  if 32 ≤ op ∧ op ≤ 36 then [114, 44, 105, 40, 114, 41]
  else if 40 ≤ op ∧ op ≤ 45 then [114, 44, 114, 44, 120]
  else if op = 48 then [114, 44, 120]
  else if op = 24 ∨ (58 ≤ op ∧ op ≤ 61) then [114, 44, 105]
  else if op = 56 ∨ op = 57 ∨ (62 ≤ op ∧ op ≤ 64) then []
  else if 1 ≤ op ∧ op ≤ 13 then [114, 44, 114, 44, 114]
  else [114, 44, 114, 44, 105]
def opRel (op : Int) : Bool := decide (40 ≤ op ∧ op ≤ 45) || decide (op = 48)
set_option maxHeartbeats 16000000 in
theorem operands_ok (op : Int) : Meets Tryd.prog 79 [.int .i64 op] (.tup [.str (opPat op), .bool (opRel op)]) := by
  refine Meets.of Tryd.func79 rfl (by kernel_rfl) rfl ?_
  simp only [Tryd.ntmps79, St.start, argT]
  refine au  ?_
  repeat intro K hK
  refine wr ?_
  refine awp_cond rfl (fun h1 => ?_) (fun h1 => ?_)
  · simp at h1
    subst h1
    refine au  ?_
    repeat intro K hK
    refine wr ?_
    refine awp_cond rfl (fun _ => ?_) (fun h => by simp at h)
    refine au  ?_
    repeat intro K hK
    refine wr ?_
    refine awp_ret ?_
    simp [opPat, opRel]
  simp at h1
  refine au  ?_
  repeat intro K hK
  refine wr ?_
  refine awp_cond rfl (fun h2 => ?_) (fun h2 => ?_)
  · simp at h2
    subst h2
    refine au  ?_
    repeat intro K hK
    refine wr ?_
    refine awp_cond rfl (fun _ => ?_) (fun h => by simp at h)
    refine au  ?_
    repeat intro K hK
    refine wr ?_
    refine awp_ret ?_
    simp [opPat, opRel]
  simp at h2
  refine au  ?_
  repeat intro K hK
  refine wr ?_
  refine awp_cond rfl (fun h3 => ?_) (fun h3 => ?_)
  · simp at h3
    subst h3
    refine au  ?_
    repeat intro K hK
    refine wr ?_
    refine awp_cond rfl (fun _ => ?_) (fun h => by simp at h)
    refine au  ?_
    repeat intro K hK
    refine wr ?_
    refine awp_ret ?_
    simp [opPat, opRel]
  simp at h3
  refine au  ?_
  repeat intro K hK
  refine wr ?_
  refine awp_cond rfl (fun h4 => ?_) (fun h4 => ?_)
  · simp at h4
    subst h4
    refine au  ?_
    repeat intro K hK
    refine wr ?_
    refine awp_cond rfl (fun _ => ?_) (fun h => by simp at h)
    refine au  ?_
    repeat intro K hK
    refine wr ?_
    refine awp_ret ?_
    simp [opPat, opRel]
  simp at h4
  refine au  ?_
  repeat intro K hK
  refine wr ?_
  refine awp_cond rfl (fun h5 => ?_) (fun h5 => ?_)
  · simp at h5
    subst h5
    refine au  ?_
    repeat intro K hK
    refine wr ?_
    refine awp_ret ?_
    simp [opPat, opRel]
  simp at h5
  refine au  ?_
  repeat intro K hK
  refine wr ?_
  refine awp_cond rfl (fun h6 => ?_) (fun h6 => ?_)
  · simp at h6
    subst h6
    refine au  ?_
    repeat intro K hK
    refine wr ?_
    refine awp_cond rfl (fun _ => ?_) (fun h => by simp at h)
    refine au  ?_
    repeat intro K hK
    refine wr ?_
    refine awp_ret ?_
    simp [opPat, opRel]
  simp at h6
  refine au  ?_
  repeat intro K hK
  refine wr ?_
  refine awp_cond rfl (fun h7 => ?_) (fun h7 => ?_)
  · simp at h7
    subst h7
    refine au  ?_
    repeat intro K hK
    refine wr ?_
    refine awp_cond rfl (fun _ => ?_) (fun h => by simp at h)
    refine au  ?_
    repeat intro K hK
    refine wr ?_
    refine awp_ret ?_
    simp [opPat, opRel]
  simp at h7
  refine au  ?_
  repeat intro K hK
  refine wr ?_
  refine awp_cond rfl (fun h8 => ?_) (fun h8 => ?_)
  · simp at h8
    subst h8
    refine au  ?_
    repeat intro K hK
    refine wr ?_
    refine awp_cond rfl (fun _ => ?_) (fun h => by simp at h)
    refine au  ?_
    repeat intro K hK
    refine wr ?_
    refine awp_ret ?_
    simp [opPat, opRel]
  simp at h8
  refine au  ?_
  repeat intro K hK
  refine wr ?_
  refine awp_cond rfl (fun h9 => ?_) (fun h9 => ?_)
  · simp at h9
    subst h9
    refine au  ?_
    repeat intro K hK
    refine wr ?_
    refine awp_cond rfl (fun _ => ?_) (fun h => by simp at h)
    refine au  ?_
    repeat intro K hK
    refine wr ?_
    refine awp_ret ?_
    simp [opPat, opRel]
  simp at h9
  refine au  ?_
  repeat intro K hK
  refine wr ?_
  refine awp_cond rfl (fun h10 => ?_) (fun h10 => ?_)
  · simp at h10
    subst h10
    refine au  ?_
    repeat intro K hK
    refine wr ?_
    refine awp_cond rfl (fun _ => ?_) (fun h => by simp at h)
    refine au  ?_
    repeat intro K hK
    refine wr ?_
    refine awp_ret ?_
    simp [opPat, opRel]
  simp at h10
  refine au  ?_
  repeat intro K hK
  refine wr ?_
  refine awp_cond rfl (fun h11 => ?_) (fun h11 => ?_)
  · simp at h11
    subst h11
    refine au  ?_
    repeat intro K hK
    refine wr ?_
    refine awp_ret ?_
    simp [opPat, opRel]
  simp at h11
  refine au  ?_
  repeat intro K hK
  refine wr ?_
  refine awp_cond rfl (fun h12 => ?_) (fun h12 => ?_)
  · simp at h12
    subst h12
    refine au  ?_
    repeat intro K hK
    refine wr ?_
    refine awp_ret ?_
    simp [opPat, opRel]
  simp at h12
  refine au  ?_
  repeat intro K hK
  refine wr ?_
  refine awp_cond rfl (fun h13 => ?_) (fun h13 => ?_)
  · simp at h13
    subst h13
    refine au  ?_
    repeat intro K hK
    refine wr ?_
    refine awp_cond rfl (fun _ => ?_) (fun h => by simp at h)
    refine au  ?_
    repeat intro K hK
    refine wr ?_
    refine awp_ret ?_
    simp [opPat, opRel]
  simp at h13
  refine au  ?_
  repeat intro K hK
  refine wr ?_
  refine awp_cond rfl (fun h14 => ?_) (fun h14 => ?_)
  · simp at h14
    subst h14
    refine au  ?_
    repeat intro K hK
    refine wr ?_
    refine awp_cond rfl (fun _ => ?_) (fun h => by simp at h)
    refine au  ?_
    repeat intro K hK
    refine wr ?_
    refine awp_ret ?_
    simp [opPat, opRel]
  simp at h14
  refine au  ?_
  repeat intro K hK
  refine wr ?_
  refine awp_cond rfl (fun h15 => ?_) (fun h15 => ?_)
  · simp at h15
    subst h15
    refine au  ?_
    repeat intro K hK
    refine wr ?_
    refine awp_cond rfl (fun _ => ?_) (fun h => by simp at h)
    refine au  ?_
    repeat intro K hK
    refine wr ?_
    refine awp_ret ?_
    simp [opPat, opRel]
  simp at h15
  refine au  ?_
  repeat intro K hK
  refine wr ?_
  refine awp_cond rfl (fun h16 => ?_) (fun h16 => ?_)
  · simp at h16
    subst h16
    refine au  ?_
    repeat intro K hK
    refine wr ?_
    refine awp_cond rfl (fun _ => ?_) (fun h => by simp at h)
    refine au  ?_
    repeat intro K hK
    refine wr ?_
    refine awp_ret ?_
    simp [opPat, opRel]
  simp at h16
  refine au  ?_
  repeat intro K hK
  refine wr ?_
  refine awp_cond rfl (fun h17 => ?_) (fun h17 => ?_)
  · simp at h17
    subst h17
    refine au  ?_
    repeat intro K hK
    refine wr ?_
    refine awp_ret ?_
    simp [opPat, opRel]
  simp at h17
  refine au  ?_
  repeat intro K hK
  refine wr ?_
  refine awp_cond rfl (fun h18 => ?_) (fun h18 => ?_)
  · simp at h18
    subst h18
    refine au  ?_
    repeat intro K hK
    refine wr ?_
    refine awp_cond rfl (fun _ => ?_) (fun h => by simp at h)
    refine au  ?_
    repeat intro K hK
    refine wr ?_
    refine awp_ret ?_
    simp [opPat, opRel]
  simp at h18
  refine au  ?_
  repeat intro K hK
  refine wr ?_
  refine awp_cond rfl (fun h19 => ?_) (fun h19 => ?_)
  · simp at h19
    subst h19
    refine au  ?_
    repeat intro K hK
    refine wr ?_
    refine awp_cond rfl (fun _ => ?_) (fun h => by simp at h)
    refine au  ?_
    repeat intro K hK
    refine wr ?_
    refine awp_ret ?_
    simp [opPat, opRel]
  simp at h19
  refine au  ?_
  repeat intro K hK
  refine wr ?_
  refine awp_cond rfl (fun h20 => ?_) (fun h20 => ?_)
  · simp at h20
    subst h20
    refine au  ?_
    repeat intro K hK
    refine wr ?_
    refine awp_cond rfl (fun _ => ?_) (fun h => by simp at h)
    refine au  ?_
    repeat intro K hK
    refine wr ?_
    refine awp_ret ?_
    simp [opPat, opRel]
  simp at h20
  refine au  ?_
  repeat intro K hK
  refine wr ?_
  refine awp_cond rfl (fun h21 => ?_) (fun h21 => ?_)
  · simp at h21
    subst h21
    refine au  ?_
    repeat intro K hK
    refine wr ?_
    refine awp_cond rfl (fun _ => ?_) (fun h => by simp at h)
    refine au  ?_
    repeat intro K hK
    refine wr ?_
    refine awp_ret ?_
    simp [opPat, opRel]
  simp at h21
  refine au  ?_
  repeat intro K hK
  refine wr ?_
  refine awp_cond rfl (fun h22 => ?_) (fun h22 => ?_)
  · simp at h22
    subst h22
    refine au  ?_
    repeat intro K hK
    refine wr ?_
    refine awp_ret ?_
    simp [opPat, opRel]
  simp at h22
  refine au  ?_
  repeat intro K hK
  refine wr ?_
  have hr : opRel op = false := by simp [opRel]; omega
  refine awp_cond rfl (fun hz => ?_) (fun hz => ?_)
  · simp at hz
    have hp : opPat op = [114, 44, 114, 44, 114] := by unfold opPat; rw [if_neg (by omega), if_neg (by omega), if_neg (by omega), if_neg (by omega), if_neg (by omega), if_pos (by omega)]
    refine au  ?_
    repeat intro K hK
    refine wr ?_
    refine awp_ret ?_
    simp [hp, hr]
  simp at hz
  have hp : opPat op = [114, 44, 114, 44, 105] := by unfold opPat; rw [if_neg (by omega), if_neg (by omega), if_neg (by omega), if_neg (by omega), if_neg (by omega), if_neg (by omega)]
  refine au  ?_
  repeat intro K hK
  refine wr ?_
  refine awp_ret ?_
  simp [hp, hr]
end Go.Proofs.YtjlbpkokdlggiaaDoor
