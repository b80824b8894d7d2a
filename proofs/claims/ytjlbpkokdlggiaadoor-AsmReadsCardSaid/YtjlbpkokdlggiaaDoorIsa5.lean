/- Contracts: strconv.Itoa (by the shelf), Format, and the law's awake. -/
import Derived.Test.YtjlbpkokdlggiaaDoorIsa4
import Derived.Lib.AppendIntMem
import Derived.Lib.ItoaLen
namespace Go.Proofs.YtjlbpkokdlggiaaDoor
open Go.Ab Go.RowKit
set_option linter.unusedSimpArgs false
set_option maxRecDepth 100000
theorem itoa_ok (n : Int) (h0 : -9223372036854775808 ≤ n) (h1 : n ≤ 9223372036854775807) : Meets Tryd.prog 40 [.int .i64 n] (.str (Lib.itoa n)) := by
  refine ⟨by kernel_rfl, fun w Xa vals M hXa hs hr => ?_⟩
  have hv := R_int (hr 0 _ rfl)
  obtain rfl : vals = #[.int .i64 n] := by
    apply Array.ext
    · simpa using hs
    · intro i hi hi'
      have : i = 0 := by simp at hi'; omega
      subst this
      simpa [Array.getD, hi] using hv
  refine (Any.strconv_Itoa itoaLays n h0 h1 w hXa.2.1.1.1).mono ?_
  rintro e w' ⟨rfl, k, os, rfl⟩
  refine ⟨_, rfl, Lib.below_grow _ w (Nat.le_refl _) k os, fun M n hM => ⟨.str _ _, fun id o ho => ?_, fun id id' o o' g ho => ?_⟩⟩
  · simp [V.fcells, V.cells, obsL, lookO] at ho
  · simp [V.fcells, V.cells, obsL, lookO] at ho
/-- an operation's name -/
def mnS (op : Int) : List UInt8 := mnemo.getD op.toNat []
theorem mnemo_len : mnemo.length = 65 := rfl
theorem mnemo_short : ∀ s ∈ mnemo, s.length ≤ 5 := by decide
theorem mnS_short (op : Int) : (mnS op).length ≤ 5 := by
  unfold mnS
  rw [List.getD_eq_getElem?_getD]
  cases h : mnemo[op.toNat]? with
  | none => simp
  | some s => exact mnemo_short s (List.mem_of_getElem? h)
theorem mn_at (k : Nat) (h : k < 65) : (mnemo.map V.str)[k]? = some (.str (mnemo.getD k [])) := by
  rw [List.getElem?_map, List.getD_eq_getElem?_getD, List.getElem?_eq_getElem (by rw [mnemo_len]; exact h)]; rfl
def regS (r : Int) : List UInt8 := [114] ++ Lib.itoa r
def fmtD (i : InstD) : List UInt8 :=
  if validD i = true then
    if 32 ≤ i.op ∧ i.op ≤ 36 then mnS i.op ++ [32] ++ regS i.a ++ [44, 32] ++ Lib.itoa i.imm ++ [40] ++ regS i.b ++ [41]
    else if formD i.op = 2 then mnS i.op ++ [32] ++ regS i.a ++ [44, 32] ++ regS i.b ++ [44, 32] ++ regS i.c
    else if 2 ≤ formD i.op ∧ formD i.op ≤ 5 then mnS i.op ++ [32] ++ regS i.a ++ [44, 32] ++ regS i.b ++ [44, 32] ++ Lib.itoa i.imm
    else if 2 ≤ formD i.op then mnS i.op ++ [32] ++ regS i.a ++ [44, 32] ++ Lib.itoa i.imm
    else mnS i.op
  else []
set_option maxHeartbeats 16000000 in
theorem format_ok (i : InstD) : Meets Tryd.prog 19 [.st i.row] (.str (fmtD i)) := by
  refine Meets.of Tryd.func19 rfl (by kernel_rfl) rfl ?_
  simp only [Tryd.ntmps19, St.start, argT]
  refine au  ?_
  repeat intro K hK
  refine wr ?_
  refine ca (valid_ok i)  ?_
  cases hv : validD i with
  | false =>
    refine au  ?_
    repeat intro K hK
    refine wr ?_
    refine awp_cond rfl (fun _ => ?_) (fun h => by simp at h)
    refine au  ?_
    repeat intro K hK
    refine wr ?_
    refine awp_ret ?_
    simp [fmtD, hv]
  | true =>
    obtain ⟨f1, f2, f3, f4, f5, f6⟩ := valid_facts hv
    have hw : IntKind.i64.wrap i.imm = i.imm := wrap_i64_in (by omega) (by omega)
    have la := Lib.itoa_length_le i.a (by omega) (by omega)
    have lb := Lib.itoa_length_le i.b (by omega) (by omega)
    have lc := Lib.itoa_length_le i.c (by omega) (by omega)
    have li := Lib.itoa_length_le i.imm (by omega) (by omega)
    have lm := mnS_short i.op
    have hx := mn_at i.op.toNat (by omega)
    have hmn : mnemo.getD i.op.toNat [] = mnS i.op := rfl
    rw [hmn] at hx
    refine au  ?_
    repeat intro K hK
    refine wr ?_
    refine awp_cond rfl (fun h => by simp at h) (fun _ => ?_)
    refine au2 @glo_0 @hx ?_
    repeat intro K hK
    refine wr ?_
    refine awp_planI ([0, 1, 2, 3, 4, 5, 6, 7, 8, 9, 10, 11, 12, 13, 14] : List Nat) ([[], [0], [0, 1], [0, 1, 2], [], [4], [0, 1, 2, 4, 5], [0, 1, 2, 4, 5, 6], [], [8], [0, 1, 2, 4, 5, 6, 8, 9], [0, 1, 2, 4, 5, 6, 8, 9, 10], [0, 1, 2, 3, 4, 5, 6, 8, 9, 10], [0, 1, 2, 3, 4, 5, 6, 7, 8, 9, 10, 12], [0, 1, 2, 3, 4, 5, 6, 7, 8, 9, 10, 11, 12, 13]] : List (List Nat)) ([(14, ([[], [0], [0, 1], [0, 1, 2], [], [4], [0, 1, 2, 4, 5], [0, 1, 2, 4, 5, 6], [], [8], [0, 1, 2, 4, 5, 6, 8, 9], [0, 1, 2, 4, 5, 6, 8, 9, 10], [0, 1, 2, 3, 4, 5, 6, 8, 9, 10], [0, 1, 2, 3, 4, 5, 6, 7, 8, 9, 10, 12]], [(5, 2), (9, 2), (9, 6)])), (1, ([], []))] : List (Nat × List (List Nat) × List (Nat × Nat))) (by kernel_rfl) (by kernel_rfl) (by kernel_rfl) ?_
    refine af  ?_
    repeat intro K hK
    refine wr ?_
    first | refine .inl ⟨0, _, itoa_ok i.a (by omega) (by omega), ?_⟩ | refine .inl ⟨0, _, Meets.wk (itoa_ok i.a (by omega) (by omega)) (by simp), ?_⟩ | refine ⟨0, _, itoa_ok i.a (by omega) (by omega), ?_⟩ | refine ⟨0, _, Meets.wk (itoa_ok i.a (by omega) (by omega)) (by simp), ?_⟩
    simp [aftC, aftE]
    refine af  ?_
    repeat intro K hK
    refine wr ?_
    first | refine .inl ⟨0, _, itoa_ok i.b (by omega) (by omega), ?_⟩ | refine .inl ⟨0, _, Meets.wk (itoa_ok i.b (by omega) (by omega)) (by simp), ?_⟩ | refine ⟨0, _, itoa_ok i.b (by omega) (by omega), ?_⟩ | refine ⟨0, _, Meets.wk (itoa_ok i.b (by omega) (by omega)) (by simp), ?_⟩
    simp [aftC, aftE]
    refine af  ?_
    repeat intro K hK
    refine wr ?_
    first | refine .inl ⟨0, _, itoa_ok i.c (by omega) (by omega), ?_⟩ | refine .inl ⟨0, _, Meets.wk (itoa_ok i.c (by omega) (by omega)) (by simp), ?_⟩ | refine ⟨0, _, itoa_ok i.c (by omega) (by omega), ?_⟩ | refine ⟨0, _, Meets.wk (itoa_ok i.c (by omega) (by omega)) (by simp), ?_⟩
    simp [aftC, aftE]
    refine af1 @hw ?_
    repeat intro K hK
    refine wr ?_
    refine ca (itoa_ok i.imm (by omega) (by omega))  ?_
    refine af  ?_
    repeat intro K hK
    refine wr ?_
    refine awp_keepT [1, 2, 3, 4, 5, 6, 7, 34, 35] (by simp; rfl) ?_
    refine awp_cond rfl (fun h0 => ?_) (fun h0 => ?_)
    · simp at h0
      refine af  ?_
      repeat intro K hK
      refine wr ?_
      refine awp_cond rfl (fun _ => ?_) (fun h => by simp [h0] at h)
      refine af6 @la @lb @lc @li @lm @regS.eq_1 ?_
      repeat intro K hK
      refine wr ?_
      refine awp_ret ?_
      simp [fmtD, hv, h0, regS]
    simp at h0
    refine af  ?_
    repeat intro K hK
    refine wr ?_
    refine awp_cond rfl (fun h1 => ?_) (fun h1 => ?_)
    · simp at h1
      refine af  ?_
      repeat intro K hK
      refine wr ?_
      refine awp_cond rfl (fun _ => ?_) (fun h => by simp [h1] at h)
      refine af6 @la @lb @lc @li @lm @regS.eq_1 ?_
      repeat intro K hK
      refine wr ?_
      refine awp_ret ?_
      simp [fmtD, hv, h1, regS]
    simp at h1
    refine af  ?_
    repeat intro K hK
    refine wr ?_
    refine awp_cond rfl (fun h2 => ?_) (fun h2 => ?_)
    · simp at h2
      refine af  ?_
      repeat intro K hK
      refine wr ?_
      refine awp_cond rfl (fun _ => ?_) (fun h => by simp [h2] at h)
      refine af6 @la @lb @lc @li @lm @regS.eq_1 ?_
      repeat intro K hK
      refine wr ?_
      refine awp_ret ?_
      simp [fmtD, hv, h2, regS]
    simp at h2
    refine af  ?_
    repeat intro K hK
    refine wr ?_
    refine awp_cond rfl (fun h3 => ?_) (fun h3 => ?_)
    · simp at h3
      refine af  ?_
      repeat intro K hK
      refine wr ?_
      refine awp_cond rfl (fun _ => ?_) (fun h => by simp [h3] at h)
      refine af6 @la @lb @lc @li @lm @regS.eq_1 ?_
      repeat intro K hK
      refine wr ?_
      refine awp_ret ?_
      simp [fmtD, hv, h3, regS]
    simp at h3
    refine af  ?_
    repeat intro K hK
    refine wr ?_
    refine awp_cond rfl (fun h4 => ?_) (fun h4 => ?_)
    · simp at h4
      refine af  ?_
      repeat intro K hK
      refine wr ?_
      refine af6 @la @lb @lc @li @lm @regS.eq_1 ?_
      repeat intro K hK
      refine wr ?_
      refine awp_ret ?_
      simp [fmtD, hv, h4, regS]
    simp at h4
    refine af  ?_
    repeat intro K hK
    refine wr ?_
    have hn : ¬ (32 ≤ i.op ∧ i.op ≤ 36) := by omega
    refine ca (use_ok i.op)  ?_
    refine af  ?_
    repeat intro K hK
    refine wr ?_
    have hr := formD_range i.op
    by_cases e2 : formD i.op = 2
    · refine awp_cond rfl (fun _ => ?_) (fun h => by simp [uC, e2] at h)
      refine af6 @la @lb @lc @li @lm @regS.eq_1 ?_
      repeat intro K hK
      refine wr ?_
      refine awp_ret ?_
      simp [fmtD, hv, hn, e2, regS]
    · refine awp_cond rfl (fun h => by simp [uC, e2] at h) (fun _ => ?_)
      refine af  ?_
      repeat intro K hK
      refine wr ?_
      by_cases e3 : 2 ≤ formD i.op ∧ formD i.op ≤ 5
      · refine awp_cond rfl (fun _ => ?_) (fun h => by simp [uB, e3] at h)
        refine af6 @la @lb @lc @li @lm @regS.eq_1 ?_
        repeat intro K hK
        refine wr ?_
        refine awp_ret ?_
        simp [fmtD, hv, hn, e2, e3, regS]
      · refine awp_cond rfl (fun h => by simp [uB] at h; exact absurd h e3) (fun _ => ?_)
        refine af  ?_
        repeat intro K hK
        refine wr ?_
        by_cases e4 : 2 ≤ formD i.op
        · have e5 : ¬ formD i.op ≤ 5 := by omega
          refine awp_cond rfl (fun _ => ?_) (fun h => by simp [uA, e4] at h)
          refine af6 @la @lb @lc @li @lm @regS.eq_1 ?_
          repeat intro K hK
          refine wr ?_
          refine awp_ret ?_
          simp [fmtD, hv, hn, e2, e5, e4, regS]
        · refine awp_cond rfl (fun h => by simp [uA, e4] at h) (fun _ => ?_)
          refine af  ?_
          repeat intro K hK
          refine wr ?_
          refine awp_ret ?_
          simp [fmtD, hv, hn, e2, e3, e4, regS]
def iA : InstD := ⟨16, 1, 2, 0, -1⟩
def iL : InstD := ⟨32, 3, 4, 0, -8⟩
theorem aw1 : Meets Tryd.prog 18 [.st [.int .i64 16, .int .i64 1, .int .i64 2, .int .i64 0, .int .i32 (-1)]] (.tup [.int .u32 269680639, .int .i64 0]) := by
  have h := encode_ok iA
  have hv : validD iA = true := by decide
  have he : encW iA = 269680639 := by decide
  simp only [hv, he, if_true] at h
  exact h
theorem aw2 : ∃ i : InstD, Meets Tryd.prog 15 [.int .u32 0] (.tup [.st i.row, .bool false]) := by
  have h := decode_ok 0
  have hv : validD (decI 0) = false := by decide
  rw [decV, hv] at h
  exact ⟨_, h⟩
theorem digit_itoa (n : Int) (h0 : 0 ≤ n) (h1 : n < 10) : Lib.itoa n = [UInt8.ofNat (48 + n.toNat)] := by
  unfold Lib.itoa
  rw [if_neg (by omega), Lib.decDigits_one (by omega)]
theorem itoa_m8 : Lib.itoa (-8) = [45, 56] := by
  unfold Lib.itoa
  rw [if_pos (by omega), show (-8 : Int).natAbs = 8 from rfl, Lib.decDigits_one (by omega)]; rfl
theorem aw3 : Meets Tryd.prog 19 [.st [.int .i64 32, .int .i64 3, .int .i64 4, .int .i64 0, .int .i32 (-8)]] (.str [108, 119, 32, 114, 51, 44, 32, 45, 56, 40, 114, 52, 41]) := by
  have h := format_ok iL
  have hv : validD iL = true := by decide
  have he : fmtD iL = [108, 119, 32, 114, 51, 44, 32, 45, 56, 40, 114, 52, 41] := by
    simp only [fmtD, hv, if_true, regS]
    rw [if_pos (by decide)]
    simp only [iL, itoa_m8, digit_itoa 3 (by omega) (by omega), digit_itoa 4 (by omega) (by omega)]
    decide
  rw [he] at h
  exact h
set_option maxHeartbeats 4000000 in
theorem awake_ok : Meets Tryd.prog 17 [] (.bool true) := by
  obtain ⟨i, h2⟩ := aw2
  refine Meets.of Tryd.func17 rfl (by kernel_rfl) rfl ?_
  simp only [Tryd.ntmps17, St.start, argT]
  refine au  ?_
  repeat intro K hK
  refine wr ?_
  refine ca (aw1)  ?_
  refine au  ?_
  repeat intro K hK
  refine wr ?_
  refine ca (h2)  ?_
  refine au  ?_
  repeat intro K hK
  refine wr ?_
  refine ca (aw3)  ?_
  refine au  ?_
  repeat intro K hK
  refine wr ?_
  refine awp_ret ?_
  simp
end Go.Proofs.YtjlbpkokdlggiaaDoor
