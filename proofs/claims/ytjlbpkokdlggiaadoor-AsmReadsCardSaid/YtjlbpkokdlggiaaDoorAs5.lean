/- Package asm: strings.Cut at one byte; the table of statements. (Numbers of seat r2.D.) -/
import Derived.Test.YtjlbpkokdlggiaaDoorAs4
namespace Go.Proofs.YtjlbpkokdlggiaaDoor
open Go.Ab Go.RowKit
set_option linter.unusedSimpArgs false
set_option maxRecDepth 100000
theorem index_ok (s : Str) (c : UInt8) : Meets Tryd.prog 112 [.str s, .str [c]] (.int .i64 (Lib.indexByte s c)) := by
  refine Meets.str2 (val := .int .i64 (Lib.indexByte s c)) (by kernel_rfl) (fun n => rfl) (fun M w X n => .int _ _ _) fun w _ => ?_
  refine (Any.stringslite_Index_one indexLays ⟨s.toArray⟩ c w).mono ?_
  rintro e w' ⟨rfl, rfl⟩
  rw [bytes_list]
  exact ⟨rfl, Below.refl _ _⟩
def befD (s : Str) (c : UInt8) : Str := s.takeWhile fun b => !(b == c)
def aftD (s : Str) (c : UInt8) : Str := (s.dropWhile fun b => !(b == c)).drop 1
theorem indexByte_spec (c : UInt8) : ∀ s : Str, (Lib.indexByte s c = -1 ∧ befD s c = s ∧ aftD s c = [] ∧ s.contains c = false) ∨ (0 ≤ Lib.indexByte s c ∧ Lib.indexByte s c < s.length ∧ befD s c = s.take (Lib.indexByte s c).toNat ∧ aftD s c = s.drop ((Lib.indexByte s c).toNat + 1) ∧ s.contains c = true)
  | [] => .inl ⟨rfl, rfl, rfl, rfl⟩
  | b :: s => by
    cases hc : (b == c) with
    | true =>
      right
      have hcc : (c == b) = true := by
        rw [beq_iff_eq] at hc ⊢; exact hc.symm
      have h1 : Lib.indexByte (b :: s) c = 0 := by simp only [Lib.indexByte, hc, if_true]
      rw [h1]
      refine ⟨Int.le_refl _, by simp, ?_, ?_, ?_⟩
      · simp [befD, List.takeWhile_cons, hc]
      · simp [aftD, List.dropWhile_cons, hc]
      · simp only [List.contains_cons, hcc, Bool.true_or]
    | false =>
      have hcc : (c == b) = false := by
        rw [beq_eq_false_iff_ne] at hc ⊢; exact fun e => hc e.symm
      have hw : befD (b :: s) c = b :: befD s c := by simp [befD, List.takeWhile_cons, hc]
      have ha : aftD (b :: s) c = aftD s c := by simp [aftD, List.dropWhile_cons, hc]
      rw [hw, ha, List.contains_cons, hcc, Bool.false_or]
      rcases indexByte_spec c s with ⟨h, e1, e2, e3⟩ | ⟨h, h', e1, e2, e3⟩
      · left
        refine ⟨?_, by rw [e1], e2, e3⟩
        simp only [Lib.indexByte, hc, h, Bool.false_eq_true, if_false]; rfl
      · right
        have hne : (Lib.indexByte s c == -1) = false := by simp; omega
        have h3 : Lib.indexByte (b :: s) c = Lib.indexByte s c + 1 := by simp only [Lib.indexByte, hc, hne, Bool.false_eq_true, if_false]
        rw [h3]
        refine ⟨by omega, by simp only [List.length_cons]; omega, ?_, ?_, e3⟩
        · rw [e1, show (Lib.indexByte s c + 1).toNat = (Lib.indexByte s c).toNat + 1 by omega]; rfl
        · rw [e2, show (Lib.indexByte s c + 1).toNat + 1 = (Lib.indexByte s c).toNat + 1 + 1 by omega]; rfl
set_option maxHeartbeats 4000000 in
theorem cut93_ok (s : Str) (c : UInt8) (hl : s.length < 4294967281) : Meets Tryd.prog 93 [.str s, .str [c]] (.tup [.str (befD s c), .str (aftD s c), .bool (s.contains c)]) := by
  refine Meets.of Tryd.func93 rfl (by kernel_rfl) rfl ?_
  simp only [Tryd.ntmps93, St.start, argT]
  refine au  ?_
  repeat intro K hK
  refine wr ?_
  refine ca (index_ok s c)  ?_
  refine au  ?_
  repeat intro K hK
  refine wr ?_
  rcases indexByte_spec c s with ⟨q, e1, e2, e3⟩ | ⟨q, q', e1, e2, e3⟩
  · refine awp_cond rfl (fun h => by simp [q] at h) (fun _ => ?_)
    have e4 : ¬ c ∈ s := by simpa using e3
    refine au  ?_
    repeat intro K hK
    refine wr ?_
    refine awp_ret ?_
    simp [e1, e2, e4]
  · refine awp_cond rfl (fun _ => ?_) (fun h => by simp [q] at h)
    have hw : IntKind.i64.wrap (Lib.indexByte s c + 1) = Lib.indexByte s c + 1 := wrap_i64_in (by omega) (by omega)
    have hn : (Lib.indexByte s c + 1).toNat = (Lib.indexByte s c).toNat + 1 := by omega
    refine au  ?_
    repeat intro K hK
    refine wr ?_
    refine awp_planI ([0, 1, 2, 3, 4, 5, 6, 7, 8, 9, 10, 11] : List Nat) ([[], [], [0, 1], [], [], [], [5], [4, 5, 6], [3, 4, 5, 6, 7], [0, 1, 2], [0, 1, 2, 3, 4, 5, 6, 7, 8, 9], [0, 1, 2, 3, 4, 5, 6, 7, 8, 9, 10]] : List (List Nat)) ([(10, ([[], [], [0, 1], [], [], [], [5], [4, 5, 6], [3, 4, 5, 6, 7], [0, 1, 2]], [])), (1, ([], [])), (1, ([], []))] : List (Nat × List (List Nat) × List (Nat × Nat))) (by kernel_rfl) (by kernel_rfl) (by kernel_rfl) ?_
    refine af1 @hw ?_
    repeat intro K hK
    refine wr ?_
    have e4 : c ∈ s := by simpa using e3
    refine awp_ret ?_
    simp [e1, e2, e4, hn]
theorem cut_ok (s : Str) (c : UInt8) (hl : s.length < 4294967281) : Meets Tryd.prog 78 [.str s, .str [c]] (.tup [.str (befD s c), .str (aftD s c), .bool (s.contains c)]) := by
  refine Meets.of Tryd.func78 rfl (by kernel_rfl) rfl ?_
  simp only [Tryd.ntmps78, St.start, argT]
  refine au  ?_
  repeat intro K hK
  refine wr ?_
  refine ca (cut93_ok s c hl)  ?_
  refine au  ?_
  repeat intro K hK
  refine wr ?_
  refine awp_ret ?_
  simp
def opI (op : Int) : InstD := ⟨op, 0, 0, 0, 0⟩
theorem valid_op (op : Int) : validD (opI op) = decide (formD op ≠ 0) := by
  rcases formD_cases op with q | q | q | q | q | q | q | q | q | q <;> simp [validD, opI, regB, uA, uB, uC, lowD, highD, q]
theorem bef_app {x t : Str} {c : UInt8} (hx : c ∉ x) : befD (x ++ c :: t) c = x := by
  unfold befD
  rw [List.takeWhile_append_of_pos (fun b hb => by
    have : b ≠ c := fun e => hx (e ▸ hb)
    simp [this])]
  simp
theorem mnemo_no32 : ∀ s ∈ mnemo, (32 : UInt8) ∉ s := by decide
theorem mnS_no32 (op : Int) : (32 : UInt8) ∉ mnS op := by
  unfold mnS
  rw [List.getD_eq_getElem?_getD]
  cases h : mnemo[op.toNat]? with
  | none => simp
  | some s => exact mnemo_no32 s (List.mem_of_getElem? h)
theorem bef_no {x : Str} {c : UInt8} (hx : c ∉ x) : befD x c = x := by
  have := List.takeWhile_append_of_pos (p := fun b => !(b == c)) (l₁ := x) (l₂ := []) (fun b hb => by
    have : b ≠ c := fun e => hx (e ▸ hb)
    simp [this])
  simpa [befD] using this
theorem fmt_name (op : Int) : befD (fmtD (opI op)) 32 = if formD op ≠ 0 then mnS op else [] := by
  have hv := valid_op op
  by_cases h : formD op = 0
  · have : fmtD (opI op) = [] := by
      unfold fmtD
      rw [if_neg (by rw [hv]; simp [h])]
    rw [this, if_neg (by simp [h])]; rfl
  · rw [if_pos h]
    have hv' : validD (opI op) = true := by rw [hv]; simp [h]
    have ho : (opI op).op = op := rfl
    unfold fmtD
    rw [if_pos hv', ho]
    have h32 := mnS_no32 op
    split
    · simp only [List.append_assoc, List.cons_append, List.nil_append]; exact bef_app h32
    · split
      · simp only [List.append_assoc, List.cons_append, List.nil_append]; exact bef_app h32
      · split
        · simp only [List.append_assoc, List.cons_append, List.nil_append]; exact bef_app h32
        · split
          · simp only [List.append_assoc, List.cons_append, List.nil_append]; exact bef_app h32
          · exact bef_no h32
theorem fmt_len (op : Int) : (fmtD (opI op)).length < 4294967281 := by
  have lm := mnS_short op
  have l0 := Lib.itoa_length_le 0 (by omega) (by omega)
  unfold fmtD
  have ho : (opI op).op = op := rfl
  have r0 : (regS 0).length ≤ 22 := by simp [regS]; omega
  have ea : (opI op).a = 0 := rfl
  have eb : (opI op).b = 0 := rfl
  have ec : (opI op).c = 0 := rfl
  have em : (opI op).imm = 0 := rfl
  rw [ho, ea, eb, ec, em]
  (repeat' split) <;> (simp; try omega)
def base5 : List (List V) := [[.str [46, 119, 111, 114, 100], .int .i64 0, .str [120], .int .i64 1, .bool false, .fn 74], [.str [46, 115, 112, 97, 99, 101], .int .i64 0, .str [110], .int .i64 0, .bool false, .fn 75],
  [.str [108, 105], .int .i64 0, .str [114, 44, 120], .int .i64 2, .bool false, .fn 76], [.str [109, 118], .int .i64 16, .str [114, 44, 114], .int .i64 1, .bool false, .fn 77], [.str [110, 111, 112], .int .i64 16, .str [], .int .i64 1, .bool false, .fn 77]]
def shapeE (op : Int) : List V := [.str (mnS op), .int .i64 op, .str (opPat op), .int .i64 1, .bool (opRel op), .fn 77]
def shapesN : Nat → List (List V)
  | 0 => base5
  | n + 1 => if formD (n : Nat) ≠ 0 then shapesN n ++ [shapeE (n : Nat)] else shapesN n
@[simp] theorem shapes0 : shapesN 0 = [[.str [46, 119, 111, 114, 100], .int .i64 0, .str [120], .int .i64 1, .bool false, .fn 74], [.str [46, 115, 112, 97, 99, 101], .int .i64 0, .str [110], .int .i64 0, .bool false, .fn 75],
  [.str [108, 105], .int .i64 0, .str [114, 44, 120], .int .i64 2, .bool false, .fn 76], [.str [109, 118], .int .i64 16, .str [114, 44, 114], .int .i64 1, .bool false, .fn 77], [.str [110, 111, 112], .int .i64 16, .str [], .int .i64 1, .bool false, .fn 77]] := rfl
theorem shapes_keys : ∀ n, mkeys (shapesN n)
  | 0 => by
    intro x hx
    simp only [shapesN, base5, List.mem_cons, List.not_mem_nil, or_false] at hx
    rcases hx with rfl | rfl | rfl | rfl | rfl <;> rfl
  | n + 1 => by
    intro x hx
    simp only [shapesN] at hx
    split at hx
    · rcases List.mem_append.1 hx with h | h
      · exact shapes_keys n x h
      · simp only [List.mem_singleton] at h; subst h; rfl
    · exact shapes_keys n x hx
theorem shapes_new : ∀ n < 65, formD (n : Nat) ≠ 0 → midx (mnS (n : Nat)) (shapesN n) = none := by decide +kernel
theorem mnS_ne : ∀ n < 65, formD (n : Nat) ≠ 0 → mnS (n : Nat) ≠ [] := by decide +kernel
theorem shapes_step (n : Nat) (hn : n < 65) (h : formD (n : Nat) ≠ 0) : mput (mnS (n : Nat)) [.int .i64 (n : Nat), .str (opPat (n : Nat)), .int .i64 1, .bool (opRel (n : Nat)), .fn 77] (shapesN n) = shapesN (n + 1) := by
  unfold mput
  rw [shapes_new n hn h]
  simp only [shapesN, if_pos h]; rfl
set_option maxHeartbeats 8000000 in
theorem statements_ok : Meets Tryd.prog 61 [] (.newm 105 6 (shapesN 65)) := by
  refine Meets.of Tryd.func61 rfl (by kernel_rfl) rfl ?_
  simp only [Tryd.ntmps61, St.start, argT]
  refine au5 @mput.eq_1 @midx.eq_1 @midx.eq_2 @mkey.eq_1 @mkeys.eq_1 ?_
  repeat intro K hK
  refine wr ?_
  obtain ⟨I, hI⟩ : ∃ I : Nat → St → Prop, I = (fun kk ss => ∃ (i : Nat) , i ≤ 65 ∧ kk = 65 - i ∧ (True) ∧ ss = ⟨41, [(15, .int .i64 i), (1, .omap 0)], 1, [(0, some ⟨105, 6, false, false, shapesN i⟩)], 0⟩) := ⟨_, rfl⟩
  refine awp_loopA I (k0 := 65) (st0 := (fun (i : Nat)  => (⟨41, [(15, .int .i64 i), (1, .omap 0)], 1, [(0, some ⟨105, 6, false, false, shapesN i⟩)], 0⟩ : St)) 0 ) (ρ0 := id) ⟨rfl, by simp [leT, ltV, lt1, ren, ren1], by simp [leO, lt1, ren1], by simp, by simp⟩ (by rw [hI]; exact ⟨0, by simp, by simp, trivial, rfl⟩) ?_
  intro kk ss hIk _
  rw [hI] at hIk
  obtain ⟨i, hi, rfl, hx, rfl⟩ := hIk
  have hw : IntKind.i64.wrap ((i : Int) + 1) = ((i + 1 : Nat) : Int) := by rw [wrap_i64_in (by omega) (by omega)]; omega
  refine au  ?_
  repeat intro K hK
  refine wr ?_
  refine awp_cond rfl (fun h => ?_) (fun h => ?_)
  · simp at h
    have hf := format_ok (opI (i : Nat))
    have hc := cut_ok (fmtD (opI (i : Nat))) 32 (fmt_len _)
    rw [fmt_name] at hc
    refine au  ?_
    repeat intro K hK
    refine wr ?_
    refine ca (hf)  ?_
    refine au  ?_
    repeat intro K hK
    refine wr ?_
    by_cases h0 : formD (i : Nat) = 0
    · have hs : shapesN (i + 1) = shapesN i := by simp only [shapesN, h0, ne_eq, not_true_eq_false, if_false]
      rw [if_neg (by simp [h0])] at hc
      refine ca (hc)  ?_
      refine au  ?_
      repeat intro K hK
      refine wr ?_
      refine awp_cond rfl (fun _ => ?_) (fun h => by simp at h)
      refine au  ?_
      repeat intro K hK
      refine wr ?_
      refine again_of (65 - (i + 1)) ((fun (i : Nat)  => (⟨41, [(15, .int .i64 i), (1, .omap 0)], 1, [(0, some ⟨105, 6, false, false, shapesN i⟩)], 0⟩ : St)) (i + 1) ) (id) (by omega) (by rw [hI]; exact ⟨i + 1, by omega, rfl, trivial, rfl⟩) ⟨rfl, ?_, ?_, ?_, by simp⟩
      · simp [leT, ltV, lt1, ren, ren1, wrap_i64_in (n := (i : Int) + 1) (by omega) (by omega), hw, hs]
      · simp [leO, lt1, ren1, hw, hs]
      · (simp; try omega)
    · have hne := mnS_ne i (by omega) h0
      have hne' : (mnS (i : Nat)).isEmpty = false := by
        cases he : mnS (i : Nat) with
        | nil => exact absurd he hne
        | cons _ _ => rfl
      have hst := shapes_step i (by omega) h0
      have hk := shapes_keys i
      rw [if_pos h0] at hc
      refine ca (hc)  ?_
      refine au  ?_
      repeat intro K hK
      refine wr ?_
      refine awp_cond rfl (fun h => by simp [hne] at h) (fun _ => ?_)
      refine au  ?_
      repeat intro K hK
      refine wr ?_
      refine ca (operands_ok (i : Nat))  ?_
      refine au  ?_
      repeat intro K hK
      refine wr ?_
      refine again_of (65 - (i + 1)) ((fun (i : Nat)  => (⟨41, [(15, .int .i64 i), (1, .omap 0)], 1, [(0, some ⟨105, 6, false, false, shapesN i⟩)], 0⟩ : St)) (i + 1) ) (id) (by omega) (by rw [hI]; exact ⟨i + 1, by omega, rfl, trivial, rfl⟩) ⟨rfl, ?_, ?_, ?_, by simp⟩
      · simp [leT, ltV, lt1, ren, ren1, wrap_i64_in (n := (i : Int) + 1) (by omega) (by omega), hw, hst]
      · simp [leO, lt1, ren1, hw, hst]
      · (simp; try omega)
  · simp at h
    have hi : i = 65 := by omega
    subst hi
    refine au  ?_
    repeat intro K hK
    refine wr ?_
    refine awp_ret ?_
    simp
end Go.Proofs.YtjlbpkokdlggiaaDoor
