/- Package asm: one statement. (Numbers of seat r2.D.) -/
import Derived.Test.YtjlbpkokdlggiaaDoorAs5
namespace Go.Proofs.YtjlbpkokdlggiaaDoor
open Go.Ab Go.RowKit
set_option linter.unusedSimpArgs false
set_option maxRecDepth 100000
theorem cr_ok (s : Str) (c : UInt8) (hc : c.toNat < 128) : Meets Tryd.prog 98 [.str s, .int .i32 c.toNat] (.bool (s.contains c)) := by
  refine ⟨by kernel_rfl, fun w Xa vals M hXa hs hrr => ?_⟩
  obtain rfl := vals2 hs (R_str (hrr 0 _ rfl)) (R_int (hrr 1 _ rfl))
  refine (Any.strings_ContainsRune_ascii crLays ⟨s.toArray⟩ (c.toNat : Int) w (by omega) (by omega)).mono ?_
  rintro e w' ⟨rfl, rfl⟩
  refine ⟨_, rfl, Below.refl _ _, fun M n hM => ⟨?_, fun id o ho => ?_, fun id id' o o' g ho => ?_⟩⟩
  · have hcc : ((c.toNat : Int).toNat.toUInt8) = c := by simp
    rw [bytes_list, hcc]
    have he : decide (0 ≤ Lib.indexByte s c) = s.contains c := by
      rcases indexByte_spec c s with ⟨q, _, _, e3⟩ | ⟨q, _, _, _, e3⟩
      · rw [e3, q]; rfl
      · rw [e3]; simpa using q
    rw [he]
    exact .bool _ _
  · simp [V.fcells, V.cells, obsL, lookO] at ho
  · simp [V.fcells, V.cells, obsL, lookO] at ho
def setR (k : Nat) (q : Int) (t : Int × Int × Int) : Int × Int × Int := if k = 0 then (q, t.2.1, t.2.2) else if k = 1 then (t.1, q, t.2.2) else (t.1, t.2.1, q)
def patD : Str → Str → Nat → (Int × Int × Int) → (Int × Str) → Option (Str × (Int × Int × Int) × (Int × Str))
  | [], rest, _, rg, im => some (rest, rg, im)
  | c :: p, rest, k, rg, im =>
    if c = 44 ∨ c = 40 ∨ c = 41 then (if Lib.hasPrefix (skipD rest) [c] then patD p (Lib.trimPrefix (skipD rest) [c]) k rg im else none)
    else if c = 114 then (match regN (wordD (skipD rest)) with
      | some q => patD p (afterD (skipD rest)) (k + 1) (setR k q rg) im
      | none => none)
    else (match pvD (wordD (skipD rest)) (decide (c = 120)) with
      | some v => patD p (afterD (skipD rest)) k rg v
      | none => none)
theorem trim_len (s p : Str) : (Lib.trimPrefix s p).length ≤ s.length := by
  unfold Lib.trimPrefix
  split
  · simp
  · exact Nat.le_refl _
def shV (v : List V) : Int × Str × Int × Bool × Nat := match v with
  | [.int _ op, .str p, .int _ w, .bool r, .fn c] => (op, p, w, r, c)
  | _ => (0, [], 0, false, 0)
structure ShapeD where
  op : Int
  pat : Str
  words : Int
  rel : Bool
  code : Nat
  deriving DecidableEq
abbrev ShapeD.row (h : ShapeD) : List V := [.int .i64 h.op, .str h.pat, .int .i64 h.words, .bool h.rel, .fn h.code]
def shapesL : Nat → List (Str × ShapeD)
  | 0 => [([46, 119, 111, 114, 100], ⟨0, [120], 1, false, 74⟩), ([46, 115, 112, 97, 99, 101], ⟨0, [110], 0, false, 75⟩), ([108, 105], ⟨0, [114, 44, 120], 2, false, 76⟩), ([109, 118], ⟨16, [114, 44, 114], 1, false, 77⟩), ([110, 111, 112], ⟨16, [], 1, false, 77⟩)]
  | n + 1 => if formD (n : Nat) ≠ 0 then shapesL n ++ [(mnS (n : Nat), ⟨(n : Nat), opPat (n : Nat), 1, opRel (n : Nat), 77⟩)] else shapesL n
theorem shapes_eq : ∀ n, shapesN n = (shapesL n).map fun p => .str p.1 :: p.2.row
  | 0 => rfl
  | n + 1 => by
    simp only [shapesN, shapesL, shapes_eq n]
    split
    · simp [shapeE]
    · rfl
def findS (s : Str) : List (Str × ShapeD) → Option ShapeD
  | [] => none
  | x :: r => if x.1 = s then some x.2 else findS s r
theorem mget_cons {s : Str} {x : List V} {r : List (List V)} : mget s (x :: r) = if mkey x = some s then some x.tail else mget s r := by
  unfold mget
  by_cases h : mkey x = some s
  · simp [midx, h]
  · simp only [midx, h, if_false]
    cases midx s r with
    | none => rfl
    | some j => simp
theorem mget_map (s : Str) : ∀ l : List (Str × ShapeD), mget s (l.map fun p => .str p.1 :: p.2.row) = (findS s l).map ShapeD.row
  | [] => rfl
  | x :: r => by
    rw [List.map_cons, mget_cons, mget_map s r]
    simp only [mkey, Option.some.injEq, findS]
    split
    · rfl
    · rfl
abbrev shapes : List (Str × ShapeD) := shapesL 65
theorem shapes_fact : ∀ x ∈ shapes, x.2.pat.count 114 ≤ 3 ∧ x.2.pat.length ≤ 6 ∧ (∀ c ∈ x.2.pat, c.toNat < 128) ∧ (x.2.code = 74 ∨ x.2.code = 75 ∨ x.2.code = 76 ∨ x.2.code = 77) ∧ 0 ≤ x.2.words ∧ x.2.words ≤ 2 := by decide +kernel
theorem findS_mem {s : Str} {h : ShapeD} : ∀ {l : List (Str × ShapeD)}, findS s l = some h → ∃ x ∈ l, x.2 = h
  | x :: r, e => by
    simp only [findS] at e
    split at e
    · simp only [Option.some.injEq] at e; exact ⟨x, List.mem_cons_self .., e⟩
    · obtain ⟨y, hy, e'⟩ := findS_mem e; exact ⟨y, List.mem_cons_of_mem _ hy, e'⟩
  | [], e => by simp [findS] at e
def zeroL : List V := [.int .i64 0, .int .u32 0, .int .i64 0, .int .i64 0, .str [], .int .i64 0, .bool false, .poi, .int .i64 0, .int .i64 0, .int .i64 0, .int .i64 0, .str []]
def psLine (h : ShapeD) (wd : Int) (rg : Int × Int × Int) (im : Int × Str) : LineD := ⟨0, 0, wd, h.op, h.pat, h.words, h.rel, h.code, rg.1, rg.2.1, rg.2.2, im.1, im.2⟩
def psRes (s : Str) : List V × Bool :=
  match findS (wordD s) shapes with
  | none => (zeroL, false)
  | some h => match patD h.pat (afterD s) 0 (0, 0, 0) (0, []) with
    | none => (zeroL, false)
    | some (rest, rg, im) => if h.pat = [110] ∧ (im.1 < 0 ∨ 1024 < im.1) then (zeroL, false) else ((psLine h (if h.pat = [110] then im.1 else h.words) rg im).row, decide (skipD rest = []))
set_option maxHeartbeats 16000000 in
theorem ps_ok (s : Str) (ha : okText s) (hl : s.length < 4294967281) : Meets Tryd.prog 81 [.str s, .mp 6 (shapesN 65)] (.tup [.st (psRes s).1, .bool (psRes s).2]) := by
  have hks := shapes_keys 65
  have hget : mget (wordD s) (shapesN 65) = (findS (wordD s) shapes).map ShapeD.row := by rw [shapes_eq, mget_map]
  refine Meets.of Tryd.func81 rfl (by kernel_rfl) rfl ?_
  simp only [Tryd.ntmps81, St.start, argT]
  refine au  ?_
  repeat intro K hK
  refine wr ?_
  refine ca (cutWord_ok s ha hl)  ?_
  cases hf : findS (wordD s) shapes with
  | none =>
    rw [hf] at hget
    have hz : psRes s = (zeroL, false) := by simp only [psRes, hf]
    refine au1 @hget ?_
    repeat intro K hK
    refine wr ?_
    refine awp_cond rfl (fun _ => ?_) (fun h => by simp at h)
    refine au  ?_
    repeat intro K hK
    refine wr ?_
    refine awp_fzA ?_
    refine awp_ret ?_
    simp [hz, zeroL]
  | some h =>
    rw [hf] at hget
    obtain ⟨x0, hx0, rfl⟩ := findS_mem hf
    obtain ⟨q1, q2, q3, q4, q5, q6⟩ := shapes_fact x0 hx0
    generalize x0.2 = h at *
    refine au1 @hget ?_
    repeat intro K hK
    refine wr ?_
    refine awp_cond rfl (fun h => by simp at h) (fun _ => ?_)
    refine au  ?_
    repeat intro K hK
    refine wr ?_
    obtain ⟨I, hI⟩ : ∃ I : Nat → St → Prop, I = (fun kk ss => ∃ (i : Nat) (rest : Str) (k : Nat) (r0 r1 r2 num : Int) (nm : Str), i ≤ h.pat.length ∧ kk = h.pat.length - i ∧ (patD h.pat (afterD s) 0 (0, 0, 0) (0, []) = patD (h.pat.drop i) rest k (r0, r1, r2) (num, nm) ∧ k = (h.pat.take i).count 114 ∧ okText rest ∧ rest.length < 4294967281) ∧ ss = ⟨103, [(35, .itr 5), (4, .ptr 0 13 0 0), (10, .ptr 4 13 0 0), (8, .ptr 3 5 0 0), (7, .str rest), (11, .int .i64 k)], 6, [(0, some ⟨116, 13, true, false, [[.int .i64 0, .int .u32 0, .int .i64 0, .int .i64 0, .str [], .int .i64 0, .bool false, .poi, .int .i64 0, .int .i64 0, .int .i64 0, .int .i64 0, .str []]]⟩), (3, some ⟨111, 5, true, false, [h.row]⟩), (4, some ⟨116, 13, true, false, [[.int .i64 0, .int .u32 0, .int .i64 h.words, .int .i64 h.op, .str h.pat, .int .i64 h.words, .bool h.rel, .fn h.code, .int .i64 r0, .int .i64 r1, .int .i64 r2, .int .i64 num, .str nm]]⟩), (5, some ⟨0, 2, false, false, [[.str h.pat, .int .i64 i]]⟩)], 0⟩) := ⟨_, rfl⟩
    refine awp_loopA I (k0 := h.pat.length) (st0 := (fun (i : Nat) (rest : Str) (k : Nat) (r0 r1 r2 num : Int) (nm : Str) => (⟨103, [(35, .itr 5), (4, .ptr 0 13 0 0), (10, .ptr 4 13 0 0), (8, .ptr 3 5 0 0), (7, .str rest), (11, .int .i64 k)], 6, [(0, some ⟨116, 13, true, false, [[.int .i64 0, .int .u32 0, .int .i64 0, .int .i64 0, .str [], .int .i64 0, .bool false, .poi, .int .i64 0, .int .i64 0, .int .i64 0, .int .i64 0, .str []]]⟩), (3, some ⟨111, 5, true, false, [h.row]⟩), (4, some ⟨116, 13, true, false, [[.int .i64 0, .int .u32 0, .int .i64 h.words, .int .i64 h.op, .str h.pat, .int .i64 h.words, .bool h.rel, .fn h.code, .int .i64 r0, .int .i64 r1, .int .i64 r2, .int .i64 num, .str nm]]⟩), (5, some ⟨0, 2, false, false, [[.str h.pat, .int .i64 i]]⟩)], 0⟩ : St)) 0 (afterD s) 0 0 0 0 0 []) (ρ0 := id) ⟨rfl, by simp [leT, ltV, lt1, ren, ren1], by simp [leO, lt1, ren1], by simp, by simp⟩ (by rw [hI]; exact ⟨0, (afterD s), 0, 0, 0, 0, 0, [], by simp, by simp, ⟨rfl, rfl, ascii_drop ha _, Nat.lt_of_le_of_lt (len_drop s _) hl⟩, rfl⟩) ?_
    intro kk ss hIk _
    rw [hI] at hIk
    obtain ⟨i, rest, k, r0, r1, r2, num, nm, hi, rfl, hx, rfl⟩ := hIk
    obtain ⟨hp, hk, hra, hrl⟩ := hx
    by_cases hi : i < h.pat.length
    · obtain ⟨c, hc⟩ : ∃ c, c = h.pat.getD i 0 := ⟨_, rfl⟩
      have hcm : c ∈ h.pat := by rw [hc, List.getD_eq_getElem?_getD, List.getElem?_eq_getElem hi, Option.getD_some]; exact List.getElem_mem hi
      have hdr : h.pat.drop i = c :: h.pat.drop (i + 1) := by rw [List.drop_eq_getElem_cons hi, hc, List.getD_eq_getElem?_getD, List.getElem?_eq_getElem hi]; rfl
      have hca := q3 c hcm
      have hru := rune_ascii h.pat i hi (by rw [← hc]; exact hca)
      rw [← hc] at hru
      have hnx : nxV h.pat i = .tup [.bool true, .int .i64 i, .int .i32 c.toNat] := by unfold nxV; rw [if_pos hi, hru]
      have hnp : nxP h.pat i = i + 1 := by unfold nxP; rw [if_pos hi, hru]
      have htk : h.pat.take (i + 1) = h.pat.take i ++ [c] := by rw [List.take_add_one, hc, List.getD_eq_getElem?_getD, List.getElem?_eq_getElem hi]; rfl
      rw [hdr] at hp
      simp only [patD] at hp
      have hsa := ascii_drop hra (· == 32)
      have hsl := Nat.lt_of_le_of_lt (len_drop rest (· == 32)) hrl
      change okText (skipD rest) at hsa
      change (skipD rest).length < 4294967281 at hsl
      refine au2 @hnx @hnp ?_
      repeat intro K hK
      refine wr ?_
      refine awp_cond rfl (fun _ => ?_) (fun h => by simp at h)
      refine au2 @hnx @hnp ?_
      repeat intro K hK
      refine wr ?_
      refine ca (skip_ok rest)  ?_
      refine au  ?_
      repeat intro K hK
      refine wr ?_
      have hcr := cr_ok [44, 40, 41] c hca
      have hcnt : (h.pat.take (i + 1)).count 114 = k + (if c = 114 then 1 else 0) := by
        rw [htk, List.count_append, ← hk]
        by_cases e : c = 114
        · subst e; simp
        · simp [e]
      have hcle : (h.pat.take (i + 1)).count 114 ≤ h.pat.count 114 := (List.take_sublist _ _).count_le 114
      by_cases hs3 : c = 44 ∨ c = 40 ∨ c = 41
      · have hct : ([44, 40, 41] : Str).contains c = true := by rcases hs3 with rfl | rfl | rfl <;> decide
        have hc4 : c ≠ 114 := by rcases hs3 with rfl | rfl | rfl <;> decide
        rw [if_pos hs3] at hp
        rw [hct] at hcr
        rw [if_neg hc4, Nat.add_zero] at hcnt
        have hec : encS (c.toNat : Int) = [c] := by unfold encS; rw [if_pos (by omega)]; simp
        refine ca (hcr)  ?_
        refine au  ?_
        repeat intro K hK
        refine wr ?_
        refine awp_cond rfl (fun _ => ?_) (fun h => by simp at h)
        refine au1 @hec ?_
        repeat intro K hK
        refine wr ?_
        refine ca (cutp_ok (skipD rest) [c])  ?_
        refine au  ?_
        repeat intro K hK
        refine wr ?_
        cases hh : Lib.hasPrefix (skipD rest) [c] with
        | false =>
          rw [hh] at hp
          simp only [Bool.false_eq_true, if_false] at hp
          have hz : psRes s = (zeroL, false) := by simp only [psRes, hf, hp]
          refine awp_cond rfl (fun _ => ?_) (fun h => by simp at h)
          refine au  ?_
          repeat intro K hK
          refine wr ?_
          refine awp_fzA ?_
          refine awp_ret ?_
          simp [hz, zeroL]
        | true =>
          rw [hh, if_pos rfl] at hp
          refine awp_cond rfl (fun h => by simp at h) (fun _ => ?_)
          refine au  ?_
          repeat intro K hK
          refine wr ?_
          refine again_of (h.pat.length - (i + 1)) ((fun (i : Nat) (rest : Str) (k : Nat) (r0 r1 r2 num : Int) (nm : Str) => (⟨103, [(35, .itr 5), (4, .ptr 0 13 0 0), (10, .ptr 4 13 0 0), (8, .ptr 3 5 0 0), (7, .str rest), (11, .int .i64 k)], 6, [(0, some ⟨116, 13, true, false, [[.int .i64 0, .int .u32 0, .int .i64 0, .int .i64 0, .str [], .int .i64 0, .bool false, .poi, .int .i64 0, .int .i64 0, .int .i64 0, .int .i64 0, .str []]]⟩), (3, some ⟨111, 5, true, false, [h.row]⟩), (4, some ⟨116, 13, true, false, [[.int .i64 0, .int .u32 0, .int .i64 h.words, .int .i64 h.op, .str h.pat, .int .i64 h.words, .bool h.rel, .fn h.code, .int .i64 r0, .int .i64 r1, .int .i64 r2, .int .i64 num, .str nm]]⟩), (5, some ⟨0, 2, false, false, [[.str h.pat, .int .i64 i]]⟩)], 0⟩ : St)) (i + 1) (Lib.trimPrefix (skipD rest) [c]) k r0 r1 r2 num nm) (id) (by omega) (by rw [hI]; exact ⟨i + 1, (Lib.trimPrefix (skipD rest) [c]), k, r0, r1, r2, num, nm, by omega, rfl, ⟨hp, hcnt.symm, ascii_trim hsa _, Nat.lt_of_le_of_lt (trim_len _ _) hsl⟩, rfl⟩) ⟨rfl, ?_, ?_, ?_, by simp⟩
          · simp [leT, ltV, lt1, ren, ren1, wrap_i64_in (n := (i : Int) + 1) (by omega) (by omega), hnp]
          · simp [leO, lt1, ren1, hnp]
          · (simp; try omega)
      · have hct : ([44, 40, 41] : Str).contains c = false := by
          rw [Bool.eq_false_iff]
          intro e
          apply hs3
          simpa using e
        rw [if_neg hs3] at hp
        rw [hct] at hcr
        refine ca (hcr)  ?_
        refine au  ?_
        repeat intro K hK
        refine wr ?_
        refine awp_cond rfl (fun h => by simp at h) (fun _ => ?_)
        refine au  ?_
        repeat intro K hK
        refine wr ?_
        refine ca (cutWord_ok (skipD rest) hsa hsl)  ?_
        refine au  ?_
        repeat intro K hK
        refine wr ?_
        have hta := ascii_drop hsa (fun c => !sepB c)
        have htl := Nat.lt_of_le_of_lt (len_drop (skipD rest) (fun c => !sepB c)) hsl
        by_cases h4 : c = 114
        · rw [if_pos h4] at hp
          rw [if_pos h4] at hcnt
          have hk3 : k = 0 ∨ k = 1 ∨ k = 2 := by omega
          subst h4
          have w1 : IntKind.i64.wrap 1 = 1 := by decide
          have w2 : IntKind.i64.wrap 2 = 2 := by decide
          have w3 : IntKind.i64.wrap 3 = 3 := by decide
          rcases hk3 with rfl | rfl | rfl
          · refine awp_cond rfl (fun _ => ?_) (fun h => by simp at h)
            refine au  ?_
            repeat intro K hK
            refine wr ?_
            refine ca (parseReg_ok (wordD (skipD rest)))  ?_
            cases hr : regN (wordD (skipD rest)) with
            | none =>
              rw [hr] at hp
              simp only at hp
              have hz : psRes s = (zeroL, false) := by simp only [psRes, hf, hp]
              refine au1 @hr ?_
              repeat intro K hK
              refine wr ?_
              simp
              refine au1 @hr ?_
              repeat intro K hK
              refine wr ?_
              refine awp_cond rfl (fun _ => ?_) (fun h => by simp at h)
              refine au  ?_
              repeat intro K hK
              refine wr ?_
              refine awp_fzA ?_
              refine awp_ret ?_
              simp [hz, zeroL]
            | some q =>
              rw [hr] at hp
              simp only at hp
              refine au1 @hr ?_
              repeat intro K hK
              refine wr ?_
              simp
              refine au4 @hr @w1 @w2 @w3 ?_
              repeat intro K hK
              refine wr ?_
              refine awp_cond rfl (fun h => by simp at h) (fun _ => ?_)
              refine au  ?_
              repeat intro K hK
              refine wr ?_
              refine again_of (h.pat.length - (i + 1)) ((fun (i : Nat) (rest : Str) (k : Nat) (r0 r1 r2 num : Int) (nm : Str) => (⟨103, [(35, .itr 5), (4, .ptr 0 13 0 0), (10, .ptr 4 13 0 0), (8, .ptr 3 5 0 0), (7, .str rest), (11, .int .i64 k)], 6, [(0, some ⟨116, 13, true, false, [[.int .i64 0, .int .u32 0, .int .i64 0, .int .i64 0, .str [], .int .i64 0, .bool false, .poi, .int .i64 0, .int .i64 0, .int .i64 0, .int .i64 0, .str []]]⟩), (3, some ⟨111, 5, true, false, [h.row]⟩), (4, some ⟨116, 13, true, false, [[.int .i64 0, .int .u32 0, .int .i64 h.words, .int .i64 h.op, .str h.pat, .int .i64 h.words, .bool h.rel, .fn h.code, .int .i64 r0, .int .i64 r1, .int .i64 r2, .int .i64 num, .str nm]]⟩), (5, some ⟨0, 2, false, false, [[.str h.pat, .int .i64 i]]⟩)], 0⟩ : St)) (i + 1) (afterD (skipD rest)) 1 q r1 r2 num nm) (id) (by omega) (by rw [hI]; exact ⟨i + 1, (afterD (skipD rest)), 1, q, r1, r2, num, nm, by omega, rfl, ⟨hp, hcnt.symm, hta, htl⟩, rfl⟩) ⟨rfl, ?_, ?_, ?_, by simp⟩
              · simp [leT, ltV, lt1, ren, ren1, wrap_i64_in (n := (i : Int) + 1) (by omega) (by omega), hnp, w1, w2, w3]
              · simp [leO, lt1, ren1, hnp, w1, w2, w3]
              · (simp; try omega)
          · refine awp_cond rfl (fun _ => ?_) (fun h => by simp at h)
            refine au  ?_
            repeat intro K hK
            refine wr ?_
            refine ca (parseReg_ok (wordD (skipD rest)))  ?_
            cases hr : regN (wordD (skipD rest)) with
            | none =>
              rw [hr] at hp
              simp only at hp
              have hz : psRes s = (zeroL, false) := by simp only [psRes, hf, hp]
              refine au1 @hr ?_
              repeat intro K hK
              refine wr ?_
              simp
              refine au1 @hr ?_
              repeat intro K hK
              refine wr ?_
              refine awp_cond rfl (fun _ => ?_) (fun h => by simp at h)
              refine au  ?_
              repeat intro K hK
              refine wr ?_
              refine awp_fzA ?_
              refine awp_ret ?_
              simp [hz, zeroL]
            | some q =>
              rw [hr] at hp
              simp only at hp
              refine au1 @hr ?_
              repeat intro K hK
              refine wr ?_
              simp
              refine au4 @hr @w1 @w2 @w3 ?_
              repeat intro K hK
              refine wr ?_
              refine awp_cond rfl (fun h => by simp at h) (fun _ => ?_)
              refine au  ?_
              repeat intro K hK
              refine wr ?_
              refine again_of (h.pat.length - (i + 1)) ((fun (i : Nat) (rest : Str) (k : Nat) (r0 r1 r2 num : Int) (nm : Str) => (⟨103, [(35, .itr 5), (4, .ptr 0 13 0 0), (10, .ptr 4 13 0 0), (8, .ptr 3 5 0 0), (7, .str rest), (11, .int .i64 k)], 6, [(0, some ⟨116, 13, true, false, [[.int .i64 0, .int .u32 0, .int .i64 0, .int .i64 0, .str [], .int .i64 0, .bool false, .poi, .int .i64 0, .int .i64 0, .int .i64 0, .int .i64 0, .str []]]⟩), (3, some ⟨111, 5, true, false, [h.row]⟩), (4, some ⟨116, 13, true, false, [[.int .i64 0, .int .u32 0, .int .i64 h.words, .int .i64 h.op, .str h.pat, .int .i64 h.words, .bool h.rel, .fn h.code, .int .i64 r0, .int .i64 r1, .int .i64 r2, .int .i64 num, .str nm]]⟩), (5, some ⟨0, 2, false, false, [[.str h.pat, .int .i64 i]]⟩)], 0⟩ : St)) (i + 1) (afterD (skipD rest)) 2 r0 q r2 num nm) (id) (by omega) (by rw [hI]; exact ⟨i + 1, (afterD (skipD rest)), 2, r0, q, r2, num, nm, by omega, rfl, ⟨hp, hcnt.symm, hta, htl⟩, rfl⟩) ⟨rfl, ?_, ?_, ?_, by simp⟩
              · simp [leT, ltV, lt1, ren, ren1, wrap_i64_in (n := (i : Int) + 1) (by omega) (by omega), hnp, w1, w2, w3]
              · simp [leO, lt1, ren1, hnp, w1, w2, w3]
              · (simp; try omega)
          · refine awp_cond rfl (fun _ => ?_) (fun h => by simp at h)
            refine au  ?_
            repeat intro K hK
            refine wr ?_
            refine ca (parseReg_ok (wordD (skipD rest)))  ?_
            cases hr : regN (wordD (skipD rest)) with
            | none =>
              rw [hr] at hp
              simp only at hp
              have hz : psRes s = (zeroL, false) := by simp only [psRes, hf, hp]
              refine au1 @hr ?_
              repeat intro K hK
              refine wr ?_
              simp
              refine au1 @hr ?_
              repeat intro K hK
              refine wr ?_
              refine awp_cond rfl (fun _ => ?_) (fun h => by simp at h)
              refine au  ?_
              repeat intro K hK
              refine wr ?_
              refine awp_fzA ?_
              refine awp_ret ?_
              simp [hz, zeroL]
            | some q =>
              rw [hr] at hp
              simp only at hp
              refine au1 @hr ?_
              repeat intro K hK
              refine wr ?_
              simp
              refine au4 @hr @w1 @w2 @w3 ?_
              repeat intro K hK
              refine wr ?_
              refine awp_cond rfl (fun h => by simp at h) (fun _ => ?_)
              refine au  ?_
              repeat intro K hK
              refine wr ?_
              refine again_of (h.pat.length - (i + 1)) ((fun (i : Nat) (rest : Str) (k : Nat) (r0 r1 r2 num : Int) (nm : Str) => (⟨103, [(35, .itr 5), (4, .ptr 0 13 0 0), (10, .ptr 4 13 0 0), (8, .ptr 3 5 0 0), (7, .str rest), (11, .int .i64 k)], 6, [(0, some ⟨116, 13, true, false, [[.int .i64 0, .int .u32 0, .int .i64 0, .int .i64 0, .str [], .int .i64 0, .bool false, .poi, .int .i64 0, .int .i64 0, .int .i64 0, .int .i64 0, .str []]]⟩), (3, some ⟨111, 5, true, false, [h.row]⟩), (4, some ⟨116, 13, true, false, [[.int .i64 0, .int .u32 0, .int .i64 h.words, .int .i64 h.op, .str h.pat, .int .i64 h.words, .bool h.rel, .fn h.code, .int .i64 r0, .int .i64 r1, .int .i64 r2, .int .i64 num, .str nm]]⟩), (5, some ⟨0, 2, false, false, [[.str h.pat, .int .i64 i]]⟩)], 0⟩ : St)) (i + 1) (afterD (skipD rest)) 3 r0 r1 q num nm) (id) (by omega) (by rw [hI]; exact ⟨i + 1, (afterD (skipD rest)), 3, r0, r1, q, num, nm, by omega, rfl, ⟨hp, hcnt.symm, hta, htl⟩, rfl⟩) ⟨rfl, ?_, ?_, ?_, by simp⟩
              · simp [leT, ltV, lt1, ren, ren1, wrap_i64_in (n := (i : Int) + 1) (by omega) (by omega), hnp, w1, w2, w3]
              · simp [leO, lt1, ren1, hnp, w1, w2, w3]
              · (simp; try omega)
        · rw [if_neg h4] at hp
          rw [if_neg h4, Nat.add_zero] at hcnt
          have hne : ¬ ((c.toNat : Int) = 114) := by
            intro e
            apply h4
            have : c.toNat = (114 : UInt8).toNat := by simp; omega
            exact UInt8.toNat_inj.1 this
          have hb : (((c.toNat : Nat) : Int) == 120) = decide (c = 120) := by
            rw [Bool.eq_iff_iff]
            simp only [beq_iff_eq, decide_eq_true_eq]
            constructor
            · intro e
              have : c.toNat = (120 : UInt8).toNat := by simp; omega
              exact UInt8.toNat_inj.1 this
            · rintro rfl; rfl
          have hpv := parseVal_ok (wordD (skipD rest)) (decide (c = 120))
          refine awp_cond rfl (fun h => by simp [hne] at h) (fun _ => ?_)
          refine au1 @hb ?_
          repeat intro K hK
          refine wr ?_
          refine ca (hpv)  ?_
          cases hv : pvD (wordD (skipD rest)) (decide (c = 120)) with
          | none =>
            rw [hv] at hp
            simp only at hp
            have hz : psRes s = (zeroL, false) := by simp only [psRes, hf, hp]
            refine au1 @hv ?_
            repeat intro K hK
            refine wr ?_
            refine awp_cond rfl (fun _ => ?_) (fun h => by simp at h)
            refine au  ?_
            repeat intro K hK
            refine wr ?_
            refine awp_fzA ?_
            refine awp_ret ?_
            simp [hz, zeroL]
          | some v =>
            obtain ⟨vn, vs⟩ := v
            rw [hv] at hp
            simp only at hp
            refine au1 @hv ?_
            repeat intro K hK
            refine wr ?_
            refine awp_cond rfl (fun h => by simp at h) (fun _ => ?_)
            refine au  ?_
            repeat intro K hK
            refine wr ?_
            refine again_of (h.pat.length - (i + 1)) ((fun (i : Nat) (rest : Str) (k : Nat) (r0 r1 r2 num : Int) (nm : Str) => (⟨103, [(35, .itr 5), (4, .ptr 0 13 0 0), (10, .ptr 4 13 0 0), (8, .ptr 3 5 0 0), (7, .str rest), (11, .int .i64 k)], 6, [(0, some ⟨116, 13, true, false, [[.int .i64 0, .int .u32 0, .int .i64 0, .int .i64 0, .str [], .int .i64 0, .bool false, .poi, .int .i64 0, .int .i64 0, .int .i64 0, .int .i64 0, .str []]]⟩), (3, some ⟨111, 5, true, false, [h.row]⟩), (4, some ⟨116, 13, true, false, [[.int .i64 0, .int .u32 0, .int .i64 h.words, .int .i64 h.op, .str h.pat, .int .i64 h.words, .bool h.rel, .fn h.code, .int .i64 r0, .int .i64 r1, .int .i64 r2, .int .i64 num, .str nm]]⟩), (5, some ⟨0, 2, false, false, [[.str h.pat, .int .i64 i]]⟩)], 0⟩ : St)) (i + 1) (afterD (skipD rest)) k r0 r1 r2 vn vs) (id) (by omega) (by rw [hI]; exact ⟨i + 1, (afterD (skipD rest)), k, r0, r1, r2, vn, vs, by omega, rfl, ⟨hp, hcnt.symm, hta, htl⟩, rfl⟩) ⟨rfl, ?_, ?_, ?_, by simp⟩
            · simp [leT, ltV, lt1, ren, ren1, wrap_i64_in (n := (i : Int) + 1) (by omega) (by omega), hnp]
            · simp [leO, lt1, ren1, hnp]
            · (simp; try omega)
    · have hil : i = h.pat.length := by omega
      subst hil
      have hnx : nxV h.pat h.pat.length = .tup [.bool false] := by unfold nxV; rw [if_neg (by omega)]
      have hnp : nxP h.pat h.pat.length = h.pat.length := by unfold nxP; rw [if_neg (by omega)]
      rw [List.drop_length] at hp
      simp only [patD] at hp
      refine au2 @hnx @hnp ?_
      repeat intro K hK
      refine wr ?_
      refine awp_cond rfl (fun h => by simp at h) (fun _ => ?_)
      refine au2 @hnx @hnp ?_
      repeat intro K hK
      refine wr ?_
      have hres : psRes s = (if h.pat = [110] ∧ (num < 0 ∨ 1024 < num) then (zeroL, false) else ((psLine h (if h.pat = [110] then num else h.words) (r0, r1, r2) (num, nm)).row, decide (skipD rest = []))) := by simp only [psRes, hf, hp]
      by_cases hn : h.pat = [110]
      · refine awp_cond rfl (fun _ => ?_) (fun h => by simp [hn] at h)
        refine au  ?_
        repeat intro K hK
        refine wr ?_
        refine awp_cond rfl (fun hr => ?_) (fun hr => ?_)
        · simp at hr
          have hz : psRes s = (zeroL, false) := by rw [hres, if_pos ⟨hn, by omega⟩]
          refine au  ?_
          repeat intro K hK
          refine wr ?_
          refine awp_fzA ?_
          refine awp_ret ?_
          simp [hz, zeroL]
        · simp at hr
          have hz : psRes s = ((psLine h num (r0, r1, r2) (num, nm)).row, decide (skipD rest = [])) := by rw [hres, if_neg (fun e => by omega), if_pos hn]
          refine au  ?_
          repeat intro K hK
          refine wr ?_
          refine awp_planI ([0, 1, 2, 3, 4, 5] : List Nat) ([[], [], [1], [1, 2], [0, 1, 2], [0, 1, 2, 3, 4]] : List (List Nat)) ([(5, ([[], [], [1], [1, 2], [0, 1, 2]], [(0, 2)])), (1, ([], []))] : List (Nat × List (List Nat) × List (Nat × Nat))) (by kernel_rfl) (by kernel_rfl) (by kernel_rfl) ?_
          refine af  ?_
          repeat intro K hK
          refine wr ?_
          first | refine .inl ⟨0, _, skip_ok rest, ?_⟩ | refine .inl ⟨0, _, Meets.wk (skip_ok rest) (by simp), ?_⟩ | refine ⟨0, _, skip_ok rest, ?_⟩ | refine ⟨0, _, Meets.wk (skip_ok rest) (by simp), ?_⟩
          simp [aftC, aftE]
          refine af  ?_
          repeat intro K hK
          refine wr ?_
          refine awp_fzA ?_
          refine awp_ret ?_
          simp [hz, psLine]
          cases skipD rest <;> simp
      · have hz : psRes s = ((psLine h h.words (r0, r1, r2) (num, nm)).row, decide (skipD rest = [])) := by rw [hres, if_neg (fun e => hn e.1), if_neg hn]
        refine awp_cond rfl (fun h => by simp [hn] at h) (fun _ => ?_)
        refine af  ?_
        repeat intro K hK
        refine wr ?_
        refine awp_planI ([0, 1, 2, 3, 4, 5] : List Nat) ([[], [], [1], [1, 2], [0, 1, 2], [0, 1, 2, 3, 4]] : List (List Nat)) ([(5, ([[], [], [1], [1, 2], [0, 1, 2]], [(0, 2)])), (1, ([], []))] : List (Nat × List (List Nat) × List (Nat × Nat))) (by kernel_rfl) (by kernel_rfl) (by kernel_rfl) ?_
        refine af  ?_
        repeat intro K hK
        refine wr ?_
        first | refine .inl ⟨0, _, skip_ok rest, ?_⟩ | refine .inl ⟨0, _, Meets.wk (skip_ok rest) (by simp), ?_⟩ | refine ⟨0, _, skip_ok rest, ?_⟩ | refine ⟨0, _, Meets.wk (skip_ok rest) (by simp), ?_⟩
        simp [aftC, aftE]
        refine af  ?_
        repeat intro K hK
        refine wr ?_
        refine awp_fzA ?_
        refine awp_ret ?_
        simp [hz, psLine]
        cases skipD rest <;> simp
end Go.Proofs.YtjlbpkokdlggiaaDoor
