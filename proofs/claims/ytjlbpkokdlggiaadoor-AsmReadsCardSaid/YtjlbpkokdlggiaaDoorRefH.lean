/- The document's assembler: the first pass. (Numbers of seat r2.D.) -/
import Derived.Test.YtjlbpkokdlggiaaDoorRefG
namespace Go.Proofs.YtjlbpkokdlggiaaDoor
open Go.Ab Go.RowKit
set_option linter.unusedSimpArgs false
set_option maxRecDepth 100000
structure PrR where
  syms : List (Str × Int)
  sts : List StD
  at' : Int
def stsV (l : List StD) : List (List V) := l.map StD.row
@[simp] theorem stsV_nil : stsV [] = [] := rfl
theorem stsV_len (l : List StD) : (stsV l).length = l.length := by simp [stsV]
theorem stsV_one (l : List StD) (s : StD) (n a : Int) : stsV l ++ [[.str s.what, .int .i64 s.op, .sl 3 false (argsV s.l), .int .i64 n, .int .i64 a, .int .i64 s.size]] = stsV (l ++ [{ s with line := n, at' := a }]) := by simp [stsV]
abbrev prR0 : PrR := ⟨[], [], 0⟩
def labS (lb : Str) (S : List (Str × Int)) (a : Int) : Option (List (Str × Int)) :=
  if lb = [] then some S else if (findL lb S).isSome = true then none else some (S ++ [(lb, 4 * a)])
def addS (st : Option StD) (S : List (Str × Int)) (p : PrR) (n : Int) : PrR := match st with
  | none => ⟨S, p.sts, p.at'⟩
  | some s => ⟨S, p.sts ++ [{ s with line := n, at' := p.at' }], p.at' + s.size⟩
def redF : List Str → Int → PrR → Except (Int × Int) PrR
  | [], _, p => .ok p
  | t :: ts, n, p => match parR t with
    | none => .error (301, n)
    | some (lb, st) => match labS lb p.syms p.at' with
      | none => .error (303, n)
      | some S => if 1024 < (addS st S p n).at' then .error (305, n) else redF ts (n + 1) (addS st S p n)
def readR (s : Str) : Except (Int × Int) PrR := if 8192 < s.length then .error (300, 0) else redF (linesR s) 1 ⟨[], [], 0⟩
def readV (s : Str) : V := match readR s with
  | .error (e, n) => .tup [.sl 2 true [], .sl 6 true [], .st [.int .i64 e, .int .i64 n]]
  | .ok p => .tup [.sl 2 false (symsV p.syms), .sl 6 false (stsV p.sts), .st [.int .i64 0, .int .i64 0]]
theorem pat_ne {w : Str} {p : Str} (h : patR w = some p) : w ≠ [] := by
  rintro rfl
  rw [show patR [] = none from by decide +kernel] at h
  simp at h
theorem fin_ok {w : Str} {a : List ArgD} {st : StD} (h : finR w a = some st) : st.what = w ∧ st.line = 0 ∧ st.at' = 0 ∧ 0 ≤ st.size ∧ st.size ≤ 1024 := by
  unfold finR at h
  split at h
  · simp only [Option.some.injEq] at h; subst h; exact ⟨rfl, rfl, rfl, by simp only; omega, by simp only; omega⟩
  · split at h
    · split at h
      · simp at h
      · rename_i q
        simp only [Option.some.injEq] at h; subst h
        exact ⟨rfl, rfl, rfl, by simp only; omega, by simp only; omega⟩
    · simp only [Option.some.injEq] at h; subst h; exact ⟨rfl, rfl, rfl, by simp only; omega, by simp only; omega⟩
theorem par_ok {t lb : Str} {st : StD} (h : parR t = some (lb, some st)) : st.what ≠ [] ∧ 0 ≤ st.size ∧ st.size ≤ 1024 := by
  unfold parR at h
  split at h
  · simp at h
  · split at h
    · simp at h
    · rename_i r _
      split at h
      · simp at h
      · obtain ⟨st', e, h'⟩ := Option.map_eq_some_iff.1 h
        simp only [Prod.mk.injEq, Option.some.injEq] at h'
        obtain ⟨_, rfl⟩ := h'
        unfold bodR at e
        split at e
        · simp at e
        · rename_i p hp
          split at e
          · split at e
            · simp at e
            · obtain ⟨f1, _, _, f4, f5⟩ := fin_ok e
              exact ⟨by rw [f1]; exact pat_ne hp, f4, f5⟩
          · simp at e
theorem linesR_fact (s : Str) : (linesR s).length ≤ s.length + 1 ∧ ∀ t ∈ linesR s, t.length ≤ s.length := by
  have h1 := lines_len s
  have h2 := lines_mem s
  obtain ⟨h, tl, e⟩ := lines_cons s
  have hne : linesD s ≠ [] := by rw [e]; simp
  have hg : (linesD s).getLast?.getD [] = (linesD s).getLast hne := by rw [List.getLast?_eq_some_getLast hne]; rfl
  have hsub : ∀ t ∈ linesR s, t ∈ linesD s := by
    intro t ht
    unfold linesR at ht
    rcases List.mem_append.1 ht with q | q
    · exact (List.dropLast_sublist _).subset q
    · rw [hg] at q
      split at q
      · simp at q
      · simp at q; rw [q]; exact List.getLast_mem hne
  refine ⟨?_, fun t ht => (h2 t (hsub t ht)).1⟩
  have hdl : (linesD s).dropLast.length + 1 = (linesD s).length := by rw [List.length_dropLast]; have := List.length_pos_iff.2 hne; omega
  unfold linesR
  split <;> simp <;> omega
set_option maxHeartbeats 32000000 in
theorem read_ok (s : Str) (hsl : s.length ≤ 1000000) : Meets Tryd.prog 64 [.str s] (readV s) := by
  refine Meets.of Tryd.func64 rfl (by kernel_rfl) rfl ?_
  simp only [Tryd.ntmps64, St.start, argT]
  refine au  ?_
  repeat intro K hK
  refine wr ?_
  refine awp_cond rfl (fun h => ?_) (fun h => ?_)
  · simp at h
    have hv : readV s = .tup [.sl 2 true [], .sl 6 true [], .st [.int .i64 300, .int .i64 0]] := by unfold readV readR; rw [if_pos (by omega)]
    refine au  ?_
    repeat intro K hK
    refine wr ?_
    refine awp_fzA ?_
    refine awp_ret ?_
    simp [hv]
  · simp at h
    have hr0 : readR s = redF (linesR s) 1 ⟨[], [], 0⟩ := by unfold readR; rw [if_neg (by omega)]
    refine au  ?_
    repeat intro K hK
    refine wr ?_
    refine ca (lines_ok s hsl)  ?_
    refine au  ?_
    repeat intro K hK
    refine wr ?_
    have hL : (linesR s).length ≤ s.length + 1 ∧ ∀ t ∈ linesR s, t.length ≤ s.length := linesR_fact s
    generalize linesR s = L at hr0 hL ⊢
    refine awp_nilOwn 5 53 2 (by decide) rfl ?_
    refine awp_nilOwn 6 123 6 (by decide) rfl ?_
    simp
    obtain ⟨I, hI⟩ : ∃ I : Nat → St → Prop, I = (fun kk ss => ∃ (i : Nat) (p : PrR), i ≤ L.length ∧ kk = L.length - i ∧ (redF L 1 ⟨[], [], 0⟩ = redF (L.drop i) ((i : Int) + 1) p ∧ 0 ≤ p.at' ∧ p.at' ≤ 1024 ∧ p.sts.length ≤ i ∧ p.syms.length ≤ i) ∧ ss = ⟨85, [(9, .int .i64 i), (5, .own 2), (7, .int .i64 p.at'), (6, .own 3), (8, .own 1), (4, .ptr 0 2 0 0)], 4, [(0, some ⟨45, 2, true, false, [[.int .i64 0, .int .i64 0]]⟩), (1, some ⟨9, 1, false, false, strs L⟩), (2, some ⟨53, 2, false, false, symsV p.syms⟩), (3, some ⟨123, 6, false, false, stsV p.sts⟩)], 0⟩) := ⟨_, rfl⟩
    refine awp_loopA I (k0 := L.length) (st0 := (fun (i : Nat) (p : PrR) => (⟨85, [(9, .int .i64 i), (5, .own 2), (7, .int .i64 p.at'), (6, .own 3), (8, .own 1), (4, .ptr 0 2 0 0)], 4, [(0, some ⟨45, 2, true, false, [[.int .i64 0, .int .i64 0]]⟩), (1, some ⟨9, 1, false, false, strs L⟩), (2, some ⟨53, 2, false, false, symsV p.syms⟩), (3, some ⟨123, 6, false, false, stsV p.sts⟩)], 0⟩ : St)) 0 prR0) (ρ0 := id) ⟨rfl, by simp [leT, ltV, lt1, ren, ren1], by simp [leO, lt1, ren1], by simp, by simp⟩ (by rw [hI]; exact ⟨0, prR0, by simp, by simp, by simp, rfl⟩) ?_
    intro kk ss hIk _
    rw [hI] at hIk
    obtain ⟨i, p, hi, rfl, hx, rfl⟩ := hIk
    obtain ⟨hx1, hx2, hx3, hx4, hx5⟩ := hx
    obtain ⟨S, T, w⟩ := p
    simp only at hx1 hx2 hx3 hx4 hx5 ⊢
    have hsl := sstr_len L
    have hSl := symsV_len S
    have hTl := stsV_len T
    have hw : IntKind.i64.wrap ((i : Int) + 1) = (i : Int) + 1 := wrap_i64_in (by omega) (by omega)
    refine au1 @hsl ?_
    repeat intro K hK
    refine wr ?_
    by_cases hi' : i < L.length
    · obtain ⟨t, ht⟩ : ∃ t, t = L[i] := ⟨_, rfl⟩
      have htm : t ∈ L := by rw [ht]; exact List.getElem_mem hi'
      have htl := hL.2 t htm
      have hgs : (strs L)[i]? = some [.str t] := by rw [ht]; exact strs_at L i hi'
      have hdr : L.drop i = t :: L.drop (i + 1) := by rw [List.drop_eq_getElem_cons hi', ht]
      rw [hdr, redF] at hx1
      refine awp_cond rfl (fun _ => ?_) (fun h => by simp [hi'] at h)
      refine au2 @hgs @hsl ?_
      repeat intro K hK
      refine wr ?_
      have hpt := parsed_ok t (by omega)
      unfold parV at hpt
      cases hpr : parR t with
      | none =>
        rw [hpr] at hx1 hpt
        have hv : readV s = .tup [.sl 2 true [], .sl 6 true [], .st [.int .i64 301, .int .i64 ((i : Int) + 1)]] := by unfold readV; rw [hr0, hx1]
        refine ca (hpt)  ?_
        refine au  ?_
        repeat intro K hK
        refine wr ?_
        refine awp_cond rfl (fun _ => ?_) (fun h => by simp at h)
        refine au1 @hw ?_
        repeat intro K hK
        refine wr ?_
        refine awp_fzA ?_
        refine awp_ret ?_
        simp [hv]
      | some z =>
        obtain ⟨lb, st⟩ := z
        rw [hpr] at hx1
        simp only at hx1
        cases st with
        | none =>
          rw [hpr] at hpt
          simp only at hpt
          refine ca (hpt)  ?_
          refine au  ?_
          repeat intro K hK
          refine wr ?_
          refine awp_cond rfl (fun h => by simp at h) (fun _ => ?_)
          iterate 3 (first | (with_reducible first | refine awp_seqK fun K hK => ?_ | refine awp_block ?_) | ((with_reducible first | refine awp_region (by kernel_rfl) ?_ | refine gcall_tt ?_ | refine gcall_ff ?_ | refine gcall_tf ?_ | refine gcall_ft ?_ | refine awp_skip ?_ | refine awp_exit ?_); simp) | ((repeat ((fail_if_success ((with_reducible refine hK _ ?_))); clear hK)); (with_reducible refine hK _ ?_); clear hK) | refine And.intro (by first | omega | assumption | grind) ?_)
          refine join_of (α := List (Str × Int)) (fun q => (⟨85, [(5, .own 2), (11, .ptr 4 6 0 0), (9, .int .i64 i), (7, .int .i64 w), (6, .own 3), (8, .own 1), (4, .ptr 0 2 0 0)], 5, [(0, some ⟨45, 2, true, false, [[.int .i64 0, .int .i64 0]]⟩), (1, some ⟨9, 1, false, false, strs L⟩), (2, some ⟨53, 2, false, false, symsV q⟩), (3, some ⟨123, 6, false, false, stsV T⟩), (4, some ⟨123, 6, true, false, [[.str [], .int .i64 0, .sl 0 true [], .int .i64 0, .int .i64 0, .int .i64 0]]⟩)], 0⟩ : St)) (fun q => labS lb S w = some q ∧ q.length ≤ i + 1) hK (fun q hxhA => ?_) (fun hA => ?_)
          all_goals clear hK
          · have hx1' : redF L 1 prR0 = if 1024 < w then .error (305, (i : Int) + 1) else redF (L.drop (i + 1)) ((i : Int) + 1 + 1) ⟨q, T, w⟩ := by rw [hx1]; simp only [hxhA.1]; rfl
            rw [if_neg (by omega)] at hx1'
            have hgt : ¬ 1024 < w := by omega
            refine au  ?_
            repeat intro K hK
            refine wr ?_
            refine awp_cond rfl (fun h => by simp at h) (fun _ => ?_)
            refine au  ?_
            repeat intro K hK
            refine wr ?_
            refine awp_cond rfl (fun h => by simp [hgt] at h) (fun _ => ?_)
            refine au1 @hw ?_
            repeat intro K hK
            refine wr ?_
            refine again_of (L.length - (i + 1)) ((fun (i : Nat) (p : PrR) => (⟨85, [(9, .int .i64 i), (5, .own 2), (7, .int .i64 p.at'), (6, .own 3), (8, .own 1), (4, .ptr 0 2 0 0)], 4, [(0, some ⟨45, 2, true, false, [[.int .i64 0, .int .i64 0]]⟩), (1, some ⟨9, 1, false, false, strs L⟩), (2, some ⟨53, 2, false, false, symsV p.syms⟩), (3, some ⟨123, 6, false, false, stsV p.sts⟩)], 0⟩ : St)) (i + 1) (PrR.mk q T w)) (id) (by omega) (by rw [hI]; exact ⟨i + 1, (PrR.mk q T w), by omega, rfl, ⟨by rw [hx1']; rfl, hx2, hx3, by simp only; omega, hxhA.2⟩, rfl⟩) ⟨rfl, ?_, ?_, ?_, by simp⟩
            · simp [leT, ltV, lt1, ren, ren1, wrap_i64_in (n := (i : Int) + 1) (by omega) (by omega), hw]
            · simp [leO, lt1, ren1, hw]
            · (simp; try omega)
          refine au  ?_
          repeat intro K hK
          refine wr ?_
          by_cases hlb : lb = []
          · have hlS : labS lb S w = some S := by unfold labS; rw [if_pos hlb]
            refine awp_cond rfl (fun h => by simp [hlb] at h) (fun _ => ?_)
            refine au  ?_
            repeat intro K hK
            refine wr ?_
            refine hA S _ (fun x => if x = 4 then 12 else x) (⟨hlS, by omega⟩) ⟨rfl, ?_, ?_, ?_, by simp⟩
            · simp [leT, ltV, lt1, ren, ren1]
            · simp [leO, lt1, ren1]
            · (simp; try omega)
          · refine awp_cond rfl (fun _ => ?_) (fun h => by simp [hlb] at h)
            refine au  ?_
            repeat intro K hK
            refine wr ?_
            first | refine .inl ⟨1, _, address_ok S lb (by omega), ?_⟩ | refine ⟨1, _, address_ok S lb (by omega), ?_⟩
            simp [aftC, noX, noXc, noX1]
            refine au  ?_
            repeat intro K hK
            refine wr ?_
            by_cases hfd : (findL lb S).isSome = true
            · have hlS : labS lb S w = none := by unfold labS; rw [if_neg hlb, if_pos hfd]
              rw [hlS] at hx1
              have hv : readV s = .tup [.sl 2 true [], .sl 6 true [], .st [.int .i64 303, .int .i64 ((i : Int) + 1)]] := by unfold readV; rw [hr0, hx1]
              refine awp_cond rfl (fun _ => ?_) (fun h => by simp [hfd] at h)
              refine au1 @hw ?_
              repeat intro K hK
              refine wr ?_
              refine awp_fzA ?_
              refine awp_ret ?_
              simp [hv]
            · have hlS : labS lb S w = some (S ++ [(lb, 4 * w)]) := by unfold labS; rw [if_neg hlb, if_neg hfd]
              have hone := symsV_one S lb (4 * w)
              have hmx : (symsV S).length + 1 ≤ maxLen := by rw [hSl]; simp [maxLen]; omega
              have hm2 : (S.length + 1) * 24 ≤ 140737488355328 := by omega
              have hw4 : IntKind.i64.wrap (4 * w) = 4 * w := wrap_i64_in (by omega) (by omega)
              have hu4 : IntKind.u32.wrap (4 * w) = 4 * w := by rw [IntKind.wrap_u32]; omega
              refine awp_cond rfl (fun h => by simp [hfd] at h) (fun _ => ?_)
              refine au6 @hw4 @hu4 @hone @hmx @hm2 @hSl ?_
              repeat intro K hK
              refine wr ?_
              refine hA (S ++ [(lb, 4 * w)]) _ (fun x => if x = 4 then 12 else if x = 2 then 16 else x) (⟨hlS, by simp; omega⟩) ⟨rfl, ?_, ?_, ?_, by simp⟩
              · simp [leT, ltV, lt1, ren, ren1, hone, hw4, hu4]
              · simp [leO, lt1, ren1, hone, hw4, hu4]
              · (simp; try omega)
        | some st =>
          obtain ⟨hz1, hz2, hz3⟩ := par_ok hpr
          rw [hpr] at hpt
          simp only at hpt
          refine ca (hpt)  ?_
          refine au  ?_
          repeat intro K hK
          refine wr ?_
          refine awp_cond rfl (fun h => by simp at h) (fun _ => ?_)
          iterate 3 (first | (with_reducible first | refine awp_seqK fun K hK => ?_ | refine awp_block ?_) | ((with_reducible first | refine awp_region (by kernel_rfl) ?_ | refine gcall_tt ?_ | refine gcall_ff ?_ | refine gcall_tf ?_ | refine gcall_ft ?_ | refine awp_skip ?_ | refine awp_exit ?_); simp) | ((repeat ((fail_if_success ((with_reducible refine hK _ ?_))); clear hK)); (with_reducible refine hK _ ?_); clear hK) | refine And.intro (by first | omega | assumption | grind) ?_)
          refine join_of (α := List (Str × Int)) (fun q => (⟨85, [(5, .own 2), (11, .ptr 4 6 0 0), (9, .int .i64 i), (7, .int .i64 w), (6, .own 3), (8, .own 1), (4, .ptr 0 2 0 0)], 5, [(0, some ⟨45, 2, true, false, [[.int .i64 0, .int .i64 0]]⟩), (1, some ⟨9, 1, false, false, strs L⟩), (2, some ⟨53, 2, false, false, symsV q⟩), (3, some ⟨123, 6, false, false, stsV T⟩), (4, some ⟨123, 6, true, false, [[.str st.what, .int .i64 st.op, .sl 3 false (argsV st.l), .int .i64 st.line, .int .i64 st.at', .int .i64 st.size]]⟩)], 0⟩ : St)) (fun q => labS lb S w = some q ∧ q.length ≤ i + 1) hK (fun q hxhA => ?_) (fun hA => ?_)
          all_goals clear hK
          · have hx1' : redF L 1 prR0 = if 1024 < w + st.size then .error (305, (i : Int) + 1) else redF (L.drop (i + 1)) ((i : Int) + 1 + 1) ⟨q, T ++ [{ st with line := (i : Int) + 1, at' := w }], w + st.size⟩ := by rw [hx1]; simp only [hxhA.1]; rfl
            have hone2 := stsV_one T st ((i : Int) + 1) w
            have hmx2 : (stsV T).length + 1 ≤ maxLen := by rw [hTl]; simp [maxLen]; omega
            have hm6 : (T.length + 1) * 80 ≤ 140737488355328 := by omega
            have hws : IntKind.i64.wrap (w + st.size) = w + st.size := wrap_i64_in (by omega) (by omega)
            refine au  ?_
            repeat intro K hK
            refine wr ?_
            refine awp_cond rfl (fun _ => ?_) (fun h => by simp [hz1] at h)
            refine au6 @hw @hws @hone2 @hmx2 @hm6 @hTl ?_
            repeat intro K hK
            refine wr ?_
            by_cases hgt : 1024 < w + st.size
            · rw [if_pos hgt] at hx1'
              have hv : readV s = .tup [.sl 2 true [], .sl 6 true [], .st [.int .i64 305, .int .i64 ((i : Int) + 1)]] := by unfold readV; rw [hr0, hx1']
              refine awp_cond rfl (fun _ => ?_) (fun h => by simp [hgt] at h)
              refine au1 @hw ?_
              repeat intro K hK
              refine wr ?_
              refine awp_fzA ?_
              refine awp_ret ?_
              simp [hv]
            · rw [if_neg hgt] at hx1'
              refine awp_cond rfl (fun h => by simp [hgt] at h) (fun _ => ?_)
              refine au1 @hw ?_
              repeat intro K hK
              refine wr ?_
              refine again_of (L.length - (i + 1)) ((fun (i : Nat) (p : PrR) => (⟨85, [(9, .int .i64 i), (5, .own 2), (7, .int .i64 p.at'), (6, .own 3), (8, .own 1), (4, .ptr 0 2 0 0)], 4, [(0, some ⟨45, 2, true, false, [[.int .i64 0, .int .i64 0]]⟩), (1, some ⟨9, 1, false, false, strs L⟩), (2, some ⟨53, 2, false, false, symsV p.syms⟩), (3, some ⟨123, 6, false, false, stsV p.sts⟩)], 0⟩ : St)) (i + 1) (PrR.mk q (T ++ [{ st with line := (i : Int) + 1, at' := w }]) (w + st.size))) (fun x => if x = 3 then 6 else x) (by omega) (by rw [hI]; exact ⟨i + 1, (PrR.mk q (T ++ [{ st with line := (i : Int) + 1, at' := w }]) (w + st.size)), by omega, rfl, ⟨by rw [hx1']; rfl, by simp only; omega, by simp only; omega, by simp; omega, hxhA.2⟩, rfl⟩) ⟨rfl, ?_, ?_, ?_, by simp⟩
              · simp [leT, ltV, lt1, ren, ren1, wrap_i64_in (n := (i : Int) + 1) (by omega) (by omega), hw, hone2, hws]
              · simp [leO, lt1, ren1, hw, hone2, hws]
              · (simp; try omega)
          refine au  ?_
          repeat intro K hK
          refine wr ?_
          by_cases hlb : lb = []
          · have hlS : labS lb S w = some S := by unfold labS; rw [if_pos hlb]
            refine awp_cond rfl (fun h => by simp [hlb] at h) (fun _ => ?_)
            refine au  ?_
            repeat intro K hK
            refine wr ?_
            refine hA S _ (fun x => if x = 4 then 12 else x) (⟨hlS, by omega⟩) ⟨rfl, ?_, ?_, ?_, by simp⟩
            · simp [leT, ltV, lt1, ren, ren1]
            · simp [leO, lt1, ren1]
            · (simp; try omega)
          · refine awp_cond rfl (fun _ => ?_) (fun h => by simp [hlb] at h)
            refine au  ?_
            repeat intro K hK
            refine wr ?_
            first | refine .inl ⟨1, _, address_ok S lb (by omega), ?_⟩ | refine ⟨1, _, address_ok S lb (by omega), ?_⟩
            simp [aftC, noX, noXc, noX1]
            refine au  ?_
            repeat intro K hK
            refine wr ?_
            by_cases hfd : (findL lb S).isSome = true
            · have hlS : labS lb S w = none := by unfold labS; rw [if_neg hlb, if_pos hfd]
              rw [hlS] at hx1
              have hv : readV s = .tup [.sl 2 true [], .sl 6 true [], .st [.int .i64 303, .int .i64 ((i : Int) + 1)]] := by unfold readV; rw [hr0, hx1]
              refine awp_cond rfl (fun _ => ?_) (fun h => by simp [hfd] at h)
              refine au1 @hw ?_
              repeat intro K hK
              refine wr ?_
              refine awp_fzA ?_
              refine awp_ret ?_
              simp [hv]
            · have hlS : labS lb S w = some (S ++ [(lb, 4 * w)]) := by unfold labS; rw [if_neg hlb, if_neg hfd]
              have hone := symsV_one S lb (4 * w)
              have hmx : (symsV S).length + 1 ≤ maxLen := by rw [hSl]; simp [maxLen]; omega
              have hm2 : (S.length + 1) * 24 ≤ 140737488355328 := by omega
              have hw4 : IntKind.i64.wrap (4 * w) = 4 * w := wrap_i64_in (by omega) (by omega)
              have hu4 : IntKind.u32.wrap (4 * w) = 4 * w := by rw [IntKind.wrap_u32]; omega
              refine awp_cond rfl (fun h => by simp [hfd] at h) (fun _ => ?_)
              refine au6 @hw4 @hu4 @hone @hmx @hm2 @hSl ?_
              repeat intro K hK
              refine wr ?_
              refine hA (S ++ [(lb, 4 * w)]) _ (fun x => if x = 4 then 12 else if x = 2 then 16 else x) (⟨hlS, by simp; omega⟩) ⟨rfl, ?_, ?_, ?_, by simp⟩
              · simp [leT, ltV, lt1, ren, ren1, hone, hw4, hu4]
              · simp [leO, lt1, ren1, hone, hw4, hu4]
              · (simp; try omega)
    · have : i = L.length := by omega
      subst this
      rw [List.drop_length, redF] at hx1
      have hv : readV s = .tup [.sl 2 false (symsV S), .sl 6 false (stsV T), .st [.int .i64 0, .int .i64 0]] := by unfold readV; rw [hr0, hx1]
      refine awp_cond rfl (fun h => by simp at h) (fun _ => ?_)
      refine au  ?_
      repeat intro K hK
      refine wr ?_
      refine awp_fzA ?_
      refine awp_ret ?_
      simp [hv]
end Go.Proofs.YtjlbpkokdlggiaaDoor
