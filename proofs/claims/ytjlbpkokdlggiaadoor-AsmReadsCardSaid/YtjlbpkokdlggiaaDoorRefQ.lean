/- The two assemblers: labels, lines, the first pass. -/
import Derived.Test.YtjlbpkokdlggiaaDoorRefP
namespace Go.Proofs.YtjlbpkokdlggiaaDoor
open Go.Ab Go.RowKit
set_option linter.unusedSimpArgs false
set_option maxRecDepth 100000
def parP (u : Str) : Option (Str × Option LineD) :=
  if (clD u).2.2 = false then none else if (clD u).2.1 = [] then some ((clD u).1, none) else (psOpt (clD u).2.1).map fun l => ((clD u).1, some l)
def parT (l : List Tok) : Option (Str × Option StD) := match labR l with
  | none => none
  | some (lb, r) => if r = [] then some (lb, none) else (bodT r).map fun st => (lb, some st)
theorem parR_eq (s : Str) : parR s = (tokR true (befD s 59)).bind parT := by
  unfold parR
  cases tokR true (befD s 59) with
  | none => rfl
  | some l =>
    simp only [Option.bind_some, parT]
    cases labR l with
    | none => rfl
    | some q => rfl
def mapL (q : Str × Option StD) : Str × Option LineD := (q.1, q.2.map lineOf)
theorem labR_no : ∀ {l : List Tok}, (∀ t u r, l = t :: u :: r → u.2.1 ≠ [58]) → labR l = some ([], l)
  | [], _ => rfl
  | [t], _ => rfl
  | t :: u :: r, h => by simp only [labR]; rw [if_neg (h t u r rfl)]
theorem labR_yes {t u : Tok} {r : List Tok} (h : u.2.1 = [58]) : labR (t :: u :: r) = if t.1 = 1 ∧ nameD t.2.1 = true then some (t.2.1, r) else none := by
  simp only [labR]; rw [if_pos h]
theorem par_body {l : List Tok} (hl : l ≠ []) (h : labR l = some ([], l)) : parT l = (bodT l).map fun st => ([], some st) := by
  unfold parT; rw [h]; simp only [if_neg hl]
theorem skip_id {s : Str} (h : s = [] ∨ ∃ c r, s = c :: r ∧ c.toNat ≠ 32) : skipD s = s := by
  rcases h with rfl | ⟨c, r, rfl, h⟩
  · rfl
  · unfold skipD
    have : ¬ c = 32 := fun e => h (by rw [e]; rfl)
    simp [this]
theorem tok_ne {g : Bool} {s : Str} {l : List Tok} (hs : ∃ c r, s = c :: r ∧ c.toNat ≠ 32) (h : tokR g s = some l) : l ≠ [] := by
  obtain ⟨c, r, rfl, hc⟩ := hs
  obtain ⟨t, l', rfl, _⟩ := tok_head g hc h
  simp
/-- no statement before a colon -/
theorem ps_colon {t : Str} (h : ∃ y, skipD (afterD t) = 58 :: y) : psOpt t = none := by
  obtain ⟨y, h⟩ := h
  unfold psOpt
  cases hf : findS (wordD t) shapes with
  | none => rfl
  | some s =>
    simp only
    refine (core_eq hf (afterD t) false).trans ?_
    obtain ⟨g, e⟩ := tok_skip false (afterD t)
    rw [e, h, tok_sign g (by decide)]
    cases tokR false y with
    | none => rfl
    | some l =>
      simp only [Option.map_some, Option.bind_some]
      rw [op_sign (shapes_nm _ (findS_key hf)).2.2.1 _ _ rfl]
      rfl
theorem map_none' {α β : Type} {f : α → β} {o : Option α} (h : none = o.map f) : o = none := by
  cases o with
  | none => rfl
  | some x => simp at h
theorem line_eq (u : Str) (g : Bool) : parP u = ((tokR g u).bind parT).map mapL := by
  obtain ⟨g', e⟩ := tok_skip g u
  obtain ⟨_, _, _, hs⟩ := skip_split u
  rw [e]
  unfold parP clD
  generalize ht : skipD u = t at *
  rcases hs with rfl | hs
  · rw [tok_nil]
    have h1 : (if Lib.hasPrefix (skipD (afterD [])) [58] then (wordD [], skipD (Lib.trimPrefix (skipD (afterD [])) [58]), isNameD (wordD [])) else (([] : Str), ([] : Str), true)) = ([], [], true) := by decide
    simp only [h1, Option.bind_some]
    rfl
  · obtain ⟨y1, y2, y3⟩ := word_split t
    obtain ⟨_, _, _, hr⟩ := skip_split (afterD t)
    by_cases hp : Lib.hasPrefix (skipD (afterD t)) [58] = true
    · obtain ⟨y, hy⟩ := (pre1_iff _ _).1 hp
      have hpn := ps_colon ⟨y, hy⟩
      have hcl : (if Lib.hasPrefix (skipD (afterD t)) [58] = true then (wordD t, skipD (Lib.trimPrefix (skipD (afterD t)) [58]), isNameD (wordD t)) else (([] : Str), t, true)) = (wordD t, skipD y, isNameD (wordD t)) := by rw [if_pos hp, hy, trim1]
      simp only [hcl]
      obtain ⟨g2, e2⟩ := tok_skip false (afterD t)
      rw [hy, tok_sign g2 (by decide)] at e2
      by_cases hn : isNameD (wordD t) = true
      · rw [if_neg (by rw [hn]; simp)]
        obtain ⟨k1, k2⟩ := (isName_iff _).1 hn
        have htt : tokR g' t = (tokR false y).map fun l => (1, wordD t, g') :: (3, [58], g2) :: l := by
          conv => lhs; rw [y1]
          rw [tok_one g' k1 y3, e2]
          cases tokR false y <;> rfl
        rw [htt]
        obtain ⟨g3, e3⟩ := tok_skip false y
        obtain ⟨_, _, _, hq⟩ := skip_split y
        rw [e3]
        rcases hq with hq | hq
        · rw [hq, tok_nil]
          simp only [if_true, Option.map_some, Option.bind_some, parT]
          rw [labR_yes rfl, if_pos ⟨rfl, k2⟩]
          rfl
        · have hne : skipD y ≠ [] := by obtain ⟨c, r, hq, _⟩ := hq; rw [hq]; simp
          rw [if_neg hne, stm_eq g3 hq]
          cases hz : tokR g3 (skipD y) with
          | none => rfl
          | some l =>
            simp only [Option.map_some, Option.bind_some, parT]
            rw [labR_yes rfl, if_pos ⟨rfl, k2⟩]
            simp only [if_neg (tok_ne hq hz)]
            cases bodT l <;> rfl
      · rw [if_pos (by simpa using hn)]
        cases hz : tokR g' t with
        | none => rfl
        | some l =>
          simp only [Option.bind_some]
          have hbn : bodT l = none := by
            have := stm_eq g' hs
            rw [hz, hpn] at this
            exact map_none' this
          have hno : labR l = some ([], l) → parT l = none := fun q => by rw [par_body (tok_ne hs hz) q, hbn]; rfl
          have hlab : labR l = some ([], l) ∨ labR l = none := by
            match l, hz, hno with
            | [], _, _ => exact .inl rfl
            | [a], _, _ => exact .inl rfl
            | a :: b :: r, hz, _ =>
              by_cases hb : b.2.1 = [58]
              · right
                rw [labR_yes hb, if_neg]
                rintro ⟨a1, a2⟩
                by_cases hw : wordD t = []
                · obtain ⟨c, r', hc, hc'⟩ := hs
                  rw [hw, List.nil_append] at y1
                  have hsep : sepB c = true := by
                    rcases y3 with q | ⟨d, r2, q, q'⟩
                    · rw [q, hc] at y1; simp at y1
                    · rw [q, hc] at y1
                      simp only [List.cons.injEq] at y1
                      rw [y1.1]; exact q'
                  have hsc : signC c = true := by rw [sign_iff]; rw [sep_of] at hsep; omega
                  rw [hc, tok_sign g' hsc] at hz
                  obtain ⟨l2, _, z⟩ := Option.map_eq_some_iff.1 hz
                  simp only [List.cons.injEq] at z
                  rw [← z.1] at a1
                  simp at a1
                · cases hk : kindW (wordD t) with
                  | some k =>
                    rw [y1, tok_one g' hk y3] at hz
                    obtain ⟨l2, _, z⟩ := Option.map_eq_some_iff.1 hz
                    simp only [List.cons.injEq] at z
                    rw [← z.1] at a1 a2
                    simp only at a1 a2
                    rw [a1] at hk
                    exact hn ((isName_iff _).2 ⟨hk, a2⟩)
                  | none =>
                    rw [y1] at hz
                    obtain ⟨t', l', z, _, z2⟩ := tok_many g' y2 hw hk y3 hz
                    simp only [List.cons.injEq] at z
                    obtain ⟨rfl, rfl⟩ := z
                    rcases z2 with ⟨q, _⟩ | ⟨_, _, t2, l3, q, _, _, q2⟩
                    · rw [q] at a1; simp at a1
                    · simp only [List.cons.injEq] at q
                      rw [← q.1] at q2
                      exact q2 hb
              · exact .inl (by simp only [labR]; rw [if_neg hb])
          rcases hlab with h | h
          · rw [hno h]; rfl
          · unfold parT; rw [h]; rfl
    · have hne : t ≠ [] := by obtain ⟨c, r, h, _⟩ := hs; rw [h]; simp
      have hcl : (if Lib.hasPrefix (skipD (afterD t)) [58] = true then (wordD t, skipD (Lib.trimPrefix (skipD (afterD t)) [58]), isNameD (wordD t)) else (([] : Str), t, true)) = ([], t, true) := if_neg hp
      simp only [Bool.not_eq_true] at hp
      simp only [hcl, Bool.true_eq_false, if_false]
      rw [if_neg hne, stm_eq g' hs]
      cases hz : tokR g' t with
      | none => rfl
      | some l =>
        simp only [Option.bind_some]
        have hlab : labR l = some ([], l) ∨ (labR l = none ∧ bodT l = none) := by
          match l, hz with
          | [], _ => exact .inl rfl
          | [a], _ => exact .inl rfl
          | a :: b :: r, hz =>
            by_cases hb : b.2.1 = [58]
            · right
              have hcol : ∀ {d : UInt8} {r' : Str}, skipD (afterD t) = d :: r' → d ≠ 58 := fun {d r'} q q' => by
                rw [q, q'] at hp
                rw [(pre1_iff _ _).2 ⟨r', rfl⟩] at hp
                simp at hp
              have hafter : ∀ {l2 : List Tok} {b' : Tok}, tokR false (afterD t) = some (b' :: l2) → b'.2.1 ≠ [58] := fun {l2 b'} q q' => by
                obtain ⟨g2, e2⟩ := tok_skip false (afterD t)
                rw [q] at e2
                rcases hr with hr | ⟨d, r', hr, hd⟩
                · rw [hr, tok_nil] at e2; simp at e2
                · rw [hr] at e2
                  exact hcol hr (tok_58 hd e2.symm q')
              by_cases hw : wordD t = []
              · have hps : psOpt t = none := by unfold psOpt; rw [hw, show findS [] shapes = none from by decide +kernel]
                have hbn : bodT (a :: b :: r) = none := by
                  have := stm_eq g' hs
                  rw [hz, hps] at this
                  exact map_none' this
                refine ⟨?_, hbn⟩
                rw [labR_yes hb, if_neg]
                rintro ⟨a1, _⟩
                obtain ⟨c, r', hc, hc'⟩ := hs
                rw [hw, List.nil_append] at y1
                have hsep : sepB c = true := by
                  rcases y3 with q | ⟨d, r2, q, q'⟩
                  · rw [q, hc] at y1; simp at y1
                  · rw [q, hc] at y1
                    simp only [List.cons.injEq] at y1
                    rw [y1.1]; exact q'
                have hsc : signC c = true := by rw [sign_iff]; rw [sep_of] at hsep; omega
                rw [hc, tok_sign g' hsc] at hz
                obtain ⟨l2, _, z⟩ := Option.map_eq_some_iff.1 hz
                simp only [List.cons.injEq] at z
                rw [← z.1] at a1
                simp at a1
              · exfalso
                cases hk : kindW (wordD t) with
                | some k =>
                  rw [y1, tok_one g' hk y3] at hz
                  obtain ⟨l2, q, z⟩ := Option.map_eq_some_iff.1 hz
                  simp only [List.cons.injEq] at z
                  rw [z.2] at q
                  exact hafter q hb
                | none =>
                  rw [y1] at hz
                  obtain ⟨t', l', z, _, z2⟩ := tok_many g' y2 hw hk y3 hz
                  simp only [List.cons.injEq] at z
                  obtain ⟨rfl, rfl⟩ := z
                  rcases z2 with ⟨_, _, w2, q, q2⟩ | ⟨_, _, t2, l3, q, _, _, q2⟩
                  · cases w2 with
                    | nil => exact hafter q2 hb
                    | cons d r2 =>
                      have hds := sep_not.1 (y2 d (by rw [q]; simp))
                      have := tok_58 hds.1 q2 hb
                      rw [this] at hds
                      exact hds.2.2.1 rfl
                  · simp only [List.cons.injEq] at q
                    rw [← q.1] at q2
                    exact q2 hb
            · exact .inl (by simp only [labR]; rw [if_neg hb])
        rcases hlab with h | ⟨h, h2⟩
        · rw [par_body (tok_ne hs hz) h]
          cases bodT l <;> rfl
        · rw [h2]
          unfold parT; rw [h]; rfl
theorem par_eq (s : Str) : parP (befD s 59) = (parR s).map mapL := by rw [parR_eq, line_eq _ true]
/-- the program of a document's program -/
def progOf (q : PrR) : ProgD := ⟨q.sts.map lineOf, q.syms, q.at'⟩
def mapE {α β : Type} (f : α → β) : Except (Int × Int) α → Except (Int × Int) β
  | .ok x => .ok (f x)
  | .error e => .error e
theorem add_par (p : ProgD) (n : Int) (u : Str) : addD p n u = match parP u with
    | none => (301, p)
    | some (lb, none) => finD lb (4 * p.words) p
    | some (lb, some l) => finD lb (4 * p.words) { p with lines := p.lines ++ [{ l with number := n, at' := 4 * p.words }], words := p.words + l.words } := by
  unfold addD parP
  by_cases h : (clD u).2.2 = false
  · simp only [if_pos h]
  · simp only [if_neg h]
    by_cases h2 : (clD u).2.1 = []
    · simp only [if_pos h2]
    · simp only [if_neg h2]
      cases psOpt (clD u).2.1 <;> rfl
theorem fin_eq (lb : Str) (S : List (Str × Int)) (L : List LineD) (a w : Int) (k : Int) (hk : k = 4 * a) : finD lb k ⟨L, S, w⟩ = match labS lb S a with
    | none => (303, ⟨L, S, w⟩)
    | some S' => if 1024 < w then (305, ⟨L, S', w⟩) else (0, ⟨L, S', w⟩) := by
  subst hk
  unfold finD labS
  by_cases h : lb = []
  · subst h; simp
  · by_cases h2 : (findL lb S).isSome = true
    · simp [h, h2]
    · simp [h, h2]
def contA (n : Int) (k : ProgD → Except (Int × Int) ProgD) (r : Int × ProgD) : Except (Int × Int) ProgD := if r.1 = 0 then k r.2 else .error (r.1, n)
theorem addAll_cons (t : Str) (ts : List Str) (n : Int) (p : ProgD) : addAll (t :: ts) n p = contA n (addAll ts (n + 1)) (addD p n t) := rfl
theorem contA_fin (n : Int) (k : ProgD → Except (Int × Int) ProgD) (lb : Str) (S : List (Str × Int)) (L : List LineD) (a w : Int) : contA n k (finD lb (4 * a) ⟨L, S, w⟩) = match labS lb S a with
    | none => .error (303, n)
    | some S' => if 1024 < w then .error (305, n) else k ⟨L, S', w⟩ := by
  rw [fin_eq lb S L a w _ rfl]
  cases labS lb S a with
  | none => rfl
  | some S' =>
    simp only
    by_cases hw : 1024 < w
    · rw [if_pos hw, if_pos hw]; rfl
    · rw [if_neg hw, if_neg hw]; rfl
theorem read_eq : ∀ (L : List Str) (n : Int) (q : PrR), addAll (L.map fun l => befD l 59) n (progOf q) = mapE progOf (redF L n q)
  | [], _, _ => rfl
  | t :: ts, n, q => by
    rw [List.map_cons, addAll_cons, add_par, par_eq]
    simp only [redF]
    cases hp : parR t with
    | none => rfl
    | some v =>
      obtain ⟨lb, st⟩ := v
      cases st with
      | none =>
        simp only [Option.map_some, mapL, Option.map_none, progOf]
        rw [contA_fin]
        cases hl : labS lb q.syms q.at' with
        | none => rfl
        | some S =>
          simp only [addS]
          by_cases hw : 1024 < q.at'
          · simp only [hw, if_true]; rfl
          · simp only [hw, if_false]
            exact read_eq ts (n + 1) ⟨S, q.sts, q.at'⟩
      | some st =>
        simp only [Option.map_some, mapL, progOf]
        rw [contA_fin]
        have hsz : (lineOf st).words = st.size := rfl
        cases hl : labS lb q.syms q.at' with
        | none => rfl
        | some S =>
          simp only [addS, hsz]
          by_cases hw : 1024 < q.at' + st.size
          · simp only [hw, if_true]; rfl
          · simp only [hw, if_false]
            have := read_eq ts (n + 1) ⟨S, q.sts ++ [{ st with line := n, at' := q.at' }], q.at' + st.size⟩
            rw [← this]
            simp only [progOf, List.map_append, List.map_cons, List.map_nil]
            rfl
theorem add_blank : ∀ (L : List Str) (n : Int) (p : ProgD), p.words ≤ 1024 → addAll (L ++ [[]]) n p = addAll L n p
  | [], n, p, h => by
    have h1 : addD p n [] = (0, p) := by
      rw [add_par, show parP [] = some ([], none) from by decide]
      simp [finD]; omega
    simp [addAll, h1]
  | t :: ts, n, p, h => by
    simp only [List.cons_append, addAll]
    by_cases h0 : (addD p n t).1 = 0
    · rw [if_pos h0, if_pos h0]
      refine add_blank ts (n + 1) _ ?_
      have hr : addD p n t = (0, (addD p n t).2) := by rw [← h0]
      rw [add_par] at hr
      rw [add_par]
      cases hpp : parP t with
      | none => rw [hpp] at hr; simp at hr
      | some v =>
        obtain ⟨lb, o⟩ := v
        rw [hpp] at hr
        cases o with
        | none => exact (fin_facts hr).2.1
        | some l => exact (fin_facts hr).2.1
    · rw [if_neg h0, if_neg h0]
theorem lines_or (s : Str) : linesD s = linesR s ∨ linesD s = linesR s ++ [[]] := by
  obtain ⟨h, t, e⟩ := lines_cons s
  unfold linesR
  have hne : linesD s ≠ [] := by rw [e]; simp
  have hl := List.dropLast_concat_getLast hne
  have hg : (linesD s).getLast?.getD [] = (linesD s).getLast hne := by rw [List.getLast?_eq_some_getLast hne]; rfl
  rw [hg]
  by_cases hz : (linesD s).getLast hne = []
  · right
    rw [if_pos hz, List.append_nil]
    rw [hz] at hl
    exact hl.symm
  · left
    rw [if_neg hz]
    exact hl.symm
theorem parse_eq (s : Str) : parseD s = mapE progOf (readR s) := by
  unfold parseD readR splitD
  by_cases hl : 8192 < s.length
  · rw [if_pos hl, if_pos hl]; rfl
  · rw [if_neg hl, if_neg hl]
    have h1 := read_eq (linesR s) 1 ⟨[], [], 0⟩
    rw [← h1]
    rcases lines_or s with e | e
    · rw [e]; rfl
    · rw [e, List.map_append, List.map_cons, List.map_nil, show befD [] 59 = [] from rfl, add_blank _ _ _ (by decide)]; rfl
end Go.Proofs.YtjlbpkokdlggiaaDoor
