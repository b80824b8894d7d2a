/- The two assemblers: statements of a line. -/
import Derived.Test.YtjlbpkokdlggiaaDoorRefO
namespace Go.Proofs.YtjlbpkokdlggiaaDoor
open Go.Ab Go.RowKit
set_option linter.unusedSimpArgs false
set_option maxRecDepth 100000
/-- a name of a statement: one token, or a dot and one token -/
def nmB : Str → Bool
  | [] => false
  | c :: r => decide (kindW (c :: r) = some 1) || (decide (c = 46) && decide (kindW r = some 1))
def opHd : Str → Bool
  | [] => true
  | c :: _ => decide (c = 114) || decide (c = 110) || decide (c = 120)
theorem shapes_nm : ∀ x ∈ shapes, nmB x.1 = true ∧ okP x.2.pat = true ∧ opHd (toR x.2.pat) = true ∧ findS x.1 shapes = some x.2 ∧ patR x.1 = some (toR x.2.pat) := by decide +kernel
theorem shapes_sz : ∀ x ∈ shapes, (x.1 = liWd ∧ x.2.pat ≠ [110] ∧ x.2.words = 2) ∨ (x.1 = spaceW ∧ x.2.pat = [110]) ∨ (x.1 ≠ liWd ∧ x.1 ≠ spaceW ∧ x.2.pat ≠ [110] ∧ x.2.words = 1) := by decide +kernel
theorem ops_nm : ∀ op ∈ List.range 65, formD (op : Nat) ≠ 0 → mnS (op : Nat) ∈ shapes.map (·.1) := by decide +kernel
theorem opF_spec (s : Str) : ∀ (k op : Nat), opF s k op = 0 ∨ (op ≤ opF s k op ∧ opF s k op < op + k ∧ formD ((opF s k op : Nat) : Int) ≠ 0 ∧ mnS ((opF s k op : Nat) : Int) = s)
  | 0, _ => .inl rfl
  | k + 1, op => by
    simp only [opF]
    split
    · rename_i h
      exact .inr ⟨Nat.le_refl _, by omega, h.1, h.2⟩
    · rcases opF_spec s k (op + 1) with h | ⟨h1, h2, h3⟩
      · exact .inl h
      · exact .inr ⟨by omega, by omega, h3⟩
theorem findS_key {s : Str} {h : ShapeD} : ∀ {l : List (Str × ShapeD)}, findS s l = some h → (s, h) ∈ l
  | x :: r, e => by
    simp only [findS] at e
    split at e
    · rename_i q
      simp only [Option.some.injEq] at e
      subst q e
      exact List.mem_cons_self ..
    · exact List.mem_cons_of_mem _ (findS_key e)
theorem findS_none {s : Str} : ∀ {l : List (Str × ShapeD)}, findS s l = none → s ∉ l.map (·.1)
  | [], _ => by simp
  | x :: r, e => by
    simp only [findS] at e
    split at e
    · simp at e
    · rename_i q
      have := findS_none e
      simp only [List.map_cons, List.mem_cons, not_or]
      exact ⟨fun h => q h.symm, this⟩
theorem pat_shapes (w : Str) : patR w = (findS w shapes).map fun h => toR h.pat := by
  cases hf : findS w shapes with
  | some h => exact (shapes_nm _ (findS_key hf)).2.2.2.2
  | none =>
    have hn := findS_none hf
    have hb : ∀ v ∈ shapes.map (·.1), w ≠ v := fun v hv e => hn (e ▸ hv)
    have ho : opD w = 0 := by
      rcases opF_spec w 64 1 with h | ⟨h1, h2, h3, h4⟩
      · exact h
      · exact absurd (h4 ▸ ops_nm (opF w 64 1) (List.mem_range.2 (by omega)) h3) hn
    unfold patR
    rw [if_neg (hb _ (by decide +kernel)), if_neg (hb _ (by decide +kernel)), if_neg (hb _ (by decide +kernel)), if_neg (hb _ (by decide +kernel)), if_neg (hb _ (by decide +kernel)), if_pos ho]
    rfl
theorem gap_mat {x : Str} {l : List Tok} (hx : sepT x) (h : tokR false x = some l) : gapR l = true ∨ ∃ t l', l = t :: l' ∧ t.1 = 3 := by
  rcases hx with rfl | ⟨c, r, rfl, hc⟩
  · rw [tok_nil] at h; simp only [Option.some.injEq] at h; subst h; exact .inl rfl
  · by_cases h32 : c.toNat = 32
    · left
      rw [tok_cons, if_pos h32] at h
      obtain ⟨b, hb, e, hs⟩ := skip_split r
      rw [e, tok_blank true hb, Bool.true_or] at h
      rcases hs with hs | ⟨d, r', hs, hd⟩
      · rw [hs, tok_nil] at h; simp only [Option.some.injEq] at h; subst h; rfl
      · rw [hs] at h
        obtain ⟨t, l', rfl, z, _⟩ := tok_head true hd h
        exact z
    · right
      have hsc : signC c = true := by rw [sign_iff]; rw [sep_of] at hc; omega
      rw [tok_sign false hsc] at h
      obtain ⟨l', _, rfl⟩ := Option.map_eq_some_iff.1 h
      exact ⟨_, l', rfl, rfl⟩
theorem op_sign {p : Str} (hp : opHd p = true) (t : Tok) (l : List Tok) (ht : t.1 = 3) : matF (t :: l) p = none := by
  cases p with
  | nil => rfl
  | cons c p =>
    simp only [opHd, Bool.or_eq_true, decide_eq_true_eq, or_assoc] at hp
    exact mat_op3 hp t ht l p
theorem bod_of {w : Str} {h : ShapeD} (hf : findS w shapes = some h) {l : List Tok} (hg : gapR l = true ∨ ∃ t l', l = t :: l' ∧ t.1 = 3) : bodR w l = (matF l (toR h.pat)).bind (finR w) := by
  unfold bodR
  rw [pat_shapes, hf]
  simp only [Option.map_some]
  rcases hg with hg | ⟨t, l', rfl, ht⟩
  · rw [if_pos hg]; cases matF l (toR h.pat) <;> rfl
  · rw [op_sign (shapes_nm _ (findS_key hf)).2.2.1 t l' ht]; split <;> rfl
theorem bod_none {w : Str} (hf : findS w shapes = none) (l : List Tok) : bodR w l = none := by
  unfold bodR; rw [pat_shapes, hf]; rfl
def bodT (l : List Tok) : Option StD := bodR (dotR l).1 (dotR l).2
theorem bodT_some {l : List Tok} (h : bodT l ≠ none) : nmB (dotR l).1 = true ∧ gapR (dotR l).2 = true ∧ ∃ s, findS (dotR l).1 shapes = some s := by
  unfold bodT at h
  cases hf : findS (dotR l).1 shapes with
  | none => exact absurd (bod_none hf _) h
  | some s =>
    refine ⟨(shapes_nm _ (findS_key hf)).1, ?_, s, rfl⟩
    unfold bodR at h
    rw [pat_shapes, hf] at h
    simp only [Option.map_some] at h
    split at h
    · assumption
    · exact absurd rfl h
theorem nm_sep {c : UInt8} (h : sepB c = true) : nmB [c] = false ∧ nmB [46, c] = false := by
  have : ∀ n < 256, sepB (UInt8.ofNat n) = true → nmB [UInt8.ofNat n] = false ∧ nmB [46, UInt8.ofNat n] = false := by decide +kernel
  have h1 := this c.toNat c.toNat_lt
  rw [UInt8.ofNat_toNat] at h1
  exact h1 h
/-- the document's name of a statement is the program's, if there is a statement -/
theorem dot_name {w x : Str} {l : List Tok} {g : Bool} (hw : clean w) (hx : sepT x) (hd : ∃ c r, w ++ x = c :: r ∧ c.toNat ≠ 32) (h : tokR g (w ++ x) = some l) (hb : bodT l ≠ none) : (dotR l).1 = w := by
  obtain ⟨hn, hg, _⟩ := bodT_some hb
  by_cases hwe : w = []
  · subst hwe
    exfalso
    obtain ⟨c, r, e, hc⟩ := hd
    rw [List.nil_append] at e h
    rcases hx with rfl | ⟨c', r', e', hs⟩
    · simp at e
    · rw [e'] at e
      simp only [List.cons.injEq] at e
      obtain ⟨rfl, rfl⟩ := e
      have hs' := hs
      rw [sep_of] at hs'
      have hsc : signC c' = true := by rw [sign_iff]; omega
      rw [e', tok_sign g hsc] at h
      obtain ⟨l', _, rfl⟩ := Option.map_eq_some_iff.1 h
      have h46 : c' ≠ 46 := fun q => by rw [q] at hs; exact absurd hs (by decide)
      have he : (dotR ((3, [c'], g) :: l')).1 = [c'] := by
        cases l' with
        | nil => rfl
        | cons u r => simp [dotR, h46]
      rw [he, (nm_sep hs).1] at hn
      simp at hn
  · cases hk : kindW w with
    | some k =>
      rw [tok_one g hk hx] at h
      obtain ⟨l', _, rfl⟩ := Option.map_eq_some_iff.1 h
      cases l' with
      | nil => rfl
      | cons u r =>
        have h46 : w ≠ [46] := fun q => by rw [q, show kindW [46] = none from by decide] at hk; simp at hk
        simp [dotR, h46]
    | none =>
      obtain ⟨t, l', rfl, z1, z2⟩ := tok_many g hw hwe hk hx h
      rcases z2 with ⟨q1, q2, w2, rfl, q3⟩ | ⟨q1, ⟨c, r, _, q2, q3⟩, t2, l2, rfl, q4, _⟩
      · have hn46 : nmB [46] = false := by decide
        cases l' with
        | nil =>
          exfalso
          simp only [dotR, q2, hn46] at hn
          simp at hn
        | cons u l3 =>
          by_cases hu : u.2.2 = false
          · have hdr : dotR (t :: u :: l3) = (46 :: u.2.1, l3) := by simp [dotR, q2, hu]
            rw [hdr] at hn hg ⊢
            simp only at hn hg ⊢
            by_cases h2 : w2 = []
            · subst h2
              exfalso
              rw [List.nil_append] at q3
              rcases hx with rfl | ⟨c, r, rfl, hs⟩
              · rw [tok_nil] at q3; simp at q3
              · by_cases h32 : c.toNat = 32
                · rcases gap_mat (.inr ⟨c, r, rfl, hs⟩) q3 with q | ⟨t', l4, q, q'⟩
                  · simp only [gapR] at q; rw [q] at hu; simp at hu
                  · rw [tok_cons, if_pos h32] at q3
                    obtain ⟨b, hb', e, hs'⟩ := skip_split r
                    rw [e, tok_blank true hb', Bool.true_or] at q3
                    rcases hs' with hs' | ⟨d, r', hs', hd'⟩
                    · rw [hs', tok_nil] at q3; simp at q3
                    · rw [hs'] at q3
                      obtain ⟨t5, l5, e5, z, _⟩ := tok_head true hd' q3
                      simp only [List.cons.injEq] at e5
                      rw [← e5.1] at z
                      rw [z] at hu; simp at hu
                · have hsc : signC c = true := by rw [sign_iff]; rw [sep_of] at hs; omega
                  rw [tok_sign false hsc] at q3
                  obtain ⟨l4, _, e4⟩ := Option.map_eq_some_iff.1 q3
                  simp only [List.cons.injEq] at e4
                  rw [← e4.1] at hn
                  simp only at hn
                  rw [(nm_sep hs).2] at hn
                  simp at hn
            · have hw2 : clean w2 := fun c hc => hw c (List.mem_cons_of_mem _ hc)
              cases hk2 : kindW w2 with
              | some k =>
                rw [tok_one false hk2 hx] at q3
                obtain ⟨l4, _, e4⟩ := Option.map_eq_some_iff.1 q3
                simp only [List.cons.injEq] at e4
                rw [← e4.1]
              | none =>
                exfalso
                obtain ⟨t5, l5, e5, _, z5⟩ := tok_many false hw2 h2 hk2 hx q3
                simp only [List.cons.injEq] at e5
                obtain ⟨rfl, rfl⟩ := e5
                rcases z5 with ⟨_, y, _⟩ | ⟨_, _, t6, l6, rfl, y, _⟩
                · rw [y, show nmB [46, 46] = false from by decide] at hn; simp at hn
                · simp only [gapR] at hg; rw [hg] at y; simp at y
          · exfalso
            have hdr : (dotR (t :: u :: l3)).1 = [46] := by simp [dotR, q2, hu]
            rw [hdr, hn46] at hn
            simp at hn
      · exfalso
        have h46 : t.2.1 ≠ [46] := fun q => by
          rw [q2] at q
          simp only [List.cons.injEq] at q
          exact q3 (by rw [q.1]; rfl)
        have hdr : dotR (t :: t2 :: l2) = (t.2.1, t2 :: l2) := by simp [dotR, h46]
        rw [hdr] at hg
        simp only [gapR] at hg
        rw [hg] at q4
        simp at q4
/-- the program's line of a document's statement -/
def lineOf (st : StD) : LineD := { psLine ((findS st.what shapes).getD ⟨0, [], 0, false, 0⟩) st.size (updA ((findS st.what shapes).getD ⟨0, [], 0, false, 0⟩).pat st.l 0 (0, 0, 0) (0, [])).1 (updA ((findS st.what shapes).getD ⟨0, [], 0, false, 0⟩).pat st.l 0 (0, 0, 0) (0, [])).2 with number := st.line, at' := 4 * st.at' }
theorem fin_of {w : Str} {a : List ArgD} {st : StD} (h : finR w a = some st) : st = ⟨w, opD w, a, 0, 0, st.size⟩ := by
  unfold finR at h
  (repeat' split at h) <;> simp only [Option.some.injEq, reduceCtorEq] at h
  all_goals (subst h; rfl)
theorem core_eq {w : Str} {h : ShapeD} (hf : findS w shapes = some h) (x : Str) (g : Bool) :
    (match patD h.pat x 0 (0, 0, 0) (0, []) with
      | none => none
      | some (rest, rg, im) => if h.pat = [110] ∧ (im.1 < 0 ∨ 1024 < im.1) then none else if skipD rest = [] then some (psLine h (if h.pat = [110] then im.1 else h.words) rg im) else none)
    = (((tokR g x).bind fun l => (matF l (toR h.pat)).bind (finR w))).map lineOf := by
  have hk := findS_key hf
  obtain ⟨_, h2, _, _, _⟩ := shapes_nm _ hk
  have hp := pat_eq h.pat h2 x g 0 (0, 0, 0) (0, [])
  have e1 : (match patD h.pat x 0 (0, 0, 0) (0, []) with
      | none => none
      | some (rest, rg, im) => if h.pat = [110] ∧ (im.1 < 0 ∨ 1024 < im.1) then none else if skipD rest = [] then some (psLine h (if h.pat = [110] then im.1 else h.words) rg im) else none)
      = (pdF h.pat x 0 (0, 0, 0) (0, [])).bind fun q => if h.pat = [110] ∧ (q.2.1 < 0 ∨ 1024 < q.2.1) then none else some (psLine h (if h.pat = [110] then q.2.1 else h.words) q.1 q.2) := by
    unfold pdF
    cases patD h.pat x 0 (0, 0, 0) (0, []) with
    | none => rfl
    | some q =>
      obtain ⟨rest, rg, im⟩ := q
      simp only
      by_cases hs : skipD rest = []
      · simp only [if_pos hs, Option.bind_some]
      · simp only [if_neg hs, Option.bind_none, ite_self]
  rw [e1, hp]
  unfold mtF
  cases tokR g x with
  | none => rfl
  | some l =>
    simp only [Option.bind_some]
    cases hm : matF l (toR h.pat) with
    | none => rfl
    | some a =>
      simp only [Option.map_some, Option.bind_some]
      have hlo : ∀ z, finR w a = some z → lineOf z = psLine h z.size (updA h.pat a 0 (0, 0, 0) (0, [])).1 (updA h.pat a 0 (0, 0, 0) (0, [])).2 := fun z hz => by
        rw [fin_of hz]
        unfold lineOf
        simp only [hf, Option.getD_some]
        rfl
      rcases shapes_sz _ hk with ⟨s1, s2, s3⟩ | ⟨s1, s2⟩ | ⟨s1, s2, s3, s4⟩
      · simp only at s1 s2 s3
        have hfin : finR w a = some ⟨w, opD w, a, 0, 0, 2⟩ := by unfold finR; rw [if_pos s1]
        rw [if_neg (fun q => s2 q.1), if_neg s2, hfin, Option.map_some, hlo _ hfin, s3]
      · simp only at s1 s2
        rw [s2] at hm ⊢
        obtain ⟨y, rfl⟩ := mat_n hm
        have hu : updA [110] [y] 0 (0, 0, 0) (0, []) = ((0, 0, 0), (y.2.1, y.2.2)) := rfl
        have hfin : finR w [y] = if y.2.1 < 0 ∨ 1024 < y.2.1 then none else some ⟨w, opD w, [y], 0, 0, y.2.1⟩ := by unfold finR; rw [if_neg (by rw [s1]; decide), if_pos s1]; rfl
        rw [hu]
        simp only [true_and, if_true]
        by_cases hr : y.2.1 < 0 ∨ 1024 < y.2.1
        · rw [if_pos hr, hfin, if_pos hr]; rfl
        · rw [if_neg hr] at hfin
          rw [if_neg hr, hfin, Option.map_some, hlo _ hfin, s2, hu]
      · simp only at s1 s2 s3 s4
        have hfin : finR w a = some ⟨w, opD w, a, 0, 0, 1⟩ := by unfold finR; rw [if_neg s1, if_neg s2]
        rw [if_neg (fun q => s3 q.1), if_neg s3, hfin, Option.map_some, hlo _ hfin, s4]
/-- a statement: the program's and the document's reading -/
theorem stm_eq {s : Str} (g : Bool) (hd : ∃ c r, s = c :: r ∧ c.toNat ≠ 32) : psOpt s = ((tokR g s).bind bodT).map lineOf := by
  obtain ⟨y1, y2, y3⟩ := word_split s
  unfold psOpt
  generalize hw : wordD s = w at *
  generalize hx : afterD s = x at *
  cases hf : findS w shapes with
  | none =>
    cases ht : tokR g s with
    | none => rfl
    | some l =>
      simp only [Option.bind_some]
      have hb : bodT l = none := by
        cases hb : bodT l with
        | none => rfl
        | some z =>
          have hn : bodT l ≠ none := by rw [hb]; simp
          rw [y1] at ht hd
          have e := dot_name y2 y3 hd ht hn
          obtain ⟨_, _, q, hq⟩ := bodT_some hn
          rw [e, hf] at hq
          simp at hq
      rw [hb]; rfl
  | some h =>
    simp only
    have hnm := (shapes_nm _ (findS_key hf)).1
    have hmain : tokR g s = (tokR false x).bind fun l => some ((if kindW w = some 1 then [((1, w, g) : Tok)] else [(3, [46], g), (1, w.tail, false)]) ++ l) := by
      rw [y1]
      cases w with
      | nil => simp [nmB] at hnm
      | cons c r =>
        by_cases hk : kindW (c :: r) = some 1
        · rw [tok_one g hk y3, if_pos hk]
          cases tokR false x <;> rfl
        · simp only [nmB, hk, decide_false, Bool.false_or, Bool.and_eq_true, decide_eq_true_eq] at hnm
          obtain ⟨rfl, hk2⟩ := hnm
          rw [if_neg hk, List.cons_append, tok_sign g (by decide), tok_one false hk2 y3]
          cases tokR false x <;> rfl
    refine (core_eq hf x false).trans ?_
    rw [hmain]
    cases ht : tokR false x with
    | none => rfl
    | some l =>
      simp only [Option.bind_some]
      have hdr : dotR ((if kindW w = some 1 then [((1, w, g) : Tok)] else [(3, [46], g), (1, w.tail, false)]) ++ l) = (w, l) := by
        by_cases hk : kindW w = some 1
        · have h46 : w ≠ [46] := fun q => by rw [q] at hk; exact absurd hk (by decide)
          rw [if_pos hk]
          cases l with
          | nil => rfl
          | cons u r => simp [dotR, h46]
        · rw [if_neg hk]
          cases w with
          | nil => simp [nmB] at hnm
          | cons c r =>
            simp only [nmB, hk, decide_false, Bool.false_or, Bool.and_eq_true, decide_eq_true_eq] at hnm
            obtain ⟨rfl, hk2⟩ := hnm
            simp [dotR]
      unfold bodT
      rw [hdr]
      simp only
      rw [bod_of hf (gap_mat y3 ht)]
end Go.Proofs.YtjlbpkokdlggiaaDoor
