/- The two assemblers: the second pass, and both whole. -/
import Derived.Test.YtjlbpkokdlggiaaDoorRefQ
namespace Go.Proofs.YtjlbpkokdlggiaaDoor
open Go.Ab Go.RowKit
set_option linter.unusedSimpArgs false
set_option maxRecDepth 100000
def argsOk : Str → List ArgD → Prop
  | [], a => a = []
  | c :: p, a => if c = 114 then ∃ (q : Int) (a' : List ArgD), a = (q, 0, []) :: a' ∧ (0 ≤ q ∧ q ≤ 15) ∧ argsOk p a'
    else if c = 110 ∨ c = 120 then ∃ (n : Int) (m : Str) (a' : List ArgD), a = (0, n, m) :: a' ∧ (c = 110 → m = []) ∧ argsOk p a' else argsOk p a
theorem mat_args : ∀ {l : List Tok} {p : Str} {a : List ArgD}, matF l p = some a → argsOk p a
  | [], [], a, h => by simp only [matF, Option.some.injEq] at h; subst h; rfl
  | [], _ :: _, a, h => by simp [matF] at h
  | _ :: _, [], a, h => by simp [matF] at h
  | t :: l, c :: p, a, h => by
    simp only [matF] at h
    simp only [argsOk]
    split at h
    · rename_i hc
      rw [if_pos hc]
      split at h
      · split at h
        · rename_i q hq
          obtain ⟨a', e, rfl⟩ := Option.map_eq_some_iff.1 h
          have := regN_lt hq
          exact ⟨q, a', rfl, ⟨by omega, by omega⟩, mat_args e⟩
        · simp at h
      · simp at h
    · rename_i hc1
      rw [if_neg hc1]
      split at h
      · rename_i hc
        rw [if_pos hc]
        split at h
        · rename_i hq
          obtain ⟨a', e, rfl⟩ := Option.map_eq_some_iff.1 h
          exact ⟨0, t.2.1, a', rfl, fun q => by rw [hq.1] at q; exact absurd q (by decide), mat_args e⟩
        · split at h
          · obtain ⟨a', e, rfl⟩ := Option.map_eq_some_iff.1 h
            exact ⟨_, [], a', rfl, fun _ => rfl, mat_args e⟩
          · simp at h
      · rename_i hc2
        rw [if_neg hc2]
        split at h
        · exact mat_args h
        · simp at h
def okSt (st : StD) : Prop := ∃ h, findS st.what shapes = some h ∧ argsOk (toR h.pat) st.l ∧ st.op = opD st.what
theorem okSt_line {st : StD} (h : okSt st) (n a : Int) : okSt { st with line := n, at' := a } := h
theorem bod_okSt {w : Str} {r : List Tok} {st : StD} (h : bodR w r = some st) : okSt st := by
  unfold bodR at h
  rw [pat_shapes] at h
  cases hf : findS w shapes with
  | none => rw [hf] at h; simp at h
  | some s =>
    rw [hf] at h
    simp only [Option.map_some] at h
    split at h
    · split at h
      · simp at h
      · rename_i a hm
        rw [fin_of h]
        exact ⟨s, hf, mat_args hm, rfl⟩
    · simp at h
theorem par_okSt {t lb : Str} {st : StD} (h : parR t = some (lb, some st)) : okSt st := by
  rw [parR_eq] at h
  obtain ⟨l, _, h⟩ := Option.bind_eq_some_iff.1 h
  unfold parT at h
  split at h
  · simp at h
  · split at h
    · simp at h
    · obtain ⟨st', e, h'⟩ := Option.map_eq_some_iff.1 h
      simp only [Prod.mk.injEq, Option.some.injEq] at h'
      obtain ⟨_, rfl⟩ := h'
      exact bod_okSt e
def okR (p : PrR) : Prop := (∀ st ∈ p.sts, okSt st) ∧ ∀ x ∈ p.syms, ∃ k, x.2 = 4 * k
theorem redF_okR : ∀ {L : List Str} {n : Int} {p q : PrR}, redF L n p = .ok q → okR p → okR q
  | [], n, p, q, h, g => by simp only [redF, Except.ok.injEq] at h; subst h; exact g
  | t :: ts, n, p, q, h, g => by
    obtain ⟨g1, g2⟩ := g
    simp only [redF] at h
    split at h
    · simp at h
    · rename_i lb st hpr
      split at h
      · simp at h
      · rename_i S hS
        have hSg : ∀ x ∈ S, ∃ k, x.2 = 4 * k := by
          unfold labS at hS
          split at hS
          · simp only [Option.some.injEq] at hS; subst hS; exact g2
          · split at hS
            · simp at hS
            · simp only [Option.some.injEq] at hS; subst hS
              intro x hx
              rcases List.mem_append.1 hx with hx | hx
              · exact g2 x hx
              · simp only [List.mem_singleton] at hx; subst hx; exact ⟨_, rfl⟩
        split at h
        · simp at h
        · cases st with
          | none => exact redF_okR h ⟨g1, hSg⟩
          | some st =>
            refine redF_okR h ⟨fun x hx => ?_, hSg⟩
            simp only [addS] at hx
            rcases List.mem_append.1 hx with hx | hx
            · exact g1 x hx
            · simp only [List.mem_singleton] at hx; subst hx; exact okSt_line (par_okSt hpr) _ _
theorem readR_okR {s : Str} {q : PrR} (h : readR s = .ok q) : okR q := by
  unfold readR at h
  split at h
  · simp at h
  · exact redF_okR h ⟨by simp, by simp⟩
def insB (h : ShapeD) : Bool := ((decide (h.pat = [114, 44, 114, 44, 114]) && (decide (h.rel = false) && (decide (formD h.op = 2)))) || ((decide (h.pat = [114, 44, 105, 40, 114, 41]) && (decide (h.rel = false) && (decide (32 ≤ h.op ∧ h.op ≤ 36) && (decide (formD h.op ≠ 2) && decide (formD h.op ≠ 1))))) || ((decide (h.pat = [114, 44, 114, 44, 120]) && (decide (h.rel = true) && (decide (¬ (32 ≤ h.op ∧ h.op ≤ 36)) && (decide (formD h.op ≠ 2) && (decide (formD h.op ≠ 1) && decide (¬ 6 ≤ formD h.op)))))) || ((decide (h.pat = [114, 44, 120]) && (decide (h.rel = true) && (decide (¬ (32 ≤ h.op ∧ h.op ≤ 36)) && (decide (formD h.op ≠ 2) && (decide (formD h.op ≠ 1) && decide (6 ≤ formD h.op)))))) || ((decide (h.pat = [114, 44, 105]) && (decide (h.rel = false) && (decide (¬ (32 ≤ h.op ∧ h.op ≤ 36)) && (decide (formD h.op ≠ 2) && (decide (formD h.op ≠ 1) && decide (6 ≤ formD h.op)))))) || ((decide (h.pat = []) && (decide (h.rel = false) && (decide (¬ (32 ≤ h.op ∧ h.op ≤ 36)) && decide (formD h.op = 1)))) || (decide (h.pat = [114, 44, 114, 44, 105]) && (decide (h.rel = false) && (decide (¬ (32 ≤ h.op ∧ h.op ≤ 36)) && (decide (formD h.op ≠ 2) && (decide (formD h.op ≠ 1) && decide (¬ 6 ≤ formD h.op))))))))))))
def InsP (h : ShapeD) : Prop := (h.pat = [114, 44, 114, 44, 114] ∧ h.rel = false ∧ formD h.op = 2) ∨
     (h.pat = [114, 44, 105, 40, 114, 41] ∧ h.rel = false ∧ (32 ≤ h.op ∧ h.op ≤ 36) ∧ formD h.op ≠ 2 ∧ formD h.op ≠ 1) ∨
     (h.pat = [114, 44, 114, 44, 120] ∧ h.rel = true ∧ ¬ (32 ≤ h.op ∧ h.op ≤ 36) ∧ formD h.op ≠ 2 ∧ formD h.op ≠ 1 ∧ ¬ 6 ≤ formD h.op) ∨
     (h.pat = [114, 44, 120] ∧ h.rel = true ∧ ¬ (32 ≤ h.op ∧ h.op ≤ 36) ∧ formD h.op ≠ 2 ∧ formD h.op ≠ 1 ∧ 6 ≤ formD h.op) ∨
     (h.pat = [114, 44, 105] ∧ h.rel = false ∧ ¬ (32 ≤ h.op ∧ h.op ≤ 36) ∧ formD h.op ≠ 2 ∧ formD h.op ≠ 1 ∧ 6 ≤ formD h.op) ∨
     (h.pat = [] ∧ h.rel = false ∧ ¬ (32 ≤ h.op ∧ h.op ≤ 36) ∧ formD h.op = 1) ∨
     (h.pat = [114, 44, 114, 44, 105] ∧ h.rel = false ∧ ¬ (32 ≤ h.op ∧ h.op ≤ 36) ∧ formD h.op ≠ 2 ∧ formD h.op ≠ 1 ∧ ¬ 6 ≤ formD h.op)
theorem insB_iff {h : ShapeD} (hb : insB h = true) : InsP h := by
  simp only [insB, Bool.or_eq_true, Bool.and_eq_true, decide_eq_true_eq] at hb
  exact hb
theorem shapes_ins : ∀ x ∈ shapes, x.2.code = 77 → x.1 = mvW ∨ x.1 = nopW ∨ insB x.2 = true := by decide +kernel
theorem shapes_c1 : ∀ x ∈ shapes, (x.1 = wordW ∧ x.2 = ⟨0, [120], 1, false, 74⟩) ∨ (x.1 = spaceW ∧ x.2 = ⟨0, [110], 0, false, 75⟩) ∨ (x.1 = liWd ∧ x.2 = ⟨0, [114, 44, 120], 2, false, 76⟩) ∨ x.2.code = 77 := by decide +kernel
theorem shapes_c2 : ∀ x ∈ shapes, x.2.code = 77 → (x.1 = mvW ∧ x.2 = ⟨16, [114, 44, 114], 1, false, 77⟩) ∨ (x.1 = nopW ∧ x.2 = ⟨16, [], 1, false, 77⟩) ∨ ((opD x.1 : Int) = x.2.op ∧ 0 < x.2.op) := by decide +kernel
theorem shapes_c3 : ∀ x ∈ shapes, x.2.code = 77 → x.1 ≠ wordW ∧ x.1 ≠ spaceW ∧ x.1 ≠ liWd := by decide +kernel
theorem shapes_cls : ∀ x ∈ shapes, (x.1 = wordW ∧ x.2 = ⟨0, [120], 1, false, 74⟩) ∨ (x.1 = spaceW ∧ x.2 = ⟨0, [110], 0, false, 75⟩) ∨ (x.1 = liWd ∧ x.2 = ⟨0, [114, 44, 120], 2, false, 76⟩) ∨ (x.1 = mvW ∧ x.2 = ⟨16, [114, 44, 114], 1, false, 77⟩) ∨ (x.1 = nopW ∧ x.2 = ⟨16, [], 1, false, 77⟩) ∨
    ((x.1 ≠ wordW ∧ x.1 ≠ spaceW ∧ x.1 ≠ liWd ∧ x.1 ≠ mvW ∧ x.1 ≠ nopW) ∧ (opD x.1 : Int) = x.2.op ∧ x.2.code = 77 ∧ 0 < x.2.op ∧ InsP x.2) := by
  intro x hx
  rcases shapes_c1 x hx with h | h | h | h
  · exact .inl h
  · exact .inr (.inl h)
  · exact .inr (.inr (.inl h))
  · rcases shapes_c2 x hx h with h' | h' | h'
    · exact .inr (.inr (.inr (.inl h')))
    · exact .inr (.inr (.inr (.inr (.inl h'))))
    · by_cases h1 : x.1 = mvW
      · rcases shapes_c2 x hx h with q | q | q
        · exact .inr (.inr (.inr (.inl q)))
        · exact .inr (.inr (.inr (.inr (.inl q))))
        · rw [h1, show opD mvW = 0 from by decide +kernel] at q; omega
      · by_cases h2 : x.1 = nopW
        · rw [h2, show opD nopW = 0 from by decide +kernel] at h'; omega
        · obtain ⟨a1, a2, a3⟩ := shapes_c3 x hx h
          exact .inr (.inr (.inr (.inr (.inr ⟨⟨a1, a2, a3, h1, h2⟩, h'.1, h, h'.2, insB_iff (by rcases shapes_ins x hx h with q | q | q; exact absurd q h1; exact absurd q h2; exact q)⟩))))
theorem valid_bounds {i : InstD} (h : validD i = true) : lowD (formD i.op) ≤ i.imm ∧ i.imm ≤ highD (formD i.op) := by
  simp only [validD, Bool.and_eq_true, decide_eq_true_eq] at h
  exact ⟨h.1.2, h.2⟩
theorem instI_op (op : Int) (a : List ArgD) (x : Int) : (instI op a x).op = op ∧ (instI op a x).imm = x := by
  unfold instI; (repeat' split) <;> exact ⟨rfl, rfl⟩
theorem code_inst {l : LineD} {op : Int} {a : List ArgD} {v x : Int} (hc : l.code = 77) (hi : iI l x = instI op a (instX op a v)) : codeL l x = (instR op a v).map fun w => [w] := by
  obtain ⟨o1, o2⟩ := instI_op op a (instX op a v)
  have hx : x = instX op a v := by rw [← o2, ← hi]; rfl
  unfold codeL instR
  rw [hc, if_neg (by decide), if_neg (by decide), if_neg (by decide), hi]
  by_cases hv : validD (instI op a (instX op a v)) = true
  · obtain ⟨b1, b2⟩ := valid_bounds hv
    rw [o1, o2] at b1 b2
    have l1 := low_ge (formD op)
    have l2 := high_le (formD op)
    rw [if_pos ⟨⟨by omega, by omega⟩, hv⟩, if_neg (by omega), if_pos hv]; rfl
  · rw [if_neg (fun q => hv q.2), if_neg hv, ite_self]; rfl
def stepL (S : List (Str × Int)) (l : LineD) : Except (Int × Int) (List Int) := match valL S l with
  | none => .error (302, l.number)
  | some x => match codeL l x with
    | none => .error (304, l.number)
    | some w => .ok w
def stepR (S : List (Str × Int)) (st : StD) : Except (Int × Int) (List Int) := match valR S st with
  | none => .error (302, st.line)
  | some v => match codR st v with
    | none => .error (304, st.line)
    | some w => .ok w
theorem step_of {S : List (Str × Int)} {l : LineD} {st : StD} (h1 : valL S l = valR S st) (h2 : ∀ x, codeL l x = codR st x) (h3 : l.number = st.line) : stepL S l = stepR S st := by
  unfold stepL stepR
  rw [h1, h3]
  cases valR S st with
  | none => rfl
  | some x => simp only [h2]
theorem val_of {S : List (Str × Int)} (hS : ∀ x ∈ S, ∃ k, x.2 = 4 * k) {m : Str} {n : Int} {f g : Int → Int} (h : ∀ k, f (4 * k) = g (4 * k)) : (if m = [] then some n else (findL m S).map f) = if m = [] then some n else (findL m S).map g := by
  by_cases hm : m = []
  · rw [if_pos hm, if_pos hm]
  · rw [if_neg hm, if_neg hm]
    cases hf : findL m S with
    | none => rfl
    | some a =>
      obtain ⟨x, hx, rfl⟩ := findL_mem hf
      obtain ⟨k, hk⟩ := hS x hx
      simp only [Option.map_some, hk, h]
theorem rel_eq (k b : Int) : (4 * k - 4 * b).tdiv 4 = (4 * k).tdiv 4 - b := by
  rw [← Int.mul_sub, Int.mul_tdiv_cancel_left _ (by decide), Int.mul_tdiv_cancel_left _ (by decide)]
theorem inst_cod {st : StD} (h : st.what ≠ wordW ∧ st.what ≠ spaceW ∧ st.what ≠ liWd ∧ st.what ≠ mvW ∧ st.what ≠ nopW) (v : Int) : codR st v = (instR st.op st.l v).map fun w => [w] := by
  obtain ⟨h1, h2, h3, h4, h5⟩ := h
  unfold codR
  rw [if_neg h1, if_neg h2, if_neg h3, if_neg h4, if_neg h5]
/-- a statement whose operands' value counts not: the immediate is elsewhere -/
theorem step_const {S : List (Str × Int)} {l : LineD} {st : StD} {x v : Int} (h1 : valL S l = some x) (h2 : valR S st = some v) (h3 : codeL l x = codR st v) (h4 : l.number = st.line) : stepL S l = stepR S st := by
  unfold stepL stepR
  rw [h1, h2, h4]
  simp only [h3]
theorem step_eq {S : List (Str × Int)} (hS : ∀ x ∈ S, ∃ k, x.2 = 4 * k) {st : StD} (hst : okSt st) : stepL S (lineOf st) = stepR S st := by
  obtain ⟨what, op, a, line, at', size⟩ := st
  obtain ⟨h, hf, ha, hop⟩ := hst
  simp only at hf ha hop
  have hlo : lineOf ⟨what, op, a, line, at', size⟩ = ⟨line, 4 * at', size, h.op, h.pat, h.words, h.rel, h.code, (updA h.pat a 0 (0, 0, 0) (0, [])).1.1, (updA h.pat a 0 (0, 0, 0) (0, [])).1.2.1, (updA h.pat a 0 (0, 0, 0) (0, [])).1.2.2, (updA h.pat a 0 (0, 0, 0) (0, [])).2.1, (updA h.pat a 0 (0, 0, 0) (0, [])).2.2⟩ := by
    unfold lineOf
    simp only [hf, Option.getD_some]
    rfl
  rw [hlo]
  rcases shapes_cls _ (findS_key hf) with ⟨e1, e2⟩ | ⟨e1, e2⟩ | ⟨e1, e2⟩ | ⟨e1, e2⟩ | ⟨e1, e2⟩ | ⟨e1, e2, e3, e4, e5⟩
  · simp only at e1 e2
    subst e1 e2
    simp [argsOk, toR] at ha
    obtain ⟨n, m, rfl⟩ := ha
    rw [show opD wordW = 0 from by decide +kernel] at hop
    refine step_of ?_ (fun x => ?_) rfl
    · simp [valL, valR, updA, isSg, lastR, hop]
    · simp [codeL, codR, updA, isSg]
  · simp only at e1 e2
    subst e1 e2
    simp [argsOk, toR] at ha
    obtain ⟨n, m, rfl, rfl⟩ := ha
    refine step_of ?_ (fun x => ?_) rfl
    · simp [valL, valR, updA, isSg, lastR]
    · simp [codeL, codR, updA, isSg]
  · simp only at e1 e2
    subst e1 e2
    simp [argsOk, toR] at ha
    obtain ⟨q, _, rfl, hq, n, m, rfl⟩ := ha
    rw [show opD liWd = 0 from by decide +kernel] at hop
    refine step_of ?_ (fun x => ?_) rfl
    · simp [valL, valR, updA, isSg, lastR, hop]
    · have v1 : validD ⟨24, q, 0, 0, x % 4294967296 / 65536⟩ = true := by simp [validD, formD, uA, uB, uC, regB, lowD, highD]; omega
      have v2 : validD ⟨18, q, q, 0, x % 65536⟩ = true := by simp [validD, formD, uA, uB, uC, regB, lowD, highD]; omega
      have w1 : x % 4294967296 / 65536 % 65536 = x % 4294967296 / 65536 := by omega
      have w2 : x % 4294967296 % 65536 = x % 65536 := by omega
      simp [codeL, codR, updA, isSg, setR, liW, encE, v1, v2, w1, w2]
  · simp only at e1 e2
    subst e1 e2
    simp [argsOk, toR] at ha
    obtain ⟨q, _, rfl, hq, r, rfl, hr⟩ := ha
    refine step_const (x := 0) (v := 0) ?_ ?_ ?_ rfl
    · simp [valL, updA, isSg]
    · simp [valR, lastR]
    · have v1 : validD ⟨16, q, r, 0, 0⟩ = true := by simp [validD, formD, uA, uB, uC, regB, lowD, highD]; omega
      simp [codeL, codR, updA, isSg, setR, iI, encE, v1]
  · simp only at e1 e2
    subst e1 e2
    simp [argsOk, toR] at ha
    subst ha
    refine step_const (x := 0) (v := 0) ?_ ?_ ?_ rfl
    · simp [valL, updA, isSg]
    · simp [valR, lastR]
    · have v1 : validD ⟨16, 0, 0, 0, 0⟩ = true := by decide
      simp [codeL, codR, updA, isSg, setR, iI, encE, v1]
  · simp only at e1 e2 e3 e4 e5
    obtain ⟨ho, hpat, hwo, hrel, hco⟩ := h
    simp only at e3
    subst e3
    simp only [InsP] at e2 e4 e5 ha
    have hoo : op = ho := by rw [hop, e2]
    subst hoo
    have hcod := inst_cod (st := ⟨what, op, a, line, at', size⟩) e1
    simp only at hcod
    rcases e5 with ⟨p1, p2, p3⟩ | ⟨p1, p2, p3, p4, p5⟩ | ⟨p1, p2, p3, p4, p5, p6⟩ | ⟨p1, p2, p3, p4, p5, p6⟩ | ⟨p1, p2, p3, p4, p5, p6⟩ | ⟨p1, p2, p3, p4⟩ | ⟨p1, p2, p3, p4, p5, p6⟩
    · subst p1 p2
      simp [argsOk, toR] at ha
      obtain ⟨q, _, rfl, hq, r, _, rfl, hr, t, rfl, ht⟩ := ha
      refine step_const (x := 0) (v := 0) ?_ ?_ ?_ rfl
      · simp [valL, updA, isSg]
      · simp [valR, lastR]
      · rw [hcod]
        refine code_inst rfl ?_
        simp [iI, instI, instX, p3, updA, isSg, setR]
    · subst p1 p2
      simp [argsOk, toR] at ha
      obtain ⟨q, _, rfl, hq, n, m, ⟨_, rfl, hm, r, rfl, hr⟩⟩ := ha
      subst hm
      refine step_const (x := n) (v := 0) ?_ ?_ ?_ rfl
      · simp [valL, updA, isSg]
      · simp [valR, lastR]
      · rw [hcod]
        refine code_inst rfl ?_
        simp [iI, instI, instX, p3, p4, p5, updA, isSg, setR]
    · subst p1 p2
      simp [argsOk, toR] at ha
      obtain ⟨q, _, rfl, hq, r, _, rfl, hr, n, m, rfl⟩ := ha
      refine step_of ?_ (fun x => ?_) rfl
      · simp only [valL, valR, updA, isSg, lastR]
        exact val_of hS fun k => by simp [e4, rel_eq]
      · rw [hcod]
        refine code_inst rfl ?_
        simp [iI, instI, instX, p3, p4, p5, p6, updA, isSg, setR]
    · subst p1 p2
      simp [argsOk, toR] at ha
      obtain ⟨q, _, rfl, hq, n, m, rfl⟩ := ha
      refine step_of ?_ (fun x => ?_) rfl
      · simp only [valL, valR, updA, isSg, lastR]
        exact val_of hS fun k => by simp [e4, rel_eq]
      · rw [hcod]
        refine code_inst rfl ?_
        simp [iI, instI, instX, p3, p4, p5, p6, updA, isSg, setR]
    · subst p1 p2
      simp [argsOk, toR] at ha
      obtain ⟨q, _, rfl, hq, n, m, rfl, rfl⟩ := ha
      refine step_of ?_ (fun x => ?_) rfl
      · simp [valL, valR, updA, isSg, lastR]
      · rw [hcod]
        refine code_inst rfl ?_
        simp [iI, instI, instX, p3, p4, p5, p6, updA, isSg, setR]
    · subst p1 p2
      simp [argsOk, toR] at ha
      subst ha
      refine step_const (x := 0) (v := 0) ?_ ?_ ?_ rfl
      · simp [valL, updA, isSg]
      · simp [valR, lastR]
      · rw [hcod]
        refine code_inst rfl ?_
        simp [iI, instI, instX, p3, p4, updA, isSg, setR]
    · subst p1 p2
      simp [argsOk, toR] at ha
      obtain ⟨q, _, rfl, hq, r, _, rfl, hr, n, m, rfl, rfl⟩ := ha
      refine step_of ?_ (fun x => ?_) rfl
      · simp [valL, valR, updA, isSg, lastR]
      · rw [hcod]
        refine code_inst rfl ?_
        simp [iI, instI, instX, p3, p4, p5, p6, updA, isSg, setR]
theorem enc_step (S : List (Str × Int)) (l : LineD) (ls : List LineD) (out : List Int) : encAll S (l :: ls) out = match stepL S l with
    | .error e => .error e
    | .ok w => encAll S ls (out ++ w) := by
  simp only [encAll, stepL]
  cases valL S l with
  | none => rfl
  | some x => simp only; cases codeL l x <;> rfl
theorem ref_step (S : List (Str × Int)) (l : StD) (ls : List StD) (out : List Int) : refAll S (l :: ls) out = match stepR S l with
    | .error e => .error e
    | .ok w => refAll S ls (out ++ w) := by
  simp only [refAll, stepR]
  cases valR S l with
  | none => rfl
  | some x => simp only; cases codR l x <;> rfl
theorem all_eq {S : List (Str × Int)} (hS : ∀ x ∈ S, ∃ k, x.2 = 4 * k) : ∀ (L : List StD) (out : List Int), (∀ st ∈ L, okSt st) → encAll S (L.map lineOf) out = refAll S L out
  | [], out, _ => rfl
  | st :: L, out, h => by
    rw [List.map_cons, enc_step, ref_step, step_eq hS (h st (List.mem_cons_self ..))]
    cases stepR S st with
    | error e => rfl
    | ok w => exact all_eq hS L _ fun x hx => h x (List.mem_cons_of_mem _ hx)
theorem asm_eq (s : Str) : asmR s = asmD s := by
  unfold asmR asmD
  rw [parse_eq]
  cases hr : readR s with
  | error e => rfl
  | ok q =>
    obtain ⟨h1, h2⟩ := readR_okR hr
    exact (all_eq h2 q.sts [] h1).symm
theorem sym_eq (s : Str) : symR s = symD s := by
  unfold symR
  rw [asm_eq]
  unfold symD asmD
  rw [parse_eq]
  cases hr : readR s with
  | error e => rfl
  | ok q =>
    simp only [mapE]
    cases encAll (progOf q).syms (progOf q).lines [] <;> rfl
end Go.Proofs.YtjlbpkokdlggiaaDoor
