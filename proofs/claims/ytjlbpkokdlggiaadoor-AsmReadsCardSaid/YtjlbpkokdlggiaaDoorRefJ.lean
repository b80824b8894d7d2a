/- The document's assembler: what the first pass gives. (Numbers of seat r2.D.) -/
import Derived.Test.YtjlbpkokdlggiaaDoorRefI
namespace Go.Proofs.YtjlbpkokdlggiaaDoor
open Go.Ab Go.RowKit
set_option linter.unusedSimpArgs false
set_option maxRecDepth 100000
def opC (c : UInt8) : Bool := decide (c = 114) || decide (c = 110) || decide (c = 120)
theorem numX_range (s : Str) : (-2147483648 ≤ (numX s).1 ∧ (numX s).1 ≤ 4294967295) ∨ (numX s).2 = false := by
  unfold numX
  split
  · split
    · exact .inl ⟨by simp only; omega, by simp only; omega⟩
    · rename_i h1 h2
      split
      · rename_i n hn
        have h3 : n < 16 ^ ((s.drop 2).length) := by have := digs_lt (.inr rfl) _ _ _ hn; simpa using this
        have h4 : 16 ^ (s.drop 2).length ≤ 16 ^ 8 := Nat.pow_le_pow_right (by decide) (by simp; omega)
        have h5 : (16 : Nat) ^ 8 = 4294967296 := by decide
        exact .inl ⟨by simp only; omega, by simp only; omega⟩
      · exact .inl ⟨by simp only; omega, by simp only; omega⟩
  · by_cases hm : s.getD 0 0 = 45
    · simp only [if_pos hm]
      split
      · exact .inl ⟨by simp only; omega, by simp only; omega⟩
      · split
        · exact .inl ⟨by simp only; omega, by simp only; omega⟩
        · rename_i n hn
          by_cases h : -2147483648 ≤ -(n : Int)
          · exact .inl ⟨h, by simp only; omega⟩
          · exact .inr (by simp [h])
    · simp only [if_neg hm]
      split
      · exact .inl ⟨by simp only; omega, by simp only; omega⟩
      · split
        · exact .inl ⟨by simp only; omega, by simp only; omega⟩
        · rename_i n hn
          by_cases h : (n : Int) ≤ 4294967295
          · exact .inl ⟨by simp only; omega, h⟩
          · exact .inr (by simp [h])
def okArg (a : ArgD) : Prop := (0 ≤ a.1 ∧ a.1 ≤ 15) ∧ -2147483648 ≤ a.2.1 ∧ a.2.1 ≤ 4294967295
theorem mat_facts : ∀ {l : List Tok} {p : Str} {a : List ArgD}, matF l p = some a → a.length = (p.filter opC).length ∧ ∀ x ∈ a, okArg x
  | [], [], a, h => by simp only [matF, Option.some.injEq] at h; subst h; simp
  | [], _ :: _, a, h => by simp [matF] at h
  | _ :: _, [], a, h => by simp [matF] at h
  | t :: l, c :: p, a, h => by
    simp only [matF] at h
    split at h
    · rename_i hc
      have hop : opC c = true := by simp [opC, hc]
      split at h
      · split at h
        · rename_i q hq
          obtain ⟨a', e, rfl⟩ := Option.map_eq_some_iff.1 h
          obtain ⟨h1, h2⟩ := mat_facts e
          refine ⟨by simp [hop, h1], fun x hx => ?_⟩
          rcases List.mem_cons.1 hx with rfl | hx
          · have := regN_lt hq
            exact ⟨⟨by simp only; omega, by simp only; omega⟩, by simp only; omega, by simp only; omega⟩
          · exact h2 x hx
        · simp at h
      · simp at h
    · split at h
      · rename_i hc
        have hop : opC c = true := by rcases hc with rfl | rfl <;> decide
        split at h
        · obtain ⟨a', e, rfl⟩ := Option.map_eq_some_iff.1 h
          obtain ⟨h1, h2⟩ := mat_facts e
          refine ⟨by simp [hop, h1], fun x hx => ?_⟩
          rcases List.mem_cons.1 hx with rfl | hx
          · exact ⟨⟨by simp only; omega, by simp only; omega⟩, by simp only; omega, by simp only; omega⟩
          · exact h2 x hx
        · split at h
          · rename_i hn
            obtain ⟨a', e, rfl⟩ := Option.map_eq_some_iff.1 h
            obtain ⟨h1, h2⟩ := mat_facts e
            refine ⟨by simp [hop, h1], fun x hx => ?_⟩
            rcases List.mem_cons.1 hx with rfl | hx
            · refine ⟨⟨by simp only; omega, by simp only; omega⟩, ?_⟩
              rcases numX_range t.2.1 with q | q
              · exact q
              · rw [hn.2] at q; simp at q
            · exact h2 x hx
          · simp at h
      · rename_i hc1 hc2
        have hop : opC c = false := by
          simp only [not_or] at hc2
          simp [opC, hc1, hc2.1, hc2.2]
        split at h
        · obtain ⟨h1, h2⟩ := mat_facts h
          exact ⟨by simp [hop, h1], h2⟩
        · simp at h
abbrev wordW : Str := [46, 119, 111, 114, 100]
abbrev spaceW : Str := [46, 115, 112, 97, 99, 101]
abbrev liWd : Str := [108, 105]
abbrev mvW : Str := [109, 118]
abbrev nopW : Str := [110, 111, 112]
/-- what a parsed statement is good for -/
def goodS (st : StD) : Prop := st.l.length ≤ 6 ∧ (0 ≤ st.size ∧ st.size ≤ 1024) ∧ (∀ x ∈ st.l, okArg x) ∧ (st.what = liWd → 1 ≤ st.l.length) ∧ (st.what = mvW → 2 ≤ st.l.length) ∧
  (st.what ≠ wordW → st.what ≠ spaceW → st.what ≠ liWd → st.what ≠ mvW → st.what ≠ nopW → okArgs st.op st.l)
theorem pat_len {w p : Str} (h : patR w = some p) : p.length ≤ 6 := by
  unfold patR at h
  by_cases e0 : w = wordW
  · rw [if_pos e0] at h; have e := Option.some.inj h; subst e; decide
  rw [if_neg e0] at h
  by_cases e1 : w = spaceW
  · rw [if_pos e1] at h; have e := Option.some.inj h; subst e; decide
  rw [if_neg e1] at h
  by_cases e2 : w = liWd
  · rw [if_pos e2] at h; have e := Option.some.inj h; subst e; decide
  rw [if_neg e2] at h
  by_cases e3 : w = mvW
  · rw [if_pos e3] at h; have e := Option.some.inj h; subst e; decide
  rw [if_neg e3] at h
  by_cases e4 : w = nopW
  · rw [if_pos e4] at h; have e := Option.some.inj h; subst e; decide
  rw [if_neg e4] at h
  (repeat' split at h) <;> simp only [Option.some.injEq, reduceCtorEq] at h
  all_goals (subst h; decide)
theorem fin_good' {w p : Str} {q : List Tok} {a : List ArgD} {st : StD} (hp : patR w = some p) (hm : matF q p = some a) (h : finR w a = some st) : goodS st := by
  obtain ⟨f1, _, _, f4, f5⟩ := fin_ok h
  obtain ⟨m1, m2⟩ := mat_facts hm
  have hl : st.l = a ∧ st.op = opD w := by
    unfold finR at h
    split at h
    · simp only [Option.some.injEq] at h; subst h; exact ⟨rfl, rfl⟩
    · split at h
      · split at h
        · simp at h
        · simp only [Option.some.injEq] at h; subst h; exact ⟨rfl, rfl⟩
      · simp only [Option.some.injEq] at h; subst h; exact ⟨rfl, rfl⟩
  obtain ⟨l1, l2⟩ := hl
  refine ⟨by rw [l1, m1]; exact Nat.le_trans (List.length_filter_le ..) (pat_len hp), ⟨f4, f5⟩, by rw [l1]; exact m2, fun e => ?_, fun e => ?_, fun e1 e2 e3 e4 e5 => ?_⟩
  · rw [f1] at e
    rw [e, show patR liWd = some [114, 44, 120] from by decide +kernel] at hp
    simp only [Option.some.injEq] at hp
    rw [l1, m1, ← hp]; decide
  · rw [f1] at e
    rw [e, show patR mvW = some [114, 44, 114] from by decide +kernel] at hp
    simp only [Option.some.injEq] at hp
    rw [l1, m1, ← hp]; decide
  · rw [f1] at e1 e2 e3 e4 e5
    unfold patR at hp
    rw [if_neg e1, if_neg e2, if_neg e3, if_neg e4, if_neg e5] at hp
    rw [l1, l2]
    have hk : ∀ (x : Str) (k : Nat), p = x → (x.filter opC).length = k → a.length = k := fun x k e e' => by rw [m1, e, e']
    have h48 : formD 48 = 7 := by decide
    have h48' : opD w = 48 → formD (opD w : Nat) = 7 := fun e => by rw [e]; exact h48
    unfold okArgs
    (repeat' split at hp) <;> simp only [Option.some.injEq, reduceCtorEq] at hp
    all_goals (first | (have h3 := hk _ 3 hp.symm (by decide); omega) | (have h3 := hk _ 2 hp.symm (by decide); omega) | (have h3 := hk _ 0 hp.symm (by decide); omega))
theorem par_good {t lb : Str} {st : StD} (h : parR t = some (lb, some st)) : goodS st := by
  unfold parR at h
  split at h
  · simp at h
  · split at h
    · simp at h
    · split at h
      · simp at h
      · obtain ⟨st', e, h'⟩ := Option.map_eq_some_iff.1 h
        simp only [Prod.mk.injEq, Option.some.injEq] at h'
        obtain ⟨_, rfl⟩ := h'
        unfold bodR at e
        split at e
        · simp at e
        · rename_i p hp
          split at e
          · split at e
            · simp at e
            · rename_i a hm
              exact fin_good' hp hm e
          · simp at e
def goodR (p : PrR) : Prop := (∀ st ∈ p.sts, goodS st ∧ 0 ≤ st.at' ∧ st.at' ≤ 1024) ∧ (∀ x ∈ p.syms, 0 ≤ x.2 ∧ x.2 ≤ 4096) ∧ 0 ≤ p.at' ∧ p.at' ≤ 1024
theorem good_line {st : StD} (h : goodS st) (n a : Int) : goodS { st with line := n, at' := a } := h
theorem redF_good : ∀ {L : List Str} {n : Int} {p q : PrR}, redF L n p = .ok q → goodR p → goodR q ∧ q.sts.length ≤ p.sts.length + L.length ∧ q.syms.length ≤ p.syms.length + L.length
  | [], n, p, q, h, g => by simp only [redF, Except.ok.injEq] at h; subst h; exact ⟨g, by simp, by simp⟩
  | t :: ts, n, p, q, h, g => by
    obtain ⟨g1, g2, g3, g4⟩ := g
    simp only [redF] at h
    split at h
    · simp at h
    · rename_i lb st hpr
      split at h
      · simp at h
      · rename_i S hS
        have hSg : (∀ x ∈ S, 0 ≤ x.2 ∧ x.2 ≤ 4096) ∧ S.length ≤ p.syms.length + 1 := by
          unfold labS at hS
          split at hS
          · simp only [Option.some.injEq] at hS; subst hS; exact ⟨g2, by omega⟩
          · split at hS
            · simp at hS
            · simp only [Option.some.injEq] at hS; subst hS
              refine ⟨fun x hx => ?_, by simp⟩
              rcases List.mem_append.1 hx with hx | hx
              · exact g2 x hx
              · simp only [List.mem_singleton] at hx; subst hx; exact ⟨by simp only; omega, by simp only; omega⟩
        split at h
        · simp at h
        · rename_i hw
          cases st with
          | none =>
            simp only [addS] at h hw
            obtain ⟨r1, r2, r3⟩ := redF_good h ⟨g1, hSg.1, g3, g4⟩
            exact ⟨r1, by simp only [List.length_cons] at r2 ⊢; omega, by have := hSg.2; simp only [List.length_cons] at r3 ⊢; omega⟩
          | some st =>
            simp only [addS] at h hw
            obtain ⟨z1, z2, z3⟩ := par_ok hpr
            obtain ⟨r1, r2, r3⟩ := redF_good h ⟨fun x hx => by
              rcases List.mem_append.1 hx with hx | hx
              · exact g1 x hx
              · simp only [List.mem_singleton] at hx; subst hx; exact ⟨good_line (par_good hpr) _ _, g3, g4⟩, hSg.1, by simp only; omega, by simp only; omega⟩
            exact ⟨r1, by simp only [List.length_cons, List.length_append, List.length_nil] at r2 ⊢; omega, by have := hSg.2; simp only [List.length_cons] at r3 ⊢; omega⟩
theorem readR_good {s : Str} {q : PrR} (h : readR s = .ok q) : goodR q ∧ q.sts.length ≤ s.length + 1 ∧ q.syms.length ≤ s.length + 1 := by
  unfold readR at h
  split at h
  · simp at h
  · obtain ⟨h1, h2, h3⟩ := redF_good h ⟨by simp, by simp, by simp, by simp⟩
    have := (linesR_fact s).1
    simp only [List.length_nil, Nat.zero_add] at h2 h3
    exact ⟨h1, by omega, by omega⟩
end Go.Proofs.YtjlbpkokdlggiaaDoor
