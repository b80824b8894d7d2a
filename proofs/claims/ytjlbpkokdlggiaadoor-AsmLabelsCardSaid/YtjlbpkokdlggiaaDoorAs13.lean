/- The labels of a source that assembles: the plain part. (Numbers of seat r2.D.) -/
import Derived.Test.YtjlbpkokdlggiaaDoorAs12
namespace Go.Proofs.YtjlbpkokdlggiaaDoor
open Go.Ab Go.RowKit
set_option linter.unusedSimpArgs false
set_option maxRecDepth 100000
theorem shapes_fact2 : ∀ x ∈ shapes, (x.2.code = 75 ∧ x.2.pat = [110]) ∨ (x.2.pat ≠ [110] ∧ ((x.2.code = 74 ∧ x.2.words = 1) ∨ (x.2.code = 76 ∧ x.2.words = 2) ∨ (x.2.code = 77 ∧ x.2.words = 1))) := by decide +kernel
def lenOk (l : LineD) : Prop := l.code = 75 ∨ (l.code = 74 ∧ l.words = 1) ∨ (l.code = 76 ∧ l.words = 2) ∨ (l.code = 77 ∧ l.words = 1)
theorem ps_lenOk {s : Str} {l : LineD} (h : psOpt s = some l) : lenOk l := by
  unfold psOpt at h
  split at h
  · cases h
  · rename_i hd hf
    obtain ⟨x0, hx0, rfl⟩ := findS_mem hf
    have hq := shapes_fact2 x0 hx0
    split at h
    · cases h
    · split at h
      · cases h
      · split at h
        · simp only [Option.some.injEq] at h
          subst h
          rcases hq with ⟨h1, h2⟩ | ⟨h1, h2⟩
          · exact .inl h1
          · simp only [lenOk, psLine, if_neg h1]; exact .inr h2
        · cases h
theorem code_words {l : LineD} {x : Int} {w : List Int} (h0 : 0 ≤ l.words) (hl : lenOk l) (h : codeL l x = some w) : (w.length : Int) = l.words := by
  unfold codeL at h
  rcases hl with h1 | ⟨h1, h2⟩ | ⟨h1, h2⟩ | ⟨h1, h2⟩
  · simp [h1] at h; subst h; simp; omega
  · simp [h1] at h; subst h; simp [h2]
  · simp [h1] at h; subst h; simp [liW, h2]
  · simp [h1] at h; obtain ⟨_, rfl⟩ := h; simp [h2]
def sumW : List LineD → Int
  | [] => 0
  | l :: r => l.words + sumW r
theorem sumW_app (a : List LineD) (l : LineD) : sumW (a ++ [l]) = sumW a + l.words := by
  induction a with
  | nil => simp [sumW]
  | cons x a ih => simp only [List.cons_append, sumW, ih]; omega
theorem enc_len {S : List (Str × Int)} : ∀ {L : List LineD} {out res : List Int}, (∀ l ∈ L, 0 ≤ l.words ∧ lenOk l) → encAll S L out = .ok res → (res.length : Int) = out.length + sumW L
  | [], out, res, _, h => by simp only [encAll, Except.ok.injEq] at h; subst h; simp [sumW]
  | l :: L, out, res, hL, h => by
    simp only [encAll] at h
    split at h
    · cases h
    · split at h
      · cases h
      · rename_i w hw
        have h1 := enc_len (fun x hx => hL x (List.mem_cons_of_mem _ hx)) h
        obtain ⟨h2, h3⟩ := hL l (List.mem_cons_self ..)
        have h4 := code_words h2 h3 hw
        rw [List.length_append] at h1
        simp only [sumW]
        omega
theorem findL_none {s : Str} : ∀ {l : List (Str × Int)}, findL s l = none → ∀ x ∈ l, x.1 ≠ s
  | x :: r, h, y, hy => by
    simp only [findL] at h
    split at h
    · cases h
    · rename_i hx
      rcases List.mem_cons.1 hy with rfl | hy
      · exact hx
      · exact findL_none h y hy
/-- what holds of a program's labels -/
structure LabP (p : ProgD) : Prop where
  addr : ∀ x ∈ p.syms, ∃ k : Int, x.2 = 4 * k ∧ 0 ≤ k ∧ k ≤ p.words
  pair : p.syms.Pairwise fun a b => a.2 ≤ b.2 ∧ a.1 ≠ b.1
  sum : p.words = sumW p.lines
  lines : ∀ l ∈ p.lines, 0 ≤ l.words ∧ lenOk l
theorem fin_lab {lb : Str} {k : Int} {q r : ProgD} (h : finD lb (4 * k) q = (0, r)) (hk : 0 ≤ k ∧ k ≤ q.words) (ha : ∀ x ∈ q.syms, ∃ j : Int, x.2 = 4 * j ∧ 0 ≤ j ∧ j ≤ k) (hp : q.syms.Pairwise fun a b => a.2 ≤ b.2 ∧ a.1 ≠ b.1) (hs : q.words = sumW q.lines) (hl : ∀ l ∈ q.lines, 0 ≤ l.words ∧ lenOk l) : LabP r := by
  unfold finD at h
  split at h
  · simp at h
  · rename_i hno
    split at h
    · simp at h
    · simp only [Prod.mk.injEq, true_and] at h
      subst h
      split
      · exact ⟨fun x hx => by obtain ⟨j, h1, h2, h3⟩ := ha x hx; exact ⟨j, h1, h2, by omega⟩, hp, hs, hl⟩
      · rename_i hlb
        have hf : findL lb q.syms = none := by
          cases hf : findL lb q.syms with
          | none => rfl
          | some v => exact absurd ⟨hlb, by rw [hf]; rfl⟩ hno
        refine ⟨fun x hx => ?_, ?_, hs, hl⟩
        · rcases List.mem_append.1 hx with hx | hx
          · obtain ⟨j, h1, h2, h3⟩ := ha x hx; exact ⟨j, h1, h2, by simp only; omega⟩
          · simp only [List.mem_singleton] at hx; subst hx; exact ⟨k, rfl, hk⟩
        · refine List.pairwise_append.2 ⟨hp, List.pairwise_singleton _ _, fun x hx y hy => ?_⟩
          simp only [List.mem_singleton] at hy
          subst hy
          obtain ⟨j, h1, h2, h3⟩ := ha x hx
          exact ⟨by simp only; omega, findL_none hf x hx⟩
theorem add_lab {p q : ProgD} {n : Int} {t : Str} (h : addD p n t = (0, q)) (hw : 0 ≤ p.words) (hp : LabP p) : LabP q := by
  unfold addD at h
  split at h
  · simp at h
  · by_cases hr : (clD t).2.1 = []
    · rw [if_pos hr] at h
      exact fin_lab h ⟨hw, Int.le_refl _⟩ hp.addr hp.pair hp.sum hp.lines
    · rw [if_neg hr] at h
      cases hl : psOpt (clD t).2.1 with
      | none => rw [hl] at h; simp at h
      | some l =>
        rw [hl] at h
        have hg := (ps_good hl).1.1
        have ho := ps_lenOk hl
        refine fin_lab h ⟨hw, by simp only; omega⟩ hp.addr hp.pair (by simp only; rw [sumW_app, hp.sum]) (fun x hx => ?_)
        rcases List.mem_append.1 hx with hx | hx
        · exact hp.lines x hx
        · simp only [List.mem_singleton] at hx
          subst hx
          exact ⟨hg, ho⟩
theorem addAll_lab : ∀ {L : List Str} {n : Int} {p q : ProgD}, addAll L n p = .ok q → 0 ≤ p.words → LabP p → LabP q
  | [], n, p, q, h, _, hp => by simp only [addAll, Except.ok.injEq] at h; subst h; exact hp
  | t :: L, n, p, q, h, hw, hp => by
    simp only [addAll] at h
    split at h
    · rename_i h0
      have ha : addD p n t = (0, (addD p n t).2) := by rw [← h0]
      exact addAll_lab h (add_facts ha hw).1 (add_lab ha hw hp)
    · cases h
theorem parse_lab {s : Str} {p : ProgD} (h : parseD s = .ok p) : LabP p := by
  unfold parseD at h
  split at h
  · cases h
  · exact addAll_lab h (Int.le_refl _) ⟨by simp, List.Pairwise.nil, rfl, by simp⟩
/-- what a source that is looked at gives: the same error, or words and labels -/
theorem labels_plain (s : Str) : (∃ e : Int × Int, asmD s = .error e ∧ symD s = .error e ∧ ¬ e.1 = 0) ∨
    ∃ (w : List Int) (y : List (Str × Int)), asmD s = .ok w ∧ symD s = .ok y ∧ w.length ≤ 1024 ∧ y.length ≤ 8193 ∧ (∀ x ∈ y, ∃ k : Int, x.2 = 4 * k ∧ 0 ≤ k ∧ k ≤ w.length) ∧ y.Pairwise fun a b => a.2 ≤ b.2 ∧ a.1 ≠ b.1 := by
  cases hp : parseD s with
  | error e =>
    have := parse_err hp
    exact .inl ⟨e, by simp only [asmD, hp], by simp only [symD, hp], by omega⟩
  | ok p =>
    obtain ⟨hg, hl1, hl2⟩ := parse_good hp
    have hlab := parse_lab hp
    cases he : encAll p.syms p.lines [] with
    | error e =>
      have := enc_err he
      exact .inl ⟨e, by simp only [asmD, hp, he], by simp only [symD, hp, he], by omega⟩
    | ok out =>
      have hlen := enc_len hlab.lines he
      have hw := hg.2.2.2
      rw [← hlab.sum] at hlen
      simp only [List.length_nil] at hlen
      refine .inr ⟨out, p.syms, by simp only [asmD, hp, he], by simp only [symD, hp, he], by omega, hl2, fun x hx => ?_, hlab.pair⟩
      obtain ⟨k, h1, h2, h3⟩ := hlab.addr x hx
      exact ⟨k, h1, h2, by omega⟩
end Go.Proofs.YtjlbpkokdlggiaaDoor
