/- The two assemblers: words and tokens. -/
import Derived.Test.YtjlbpkokdlggiaaDoorRefL
namespace Go.Proofs.YtjlbpkokdlggiaaDoor
open Go.Ab Go.RowKit
set_option linter.unusedSimpArgs false
set_option maxRecDepth 100000
/-- the kind of a word that is one token -/
def kindW : Str → Option Int
  | [] => none
  | c :: r => if letB c = true ∧ r.all wordC = true then some 1 else if (digB c = true ∨ c.toNat = 45) ∧ r.all wordC = true then some 2 else none
def sepT (x : Str) : Prop := x = [] ∨ ∃ c r, x = c :: r ∧ sepB c = true
def clean (s : Str) : Prop := ∀ c ∈ s, sepB c = false
theorem sep_of {c : UInt8} : sepB c = true ↔ c.toNat = 32 ∨ c.toNat = 44 ∨ c.toNat = 58 ∨ c.toNat = 40 ∨ c.toNat = 41 := by
  simp only [sepB, seps, List.contains_cons, Bool.or_eq_true, beq_iff_eq, List.contains_nil, Bool.false_eq_true, or_false, ← UInt8.toNat_inj]
  exact Iff.rfl
theorem sep_not {c : UInt8} : sepB c = false ↔ c.toNat ≠ 32 ∧ c.toNat ≠ 44 ∧ c.toNat ≠ 58 ∧ c.toNat ≠ 40 ∧ c.toNat ≠ 41 := by
  rw [← Bool.not_eq_true, sep_of]
  simp only [not_or]
theorem let_iff {c : UInt8} : letB c = true ↔ 97 ≤ c.toNat ∧ c.toNat ≤ 122 := by simp [letB]
theorem dig_iff {c : UInt8} : digB c = true ↔ 48 ≤ c.toNat ∧ c.toNat ≤ 57 := by simp [digB]
theorem word_iff {c : UInt8} : wordC c = true ↔ (97 ≤ c.toNat ∧ c.toNat ≤ 122) ∨ (48 ≤ c.toNat ∧ c.toNat ≤ 57) ∨ c.toNat = 95 := by simp [wordC, letB, digB, or_assoc]
theorem sign_iff {c : UInt8} : signC c = true ↔ c.toNat = 44 ∨ c.toNat = 58 ∨ c.toNat = 40 ∨ c.toNat = 41 ∨ c.toNat = 46 := by simp [signC, or_assoc]
theorem sep_word {c : UInt8} (h : sepB c = true) : wordC c = false := by
  rw [← Bool.not_eq_true, word_iff]; rw [sep_of] at h; omega
theorem tw_app {r x : Str} (hr : r.all wordC = true) (hx : sepT x) : (r ++ x).takeWhile wordC = r ∧ (r ++ x).dropWhile wordC = x := by
  have hr' : ∀ c ∈ r, wordC c = true := by simpa using hr
  rw [List.takeWhile_append_of_pos hr', List.dropWhile_append_of_pos hr']
  rcases hx with rfl | ⟨c, t, rfl, hc⟩
  · simp
  · simp [sep_word hc]
/-- a word that is one token -/
theorem tok_one {w x : Str} {k : Int} (g : Bool) (hk : kindW w = some k) (hx : sepT x) : tokR g (w ++ x) = (tokR false x).map ((k, w, g) :: ·) := by
  cases w with
  | nil => simp [kindW] at hk
  | cons c r =>
    simp only [kindW] at hk
    rw [List.cons_append, tok_cons]
    split at hk
    · rename_i h
      obtain ⟨t1, t2⟩ := tw_app h.2 hx
      simp only [Option.some.injEq] at hk
      have := let_iff.1 h.1
      rw [if_neg (by omega), if_pos h.1, t1, t2, ← hk]
    · rename_i hn
      split at hk
      · rename_i h
        obtain ⟨t1, t2⟩ := tw_app h.2 hx
        simp only [Option.some.injEq] at hk
        have h1 : ¬ c.toNat = 32 := by rcases h.1 with q | q; · have := dig_iff.1 q; omega
                                       · omega
        have h2 : ¬ letB c = true := fun q => hn ⟨q, h.2⟩
        rw [if_neg h1, if_neg h2, if_pos h.1, t1, t2, ← hk]
      · simp at hk
theorem tok_blank (g : Bool) {b : Str} (hb : ∀ c ∈ b, c = 32) (x : Str) : tokR g (b ++ x) = tokR (g || decide (b ≠ [])) x := by
  induction b generalizing g with
  | nil => simp
  | cons c b ih =>
    have hc : c = 32 := hb c (List.mem_cons_self ..)
    rw [List.cons_append, tok_cons, if_pos (by rw [hc]; rfl), ih true fun d hd => hb d (List.mem_cons_of_mem _ hd)]
    simp
theorem tok_sign (g : Bool) {c : UInt8} (hc : signC c = true) (x : Str) : tokR g (c :: x) = (tokR false x).map ((3, [c], g) :: ·) := by
  have h := sign_iff.1 hc
  rw [tok_cons, if_neg (by omega), if_neg (fun q => by have := let_iff.1 q; omega), if_neg (fun q => by
    rcases q with q | q
    · have := dig_iff.1 q; omega
    · omega), if_pos hc]
/-- the first token of a string that begins with a byte that is no blank -/
theorem tok_head (g : Bool) {c : UInt8} {s : Str} {l : List Tok} (hc : c.toNat ≠ 32) (h : tokR g (c :: s) = some l) : ∃ t l', l = t :: l' ∧ t.2.2 = g ∧ (t.1 = 3 → t.2.1 = [c] ∧ signC c = true ∧ tokR false s = some l') ∧ (t.1 = 1 ∨ t.1 = 2 ∨ t.1 = 3) ∧ (t.1 ≠ 3 → t.2.1 = c :: s.takeWhile wordC ∧ tokR false (s.dropWhile wordC) = some l' ∧ ((t.1 = 1 ∧ letB c = true) ∨ (t.1 = 2 ∧ (digB c = true ∨ c.toNat = 45)))) := by
  rw [tok_cons, if_neg hc] at h
  split at h
  · rename_i q
    obtain ⟨l', e, rfl⟩ := Option.map_eq_some_iff.1 h
    exact ⟨_, l', rfl, rfl, fun q => by simp at q, .inl rfl, fun _ => ⟨rfl, e, .inl ⟨rfl, q⟩⟩⟩
  · split at h
    · rename_i q
      obtain ⟨l', e, rfl⟩ := Option.map_eq_some_iff.1 h
      exact ⟨_, l', rfl, rfl, fun q => by simp at q, .inr (.inl rfl), fun _ => ⟨rfl, e, .inr ⟨rfl, q⟩⟩⟩
    · split at h
      · rename_i q
        obtain ⟨l', e, rfl⟩ := Option.map_eq_some_iff.1 h
        exact ⟨_, l', rfl, rfl, fun _ => ⟨rfl, q, e⟩, .inr (.inr rfl), fun q => absurd rfl q⟩
      · simp at h
theorem tw_clean {r x : Str} (hx : sepT x) : (r ++ x).takeWhile wordC = r.takeWhile wordC ∧ (r ++ x).dropWhile wordC = r.dropWhile wordC ++ x := by
  induction r with
  | nil =>
    rcases hx with rfl | ⟨c, t, rfl, hc⟩
    · simp
    · simp [sep_word hc]
  | cons d r ih =>
    by_cases hd : wordC d = true
    · simp [hd, ih]
    · simp [hd]
/-- a word that is not one token -/
theorem tok_many {w x : Str} {l : List Tok} (g : Bool) (hw : clean w) (hne : w ≠ []) (hk : kindW w = none) (hx : sepT x) (h : tokR g (w ++ x) = some l) :
    ∃ t l', l = t :: l' ∧ t.2.2 = g ∧ ((t.1 = 3 ∧ t.2.1 = [46] ∧ ∃ w2, w = 46 :: w2 ∧ tokR false (w2 ++ x) = some l') ∨ (t.1 ≠ 3 ∧ (∃ c r, w = c :: r ∧ t.2.1 = c :: r.takeWhile wordC ∧ c.toNat ≠ 46) ∧ ∃ t2 l'', l' = t2 :: l'' ∧ t2.2.2 = false ∧ (t2.1 = 3 → t2.2.1 = [46]) ∧ t2.2.1 ≠ [58])) := by
  cases w with
  | nil => exact absurd rfl hne
  | cons c r =>
    have hc := sep_not.1 (hw c (List.mem_cons_self ..))
    rw [List.cons_append] at h
    obtain ⟨t, l', e, e1, e2, e3, e4⟩ := tok_head g hc.1 h
    refine ⟨t, l', e, e1, ?_⟩
    by_cases h3 : t.1 = 3
    · obtain ⟨q1, q2, q3⟩ := e2 h3
      have := sign_iff.1 q2
      have h46 : c = 46 := UInt8.toNat_inj.1 (show c.toNat = 46 by omega)
      exact .inl ⟨h3, by rw [q1, h46], r, by rw [h46], q3⟩
    · obtain ⟨q1, q2, q3⟩ := e4 h3
      obtain ⟨t1, t2⟩ := tw_clean (r := r) hx
      rw [t1] at q1
      rw [t2] at q2
      have hc46 : c.toNat ≠ 46 := by
        rcases q3 with ⟨_, q⟩ | ⟨_, q | q⟩
        · have := let_iff.1 q; omega
        · have := dig_iff.1 q; omega
        · omega
      refine .inr ⟨h3, ⟨c, r, rfl, q1, hc46⟩, ?_⟩
      have hra : ¬ r.all wordC = true := fun q => by
        simp only [kindW] at hk
        rcases q3 with ⟨_, q'⟩ | ⟨_, q'⟩
        · rw [if_pos ⟨q', q⟩] at hk; simp at hk
        · split at hk
          · simp at hk
          · rw [if_pos ⟨q', q⟩] at hk; simp at hk
      cases hd : r.dropWhile wordC with
      | nil =>
        exfalso
        apply hra
        have e := List.takeWhile_append_dropWhile (p := wordC) (l := r)
        rw [hd, List.append_nil] at e
        have q := List.all_takeWhile (p := wordC) (l := r)
        rwa [e] at q
      | cons d r' =>
        have hdm : d ∈ r := (List.dropWhile_suffix wordC).subset (by rw [hd]; exact List.mem_cons_self ..)
        have hds := sep_not.1 (hw d (List.mem_cons_of_mem _ hdm))
        rw [hd, List.cons_append] at q2
        obtain ⟨t', l'', z, z1, z2, z3, z4⟩ := tok_head false hds.1 q2
        refine ⟨t', l'', z, z1, fun q => ?_, fun q => ?_⟩
        · obtain ⟨y1, y2, _⟩ := z2 q
          have := sign_iff.1 y2
          rw [y1, show d = 46 from UInt8.toNat_inj.1 (show d.toNat = 46 by omega)]
        · have hd58 : d = 58 := by
            by_cases h3' : t'.1 = 3
            · rw [(z2 h3').1] at q
              simp only [List.cons.injEq, and_true] at q
              exact q
            · rw [(z4 h3').1] at q
              simp only [List.cons.injEq] at q
              exact q.1
          rw [hd58] at hds
          exact hds.2.2.1 rfl
/-- the head of tokens that is a colon -/
theorem tok_58 {g : Bool} {s : Str} {t : Tok} {l : List Tok} {c : UInt8} (hc : c.toNat ≠ 32) (h : tokR g (c :: s) = some (t :: l)) (h58 : t.2.1 = [58]) : c = 58 := by
  obtain ⟨t', l', z, _, z2, _, z4⟩ := tok_head g hc h
  simp only [List.cons.injEq] at z
  obtain ⟨rfl, _⟩ := z
  by_cases h3 : t.1 = 3
  · rw [(z2 h3).1] at h58
    simp only [List.cons.injEq, and_true] at h58
    exact h58
  · rw [(z4 h3).1] at h58
    simp only [List.cons.injEq] at h58
    exact h58.1
end Go.Proofs.YtjlbpkokdlggiaaDoor
