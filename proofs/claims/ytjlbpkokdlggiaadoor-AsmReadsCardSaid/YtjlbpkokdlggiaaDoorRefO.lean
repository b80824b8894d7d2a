/- The two assemblers: operands against a pattern. -/
import Derived.Test.YtjlbpkokdlggiaaDoorRefN
namespace Go.Proofs.YtjlbpkokdlggiaaDoor
open Go.Ab Go.RowKit
set_option linter.unusedSimpArgs false
set_option maxRecDepth 100000
theorem skip_split (x : Str) : ∃ b, (∀ c ∈ b, c = 32) ∧ x = b ++ skipD x ∧ (skipD x = [] ∨ ∃ c r, skipD x = c :: r ∧ c.toNat ≠ 32) := by
  refine ⟨x.takeWhile (· == 32), fun c hc => ?_, (List.takeWhile_append_dropWhile ..).symm, ?_⟩
  · have := List.all_takeWhile (p := (· == (32 : UInt8))) (l := x)
    rw [List.all_eq_true] at this
    simpa using this c hc
  · unfold skipD
    induction x with
    | nil => exact .inl rfl
    | cons c r ih =>
      by_cases h : c = 32
      · subst h; simpa using ih
      · refine .inr ⟨c, r, by simp [h], fun e => h (UInt8.toNat_inj.1 (by rw [e]; rfl))⟩
theorem word_split (y : Str) : y = wordD y ++ afterD y ∧ clean (wordD y) ∧ sepT (afterD y) := by
  refine ⟨(List.takeWhile_append_dropWhile ..).symm, fun c hc => ?_, ?_⟩
  · have := List.all_takeWhile (p := fun c => !sepB c) (l := y)
    rw [List.all_eq_true] at this
    simpa using this c hc
  · unfold afterD
    induction y with
    | nil => exact .inl rfl
    | cons c r ih =>
      by_cases h : sepB c = true
      · exact .inr ⟨c, r, by simp [h], h⟩
      · simpa [h] using ih
theorem tok_skip (g : Bool) (x : Str) : ∃ g', tokR g x = tokR g' (skipD x) := by
  obtain ⟨b, hb, e, _⟩ := skip_split x
  exact ⟨g || decide (b ≠ []), by conv => lhs; rw [e, tok_blank g hb]⟩
def toR (p : Str) : Str := p.map fun c => if c = 105 then 110 else c
def isSg (c : UInt8) : Bool := decide (c = 44) || decide (c = 40) || decide (c = 41)
def sgHead : Str → Bool
  | [] => true
  | c :: _ => isSg c
def okP : Str → Bool
  | [] => true
  | c :: p => if isSg c = true then okP p else (decide (c = 114) || decide (c = 105) || decide (c = 110) || decide (c = 120)) && sgHead p && okP p
def updA : Str → List ArgD → Nat → (Int × Int × Int) → (Int × Str) → (Int × Int × Int) × (Int × Str)
  | [], _, _, rg, im => (rg, im)
  | c :: p, a, k, rg, im =>
    if isSg c = true then updA p a k rg im
    else if c = 114 then updA p a.tail (k + 1) (setR k (a.getD 0 arg0).1 rg) im
    else updA p a.tail k rg ((a.getD 0 arg0).2.1, (a.getD 0 arg0).2.2)
def pdF (p x : Str) (k : Nat) (rg : Int × Int × Int) (im : Int × Str) : Option ((Int × Int × Int) × (Int × Str)) := match patD p x k rg im with
  | some (rest, rg', im') => if skipD rest = [] then some (rg', im') else none
  | none => none
def mtF (g : Bool) (x p : Str) : Option (List ArgD) := (tokR g x).bind fun l => matF l p
theorem mat_nil (l : List Tok) : matF l [] = if l = [] then some [] else none := by
  cases l <;> rfl
theorem sg_iff {c : UInt8} : isSg c = true ↔ c = 44 ∨ c = 40 ∨ c = 41 := by simp [isSg, or_assoc]
theorem sg_sign {c : UInt8} (h : isSg c = true) : signC c = true ∧ c.toNat ≠ 46 ∧ c ≠ 114 ∧ c ≠ 105 ∧ c ≠ 110 ∧ c ≠ 120 ∧ (if c = 105 then (110 : UInt8) else c) = c := by
  rcases sg_iff.1 h with rfl | rfl | rfl <;> decide
theorem mat_sg {c : UInt8} (h : isSg c = true) (t : Tok) (l : List Tok) (p : Str) : matF (t :: l) (c :: p) = if t.1 = 3 ∧ t.2.1 = [c] then matF l p else none := by
  obtain ⟨_, _, h1, _, h2, h3, _⟩ := sg_sign h
  simp only [matF]
  rw [if_neg h1, if_neg (by simp [h2, h3])]
/-- an operand does not match a sign -/
theorem mat_op3 {c : UInt8} (h : c = 114 ∨ c = 110 ∨ c = 120) (t : Tok) (ht : t.1 = 3) (l : List Tok) (p : Str) : matF (t :: l) (c :: p) = none := by
  simp only [matF, ht]
  by_cases h1 : c = 114
  · rw [if_pos h1, if_neg (by decide)]
  · rw [if_neg h1, if_pos (h.resolve_left h1), if_neg (fun q => absurd q.2.1 (by decide)), if_neg (fun q => absurd q.1 (by decide))]
/-- what does not match behind an operand does not match -/
theorem mat_op_none {c : UInt8} (h : c = 114 ∨ c = 110 ∨ c = 120) (t : Tok) (l : List Tok) (p : Str) (hl : matF l p = none) : matF (t :: l) (c :: p) = none := by
  simp only [matF, hl, Option.map_none]
  by_cases h1 : c = 114
  · rw [if_pos h1]; split
    · split <;> rfl
    · rfl
  · rw [if_neg h1, if_pos (h.resolve_left h1)]; split
    · rfl
    · split <;> rfl
theorem toR_cons (c : UInt8) (p : Str) : toR (c :: p) = (if c = 105 then 110 else c) :: toR p := rfl
theorem map_upd (o : Option (List ArgD)) (a : ArgD) (f : List ArgD → (Int × Int × Int) × (Int × Str)) : (o.map (a :: ·)).map f = o.map fun l => f (a :: l) := by cases o <;> rfl
theorem kind_cases {w : Str} {k : Int} (h : kindW w = some k) : (k = 1 ∧ (numX w).2 = false) ∨ (k = 2 ∧ regN w = none) := by
  have hk : k = 1 ∨ k = 2 := by
    cases w with
    | nil => simp [kindW] at h
    | cons c r =>
      simp only [kindW] at h
      split at h
      · simp only [Option.some.injEq] at h; exact .inl h.symm
      · split at h
        · simp only [Option.some.injEq] at h; exact .inr h.symm
        · simp at h
  rcases hk with rfl | rfl
  · refine .inl ⟨rfl, ?_⟩
    cases e : (numX w).2 with
    | false => rfl
    | true => rw [num_kind e] at h; simp at h
  · refine .inr ⟨rfl, ?_⟩
    cases e : regN w with
    | none => rfl
    | some q => rw [reg_kind e] at h; simp at h
theorem pat_eq : ∀ (p : Str), okP p = true → ∀ (x : Str) (g : Bool) (k : Nat) (rg : Int × Int × Int) (im : Int × Str), pdF p x k rg im = (mtF g x (toR p)).map fun a => updA p a k rg im
  | [], _, x, g, k, rg, im => by
    obtain ⟨g', e⟩ := tok_skip g x
    obtain ⟨_, _, _, h⟩ := skip_split x
    unfold pdF mtF
    rw [e]
    simp only [patD, toR, List.map_nil, updA]
    rcases h with h | ⟨c, r, h, hc⟩
    · rw [h, tok_nil, if_pos rfl]; rfl
    · rw [h, if_neg (by simp)]
      cases ht : tokR g' (c :: r) with
      | none => rfl
      | some l =>
        obtain ⟨t, l', rfl, _⟩ := tok_head g' hc ht
        rfl
  | c :: p, hp, x, g, k, rg, im => by
    obtain ⟨g', e⟩ := tok_skip g x
    obtain ⟨_, _, _, hs⟩ := skip_split x
    simp only [okP] at hp
    by_cases hc : isSg c = true
    · rw [if_pos hc] at hp
      obtain ⟨c1, c2, c3, c4, c5, c6, c7⟩ := sg_sign hc
      have hsg := sg_iff.1 hc
      unfold pdF mtF
      rw [e, toR_cons, c7]
      simp only [patD, updA, if_pos hsg, if_pos hc]
      by_cases hpre : Lib.hasPrefix (skipD x) [c] = true
      · obtain ⟨r, hr⟩ := (pre1_iff _ _).1 hpre
        rw [if_pos hpre, hr, trim1, tok_sign g' c1]
        have ih := pat_eq p hp r false k rg im
        unfold pdF mtF at ih
        rw [ih]
        cases tokR false r with
        | none => rfl
        | some l =>
          simp only [Option.map_some, Option.bind_some]
          rw [mat_sg hc, if_pos ⟨rfl, rfl⟩]
      · rw [if_neg hpre]
        simp only
        cases ht : tokR g' (skipD x) with
        | none => rfl
        | some l =>
          simp only [Option.bind_some]
          cases l with
          | nil => rfl
          | cons t l' =>
            rw [mat_sg hc, if_neg]; · rfl
            rintro ⟨q1, q2⟩
            rcases hs with hs | ⟨d, r, hs, hd⟩
            · rw [hs, tok_nil] at ht; simp at ht
            · rw [hs] at ht
              obtain ⟨t', l'', z, _, z2, _⟩ := tok_head g' hd ht
              simp only [List.cons.injEq] at z
              rw [← z.1] at z2
              have := (z2 q1).1
              rw [q2] at this
              simp only [List.cons.injEq, and_true] at this
              exact hpre ((pre1_iff _ _).2 ⟨r, by rw [hs, this]⟩)
    · rw [if_neg hc] at hp
      simp only [Bool.and_eq_true] at hp
      obtain ⟨⟨hop, hsh⟩, hokp⟩ := hp
      have hns : ¬ (c = 44 ∨ c = 40 ∨ c = 41) := fun q => hc (sg_iff.2 q)
      have hop' : (if c = 105 then (110 : UInt8) else c) = 114 ∨ (if c = 105 then (110 : UInt8) else c) = 110 ∨ (if c = 105 then (110 : UInt8) else c) = 120 := by
        simp only [Bool.or_eq_true, decide_eq_true_eq] at hop
        rcases hop with ((rfl | rfl) | rfl) | rfl <;> decide
      obtain ⟨y1, y2, y3⟩ := word_split (skipD x)
      unfold pdF mtF
      rw [e, toR_cons]
      simp only [patD, updA, if_neg hns, if_neg hc]
      cases hk : kindW (wordD (skipD x)) with
      | none =>
        have h1 : regN (wordD (skipD x)) = none := by
          cases q : regN (wordD (skipD x)) with
          | none => rfl
          | some z => rw [reg_kind q] at hk; simp at hk
        have h2 : ∀ n, pvD (wordD (skipD x)) n = none := fun n => by
          rw [pv_kind, if_neg (by simp [hk]), if_neg (fun q => by rw [num_kind q] at hk; simp at hk)]
        simp only [h1, h2, ite_self]
        cases ht : tokR g' (skipD x) with
        | none => rfl
        | some l =>
          simp only [Option.bind_some]
          have hm : matF l ((if c = 105 then 110 else c) :: toR p) = none := by
            cases l with
            | nil => rfl
            | cons t l' =>
              by_cases hw : wordD (skipD x) = []
              · rcases hs with hs | ⟨d, r, hs, hd⟩
                · rw [hs, tok_nil] at ht; simp at ht
                · have hsep : sepB d = true := by
                    rw [hw, List.nil_append] at y1
                    rcases y3 with q | ⟨d', r', q, q'⟩
                    · rw [q] at y1; rw [y1] at hs; simp at hs
                    · rw [q, hs] at y1
                      simp only [List.cons.injEq] at y1
                      rw [y1.1]; exact q'
                  have hsc : signC d = true := by rw [sign_iff]; rw [sep_of] at hsep; omega
                  rw [hs, tok_sign g' hsc] at ht
                  obtain ⟨l'', _, z⟩ := Option.map_eq_some_iff.1 ht
                  simp only [List.cons.injEq] at z
                  exact mat_op3 hop' t (by rw [← z.1]) _ _
              · rw [y1] at ht
                obtain ⟨t', l'', z, _, z2⟩ := tok_many g' y2 hw hk y3 ht
                simp only [List.cons.injEq] at z
                obtain ⟨rfl, rfl⟩ := z
                rcases z2 with ⟨q, _⟩ | ⟨_, _, t2, l3, rfl, q2, q3, _⟩
                · exact mat_op3 hop' t q _ _
                · refine mat_op_none hop' _ _ _ ?_
                  cases p with
                  | nil => rfl
                  | cons s p =>
                    simp only [sgHead] at hsh
                    obtain ⟨_, s2, _, _, _, _, s7⟩ := sg_sign hsh
                    rw [toR_cons, s7, mat_sg hsh, if_neg]
                    rintro ⟨a1, a2⟩
                    rw [q3 a1] at a2
                    simp only [List.cons.injEq, and_true] at a2
                    rw [← a2] at s2
                    exact s2 rfl
          rw [hm]; rfl
      | some kk =>
        have ht : tokR g' (skipD x) = (tokR false (afterD (skipD x))).map ((kk, wordD (skipD x), g') :: ·) := by
          conv => lhs; rw [y1]
          exact tok_one g' hk y3
        rw [ht]
        generalize wordD (skipD x) = w at hk
        generalize afterD (skipD x) = y
        have hmb : ((tokR false y).map ((kk, w, g') :: ·)).bind (fun l => matF l ((if c = 105 then 110 else c) :: toR p)) = (tokR false y).bind fun l => matF ((kk, w, g') :: l) ((if c = 105 then 110 else c) :: toR p) := by
          cases tokR false y <;> rfl
        rw [hmb]
        by_cases h114 : c = 114
        · subst h114
          simp only [if_true, show ((114 : UInt8) = 105) = False from by decide, if_false]
          have hmf : ∀ l, matF ((kk, w, g') :: l) (114 :: toR p) = match regN w with
              | some q => (matF l (toR p)).map (((q : Int), 0, []) :: ·)
              | none => none := fun l => by
            simp only [matF, if_true]
            rcases kind_cases hk with ⟨rfl, _⟩ | ⟨rfl, q⟩
            · rw [if_pos rfl]; rfl
            · rw [if_neg (by decide), q]
          simp only [hmf]
          cases hr : regN w with
          | none => cases tokR false y <;> rfl
          | some q =>
            simp only
            have ih := pat_eq p hokp y false (k + 1) (setR k q rg) im
            unfold pdF mtF at ih
            rw [ih]
            cases tokR false y with
            | none => rfl
            | some l =>
              simp only [Option.bind_some]
              cases matF l (toR p) <;> rfl
        · simp only [if_neg h114]
          have hv : ∀ n, pvD w n = if n = true ∧ kk = 1 ∧ nameD w = true then some (0, w) else if kk = 2 ∧ (numX w).2 = true then some ((numX w).1, []) else none := fun n => by
            rw [pv_kind, hk]
            simp only [Option.some.injEq]
            rcases kind_cases hk with ⟨rfl, q⟩ | ⟨rfl, q⟩
            · simp [q]
            · simp
          have hne : ¬ (if c = 105 then (110 : UInt8) else c) = 114 := by
            by_cases q : c = 105
            · rw [if_pos q]; decide
            · rw [if_neg q]; exact h114
          have hop2 : (if c = 105 then (110 : UInt8) else c) = 110 ∨ (if c = 105 then (110 : UInt8) else c) = 120 := by
            exact hop'.resolve_left hne
          have h120 : (if c = 105 then (110 : UInt8) else c) = 120 ↔ c = 120 := by
            by_cases q : c = 105
            · rw [if_pos q, q]; decide
            · rw [if_neg q]
          have hmf : ∀ l, matF ((kk, w, g') :: l) ((if c = 105 then 110 else c) :: toR p) = match pvD w (decide (c = 120)) with
              | some v => (matF l (toR p)).map ((0, v.1, v.2) :: ·)
              | none => none := fun l => by
            simp only [matF]
            rw [if_neg hne, if_pos hop2, hv]
            simp only [h120, decide_eq_true_eq]
            by_cases a1 : c = 120 ∧ kk = 1 ∧ nameD w = true
            · rw [if_pos a1, if_pos a1]
            · rw [if_neg a1, if_neg a1]
              by_cases a2 : kk = 2 ∧ (numX w).2 = true
              · rw [if_pos a2, if_pos a2]
              · rw [if_neg a2, if_neg a2]
          simp only [hmf]
          cases hr : pvD w (decide (c = 120)) with
          | none => cases tokR false y <;> rfl
          | some v =>
            simp only
            have ih := pat_eq p hokp y false k rg v
            unfold pdF mtF at ih
            rw [ih]
            cases tokR false y with
            | none => rfl
            | some l =>
              simp only [Option.bind_some]
              cases matF l (toR p) <;> rfl
end Go.Proofs.YtjlbpkokdlggiaaDoor
