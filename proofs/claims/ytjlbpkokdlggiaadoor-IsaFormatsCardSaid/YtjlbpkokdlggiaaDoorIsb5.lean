/- The plain part of IsaFormats: two valid instructions have one format only if they are equal. -/
import Derived.Test.YtjlbpkokdlggiaaDoorIsb4
namespace Go.Proofs.YtjlbpkokdlggiaaDoor
open Go.Ab
set_option linter.unusedSimpArgs false
set_option maxRecDepth 100000
theorem dd_range : ∀ (k u : Nat) (_ : u ≤ k), ∀ c ∈ Lib.decDigits u, 48 ≤ c.toNat ∧ c.toNat ≤ 57
  | k, u, hk, c, hc => by
    rw [Lib.decDigits] at hc
    split at hc
    · simp only [List.mem_singleton] at hc
      subst hc
      rw [UInt8.toNat_ofNat']; omega
    · rename_i h
      rcases List.mem_append.1 hc with hc | hc
      · match k, hk with
        | 0, hk => omega
        | k + 1, hk => exact dd_range k (u / 10) (by omega) c hc
      · simp only [List.mem_singleton] at hc
        subst hc
        rw [UInt8.toNat_ofNat']; omega
def valL (l : List UInt8) : Nat := l.foldl (fun a c => 10 * a + (c.toNat - 48)) 0
theorem valL_dd : ∀ (k u : Nat) (_ : u ≤ k), valL (Lib.decDigits u) = u
  | k, u, hk => by
    rw [Lib.decDigits]
    split
    · rename_i h
      simp only [valL, List.foldl_cons, List.foldl_nil, UInt8.toNat_ofNat']; omega
    · rename_i h
      have e : ∀ (l : List UInt8) (d : UInt8), valL (l ++ [d]) = 10 * valL l + (d.toNat - 48) := fun l d => by simp [valL]
      rw [e]
      match k, hk with
      | 0, hk => omega
      | k + 1, hk => rw [valL_dd k (u / 10) (by omega), UInt8.toNat_ofNat']; omega
theorem dd_ne (u : Nat) : Lib.decDigits u ≠ [] := by
  rw [Lib.decDigits]; split <;> simp
theorem itoa_inj {n m : Int} (h : Lib.itoa n = Lib.itoa m) : n = m := by
  have hd : ∀ u v : Nat, 45 :: Lib.decDigits u ≠ Lib.decDigits v := fun u v e => by
    have := dd_range v v (Nat.le_refl _) 45 (by rw [← e]; exact List.mem_cons_self ..)
    simp at this
  unfold Lib.itoa at h
  split at h <;> split at h
  · have := congrArg valL (List.cons.inj h).2
    rw [valL_dd _ _ (Nat.le_refl _), valL_dd _ _ (Nat.le_refl _)] at this; omega
  · exact absurd h (hd _ _)
  · exact absurd h.symm (hd _ _)
  · have := congrArg valL h
    rw [valL_dd _ _ (Nat.le_refl _), valL_dd _ _ (Nat.le_refl _)] at this; omega
/-- what no numeral contains -/
def sepC (c : UInt8) : Prop := c.toNat < 45 ∧ c ≠ 114
theorem itoa_sep {c : UInt8} (hc : sepC c) (n : Int) : c ∉ Lib.itoa n := by
  unfold Lib.itoa
  intro h
  have key : ∀ u, c ∉ Lib.decDigits u := fun u h => by
    have := dd_range u u (Nat.le_refl _) c h
    have := hc.1; omega
  split at h
  · rcases List.mem_cons.1 h with e | h
    · have := hc.1; rw [e] at this; simp at this
    · exact key _ h
  · exact key _ h
theorem regS_sep {c : UInt8} (hc : sepC c) (r : Int) : c ∉ regS r := by
  unfold regS
  intro h
  rcases List.mem_append.1 h with h | h
  · exact hc.2 (by simpa using h)
  · exact itoa_sep hc r h
theorem regS_inj {a b : Int} (h : regS a = regS b) : a = b := itoa_inj (by simpa [regS] using h)
theorem cutC {c : UInt8} : ∀ {x y s t : List UInt8} (_ : c ∉ x) (_ : c ∉ y) (_ : x ++ c :: s = y ++ c :: t), x = y ∧ s = t
  | [], [], s, t, _, _, h => by simpa using h
  | a :: x, [], s, t, hx, _, h => by
    simp only [List.cons_append, List.nil_append, List.cons.injEq] at h
    exact absurd (by rw [h.1]; exact List.mem_cons_self ..) hx
  | [], b :: y, s, t, _, hy, h => by
    simp only [List.cons_append, List.nil_append, List.cons.injEq] at h
    exact absurd (by rw [h.1]; exact List.mem_cons_self ..) hy
  | a :: x, b :: y, s, t, hx, hy, h => by
    simp only [List.cons_append, List.cons.injEq] at h
    obtain ⟨e1, e2⟩ := cutC (x := x) (y := y) (fun m => hx (List.mem_cons_of_mem _ m)) (fun m => hy (List.mem_cons_of_mem _ m)) h.2
    exact ⟨by rw [h.1, e1], e2⟩
theorem s44 : sepC 44 := ⟨by decide, by decide⟩
theorem s40 : sepC 40 := ⟨by decide, by decide⟩
theorem mnemo_no32 : ∀ s ∈ mnemo, (32 : UInt8) ∉ s := by decide
theorem mnS_no32 (op : Int) : (32 : UInt8) ∉ mnS op := by
  unfold mnS
  rw [List.getD_eq_getElem?_getD]
  cases h : mnemo[op.toNat]? with
  | none => simp
  | some s => exact mnemo_no32 s (List.mem_of_getElem? h)
theorem mn_inj_nat : ∀ a < 65, ∀ b < 65, (formD (a : Nat) ≠ 0 ∧ formD (b : Nat) ≠ 0 ∧ mnemo.getD a [] = mnemo.getD b []) → a = b := by decide +kernel
theorem mn_ne_nat : ∀ a < 65, formD (a : Nat) ≠ 0 → mnemo.getD a [] ≠ [] := by decide +kernel
theorem mnS_inj {a b : Int} (ha : formD a ≠ 0) (hb : formD b ≠ 0) (h : mnS a = mnS b) : a = b := by
  have h1 := formD_op ha
  have h2 := formD_op hb
  have := mn_inj_nat a.toNat (by omega) b.toNat (by omega) ⟨by rw [show ((a.toNat : Nat) : Int) = a by omega]; exact ha, by rw [show ((b.toNat : Nat) : Int) = b by omega]; exact hb, h⟩
  omega
theorem mnS_ne {a : Int} (ha : formD a ≠ 0) : mnS a ≠ [] := by
  have h1 := formD_op ha
  exact mn_ne_nat a.toNat (by omega) (by rw [show ((a.toNat : Nat) : Int) = a by omega]; exact ha)
def arL (i : InstD) : List UInt8 :=
  if 32 ≤ i.op ∧ i.op ≤ 36 then regS i.a ++ 44 :: 32 :: (Lib.itoa i.imm ++ 40 :: (regS i.b ++ [41]))
  else if formD i.op = 2 then regS i.a ++ 44 :: 32 :: (regS i.b ++ 44 :: 32 :: regS i.c)
  else if 2 ≤ formD i.op ∧ formD i.op ≤ 5 then regS i.a ++ 44 :: 32 :: (regS i.b ++ 44 :: 32 :: Lib.itoa i.imm)
  else regS i.a ++ 44 :: 32 :: Lib.itoa i.imm
def tlL (i : InstD) : List UInt8 := if 2 ≤ formD i.op then 32 :: arL i else []
theorem valid_form {i : InstD} (h : validD i = true) : formD i.op ≠ 0 := by
  unfold validD at h
  simp only [Bool.and_eq_true, decide_eq_true_eq] at h
  exact h.1.1.1.1.1
theorem mem_form {op : Int} (h : 32 ≤ op ∧ op ≤ 36) : formD op = 3 := by unfold formD; rw [if_neg (by omega), if_pos (by omega)]
theorem fmt_tl {i : InstD} (h : validD i = true) : fmtD i = mnS i.op ++ tlL i := by
  have hf := valid_form h
  have hr := formD_range i.op
  unfold fmtD tlL arL
  rw [if_pos h]
  by_cases h1 : 32 ≤ i.op ∧ i.op ≤ 36
  · have := mem_form h1
    rw [if_pos h1, if_pos (by omega), if_pos h1]; simp
  · rw [if_neg h1, if_neg h1]
    by_cases h2 : formD i.op = 2
    · rw [if_pos h2, if_pos (by omega), if_pos h2]; simp
    · rw [if_neg h2, if_neg h2]
      by_cases h3 : 2 ≤ formD i.op ∧ formD i.op ≤ 5
      · rw [if_pos h3, if_pos h3.1, if_pos h3]; simp
      · rw [if_neg h3, if_neg h3]
        by_cases h4 : 2 ≤ formD i.op
        · rw [if_pos h4, if_pos h4]; simp
        · rw [if_neg h4, if_neg h4]; simp
theorem tl_cut {x y : List UInt8} {i j : InstD} (hx : (32 : UInt8) ∉ x) (hy : (32 : UInt8) ∉ y) (h : x ++ tlL i = y ++ tlL j) : x = y ∧ tlL i = tlL j := by
  unfold tlL at *
  split at h <;> split at h
  · rename_i h1 h2
    obtain ⟨e1, e2⟩ := cutC hx hy h
    rw [if_pos h1, if_pos h2, e2]; exact ⟨e1, rfl⟩
  · exact absurd (by rw [List.append_nil] at h; rw [← h]; simp) hy
  · exact absurd (by rw [List.append_nil] at h; rw [h]; simp) hx
  · rename_i h1 h2
    rw [if_neg h1, if_neg h2]; simpa using h
theorem fmt_inj {i j : InstD} (hi : validD i = true) (hj : validD j = true) (h : fmtD i = fmtD j) : i = j := by
  rw [fmt_tl hi, fmt_tl hj] at h
  obtain ⟨e1, e2⟩ := tl_cut (mnS_no32 _) (mnS_no32 _) h
  have eo := mnS_inj (valid_form hi) (valid_form hj) e1
  have vi := hi
  have vj := hj
  obtain ⟨op, a, b, c, m⟩ := i
  obtain ⟨op', a', b', c', m'⟩ := j
  simp only at eo
  subst eo
  have hr := formD_range op
  have hf := valid_form hi
  simp only at hf
  unfold tlL arL at e2
  simp only at e2
  simp only [InstD.mk.injEq, true_and]
  unfold validD at vi vj
  simp only [Bool.and_eq_true, decide_eq_true_eq] at vi vj
  by_cases h0 : 2 ≤ formD op
  · rw [if_pos h0, if_pos h0] at e2
    have e2 := (List.cons.inj e2).2
    by_cases h1 : 32 ≤ op ∧ op ≤ 36
    · have hm := mem_form h1
      rw [if_pos h1, if_pos h1] at e2
      obtain ⟨p1, p2⟩ := cutC (regS_sep s44 _) (regS_sep s44 _) e2
      obtain ⟨p3, p4⟩ := cutC (itoa_sep s40 _) (itoa_sep s40 _) (List.cons.inj p2).2
      have q1 := regS_inj p1
      have q2 := itoa_inj p3
      have q3 := regS_inj (List.append_cancel_right p4)
      simp [hm, uC, regB] at vi vj
      omega
    · rw [if_neg h1, if_neg h1] at e2
      by_cases h2 : formD op = 2
      · rw [if_pos h2, if_pos h2] at e2
        obtain ⟨p1, p2⟩ := cutC (regS_sep s44 _) (regS_sep s44 _) e2
        obtain ⟨p3, p4⟩ := cutC (regS_sep s44 _) (regS_sep s44 _) (List.cons.inj p2).2
        have q1 := regS_inj p1
        have q2 := regS_inj p3
        have q3 := regS_inj (List.cons.inj p4).2
        simp [h2, lowD, highD] at vi vj
        omega
      · rw [if_neg h2, if_neg h2] at e2
        by_cases h3 : 2 ≤ formD op ∧ formD op ≤ 5
        · rw [if_pos h3, if_pos h3] at e2
          obtain ⟨p1, p2⟩ := cutC (regS_sep s44 _) (regS_sep s44 _) e2
          obtain ⟨p3, p4⟩ := cutC (regS_sep s44 _) (regS_sep s44 _) (List.cons.inj p2).2
          have q1 := regS_inj p1
          have q2 := regS_inj p3
          have q3 := itoa_inj (List.cons.inj p4).2
          simp [h2, uC, regB] at vi vj
          omega
        · rw [if_neg h3, if_neg h3] at e2
          obtain ⟨p1, p2⟩ := cutC (regS_sep s44 _) (regS_sep s44 _) e2
          have q1 := regS_inj p1
          have q3 := itoa_inj (List.cons.inj p2).2
          have hb : uB (formD op) = false := by
            simp only [uB, Bool.and_eq_false_iff, decide_eq_false_iff_not]; omega
          simp [h2, uC, hb, regB] at vi vj
          omega
  · have hf1 : formD op = 1 := by omega
    simp [hf1, uA, uB, uC, regB, lowD, highD] at vi vj
    omega
theorem fmt_nil {i : InstD} : fmtD i = [] ↔ validD i = false := by
  constructor
  · intro h
    cases hv : validD i with
    | false => rfl
    | true =>
      rw [fmt_tl hv] at h
      exact absurd (List.append_eq_nil_iff.1 h).1 (mnS_ne (valid_form hv))
  · intro h
    unfold fmtD
    rw [if_neg (by rw [h]; decide)]
theorem fmt_iff {i j : InstD} (hi : validD i = true) : fmtD i = fmtD j ↔ i = j := by
  refine ⟨fun h => ?_, fun h => by rw [h]⟩
  cases hj : validD j with
  | true => exact fmt_inj hi hj h
  | false =>
    have h1 : fmtD i = [] := by rw [h]; exact fmt_nil.2 hj
    have := fmt_nil.1 h1
    rw [hi] at this; cases this
end Go.Proofs.YtjlbpkokdlggiaaDoor
