/- Disassembled lines, blanks between their tokens: the plain part. (Numbers of seat r2.D.) -/
import Derived.Test.YtjlbpkokdlggiaaGreatDoorAs12
namespace Go.Proofs.YtjlbpkokdlggiaaGreatDoor
open Go.Ab Go.RowKit
set_option linter.unusedSimpArgs false
set_option maxRecDepth 100000
def blank (b : Str) : Prop := ∀ c ∈ b, c = 32
def noSep (s : Str) : Prop := ∀ c ∈ s, sepB c = false
def endT (x : Str) : Prop := x = [] ∨ ∃ c r, x = c :: r ∧ sepB c = true
theorem sep32 : sepB 32 = true := rfl
theorem skip_app {b x : Str} (hb : blank b) (hx : ∀ c r, x = c :: r → c ≠ 32) : skipD (b ++ x) = x := by
  induction b with
  | nil =>
    cases x with
    | nil => rfl
    | cons c r =>
      have := hx c r rfl
      simp [skipD, this]
  | cons c b ih =>
    have hc : c = 32 := hb c (List.mem_cons_self ..)
    subst hc
    have ih' := ih fun d hd => hb d (List.mem_cons_of_mem _ hd)
    simpa [skipD] using ih'
theorem skip_blank {b : Str} (hb : blank b) : skipD b = [] := by
  have := skip_app (x := []) hb (fun c r h => by cases h)
  simpa using this
theorem word_app {w x : Str} (hw : noSep w) (hx : endT x) : wordD (w ++ x) = w ∧ afterD (w ++ x) = x := by
  induction w with
  | nil =>
    rcases hx with rfl | ⟨c, r, rfl, hc⟩
    · exact ⟨rfl, rfl⟩
    · simp [wordD, afterD, hc]
  | cons c w ih =>
    have hc := hw c (List.mem_cons_self ..)
    obtain ⟨h1, h2⟩ := ih fun d hd => hw d (List.mem_cons_of_mem _ hd)
    simp only [wordD, afterD] at h1 h2 ⊢
    simp [hc, h1, h2]
theorem end_nil : endT [] := .inl rfl
theorem end_sep {c : UInt8} {r : Str} (h : sepB c = true) : endT (c :: r) := .inr ⟨c, r, rfl, h⟩
theorem end_blank {b x : Str} (hb : blank b) (hx : endT x) : endT (b ++ x) := by
  cases b with
  | nil => exact hx
  | cons c b => exact .inr ⟨c, b ++ x, rfl, by rw [hb c (List.mem_cons_self ..)]; rfl⟩
theorem head_ne {t x : Str} (ht : noSep t) (h0 : t ≠ []) : ∀ c r, t ++ x = c :: r → c ≠ 32 := by
  intro c r h e
  cases t with
  | nil => exact h0 rfl
  | cons d t =>
    simp only [List.cons_append, List.cons.injEq] at h
    have := ht d (List.mem_cons_self ..)
    rw [h.1, e, sep32] at this
    cases this
theorem pre_one (c : UInt8) (x : Str) : Lib.hasPrefix (c :: x) [c] = true ∧ Lib.trimPrefix (c :: x) [c] = x := by
  have h : Lib.hasPrefix (c :: x) [c] = true := by simp [Lib.hasPrefix]
  exact ⟨h, by unfold Lib.trimPrefix; rw [if_pos h]; rfl⟩
theorem pat_c {c : UInt8} {p b x : Str} (hc : c = 44 ∨ c = 40 ∨ c = 41) (hb : blank b) (k : Nat) (rg : Int × Int × Int) (im : Int × Str) : patD (c :: p) (b ++ c :: x) k rg im = patD p x k rg im := by
  have hs : skipD (b ++ c :: x) = c :: x := skip_app hb fun d r h => by
    simp only [List.cons.injEq] at h
    rw [← h.1]
    rcases hc with rfl | rfl | rfl <;> decide
  simp only [patD, if_pos hc, hs, (pre_one c x).1, (pre_one c x).2, if_true]
theorem pat_r {p b t x : Str} {q : Nat} (hb : blank b) (ht : noSep t) (h0 : t ≠ []) (hx : endT x) (hq : regN t = some q) (k : Nat) (rg : Int × Int × Int) (im : Int × Str) : patD (114 :: p) (b ++ (t ++ x)) k rg im = patD p x (k + 1) (setR k q rg) im := by
  have hs : skipD (b ++ (t ++ x)) = t ++ x := skip_app hb (head_ne ht h0)
  obtain ⟨h1, h2⟩ := word_app ht hx
  have hn : ¬ ((114 : UInt8) = 44 ∨ (114 : UInt8) = 40 ∨ (114 : UInt8) = 41) := by decide
  simp only [patD, if_neg hn, hs, h1, h2, hq, if_true]
theorem pat_v {c : UInt8} {p b t x : Str} {v : Int} (hc : c = 105 ∨ c = 120) (hb : blank b) (ht : noSep t) (h0 : t ≠ []) (hx : endT x) (hv : ∀ n, pvD t n = some (v, [])) (k : Nat) (rg : Int × Int × Int) (im : Int × Str) : patD (c :: p) (b ++ (t ++ x)) k rg im = patD p x k rg (v, []) := by
  have hs : skipD (b ++ (t ++ x)) = t ++ x := skip_app hb (head_ne ht h0)
  obtain ⟨h1, h2⟩ := word_app ht hx
  have hn : ¬ (c = 44 ∨ c = 40 ∨ c = 41) := by rcases hc with rfl | rfl <;> decide
  have hn2 : ¬ (c = 114) := by rcases hc with rfl | rfl <;> decide
  simp only [patD, if_neg hn, if_neg hn2, hs, h1, h2, hv]
/- numbers -/
theorem digs_app (base : Nat) : ∀ (s t : Str) (x : Nat), digs base (s ++ t) x = (digs base s x).bind (digs base t)
  | [], t, x => rfl
  | c :: s, t, x => by
    simp only [List.cons_append, digs]
    cases dig base c with
    | none => rfl
    | some d => exact digs_app base s t _
theorem dig_dec (d : Nat) (h : d < 10) : dig 10 (UInt8.ofNat (48 + d)) = some d := by
  have : d = 0 ∨ d = 1 ∨ d = 2 ∨ d = 3 ∨ d = 4 ∨ d = 5 ∨ d = 6 ∨ d = 7 ∨ d = 8 ∨ d = 9 := by omega
  rcases this with rfl | rfl | rfl | rfl | rfl | rfl | rfl | rfl | rfl | rfl <;> decide
def numC (c : UInt8) : Bool := decide (45 ≤ c.toNat) && decide (c.toNat ≤ 57)
theorem num_dec (d : Nat) (h : d < 10) : numC (UInt8.ofNat (48 + d)) = true := by
  have : d = 0 ∨ d = 1 ∨ d = 2 ∨ d = 3 ∨ d = 4 ∨ d = 5 ∨ d = 6 ∨ d = 7 ∨ d = 8 ∨ d = 9 := by omega
  rcases this with rfl | rfl | rfl | rfl | rfl | rfl | rfl | rfl | rfl | rfl <;> decide
theorem dec_digs (n : Nat) : digs 10 (Lib.decDigits n) 0 = some n ∧ (∀ c ∈ Lib.decDigits n, numC c = true ∧ c ≠ 45) ∧ Lib.decDigits n ≠ [] := by
  induction n using Nat.strongRecOn with
  | _ n ih =>
    have hne : ∀ d < 10, UInt8.ofNat (48 + d) ≠ 45 := fun d hd e => by
      have : d = 0 ∨ d = 1 ∨ d = 2 ∨ d = 3 ∨ d = 4 ∨ d = 5 ∨ d = 6 ∨ d = 7 ∨ d = 8 ∨ d = 9 := by omega
      rcases this with rfl | rfl | rfl | rfl | rfl | rfl | rfl | rfl | rfl | rfl <;> revert e <;> decide
    by_cases h : n < 10
    · rw [Lib.decDigits_one h]
      refine ⟨by simp only [digs, dig_dec n h, Nat.zero_mul, Nat.zero_add], fun c hc => ?_, by simp⟩
      simp only [List.mem_singleton] at hc
      subst hc
      exact ⟨num_dec n h, hne n h⟩
    · obtain ⟨h1, h2, h3⟩ := ih (n / 10) (by omega)
      have e : Lib.decDigits n = Lib.decDigits (n / 10) ++ [UInt8.ofNat (48 + n % 10)] := by rw [Lib.decDigits, dif_neg h]
      rw [e]
      refine ⟨?_, fun c hc => ?_, by simp⟩
      · rw [digs_app, h1]
        simp only [Option.bind_some, digs, dig_dec (n % 10) (by omega)]
        congr 1; omega
      · rcases List.mem_append.1 hc with hc | hc
        · exact h2 c hc
        · simp only [List.mem_singleton] at hc
          subst hc
          exact ⟨num_dec _ (by omega), hne _ (by omega)⟩
theorem dec_len10 (n : Nat) (h : n < 100000) : 1 ≤ (Lib.decDigits n).length ∧ (Lib.decDigits n).length ≤ 5 := by
  rw [Lib.decDigits_length]
  refine ⟨Lib.nDigits_pos n, ?_⟩
  have key : ∀ (k u : Nat), u < 10 ^ (k + 1) → Lib.nDigits u ≤ k + 1 := by
    intro k
    induction k with
    | zero => intro u hu; rw [Lib.nDigits_small (by simpa using hu)]; exact Nat.le_refl _
    | succ k ih =>
      intro u hu
      by_cases h10 : u < 10
      · rw [Lib.nDigits_small h10]; omega
      · rw [Lib.nDigits_big h10]
        have := ih (u / 10) (by rw [Nat.pow_succ] at hu; omega)
        omega
  exact key 4 n (by simpa using h)
theorem pn_dec (n : Nat) (h : n < 100000) : pdD (Lib.decDigits n) 10 10 = some n := by
  obtain ⟨h1, h2⟩ := dec_len10 n h
  unfold pdD
  rw [if_neg (by omega)]
  exact (dec_digs n).1
theorem no_pre {s : Str} {a b : UInt8} (h : ∀ c ∈ s, c ≠ b) : Lib.hasPrefix s [a, b] = false := by
  rw [Bool.eq_false_iff]
  intro hp
  unfold Lib.hasPrefix at hp
  rw [List.isPrefixOf_iff_prefix] at hp
  exact h b (hp.subset (by simp)) rfl
theorem no_pre1 {s : Str} {a : UInt8} (h : ∀ c ∈ s, c ≠ a) : Lib.hasPrefix s [a] = false := by
  rw [Bool.eq_false_iff]
  intro hp
  unfold Lib.hasPrefix at hp
  rw [List.isPrefixOf_iff_prefix] at hp
  exact h a (hp.subset (by simp)) rfl
theorem num_120 {c : UInt8} (h : numC c = true) : c ≠ 120 := fun e => by subst e; revert h; decide
theorem num_sep {c : UInt8} (h : numC c = true) : sepB c = false := by
  simp only [numC, Bool.and_eq_true, decide_eq_true_eq] at h
  rw [Bool.eq_false_iff]
  intro hs
  simp only [sepB, seps, List.contains_eq_mem, List.mem_cons, List.not_mem_nil, or_false, decide_eq_true_eq] at hs
  have h0 : (32 : UInt8).toNat = 32 ∧ (44 : UInt8).toNat = 44 ∧ (58 : UInt8).toNat = 58 ∧ (40 : UInt8).toNat = 40 ∧ (41 : UInt8).toNat = 41 := by decide
  rcases hs with rfl | rfl | rfl | rfl | rfl <;> omega
theorem itoa_num (z : Int) : (∀ c ∈ Lib.itoa z, numC c = true) ∧ Lib.itoa z ≠ [] := by
  unfold Lib.itoa
  split
  · refine ⟨fun c hc => ?_, by simp⟩
    rcases List.mem_cons.1 hc with rfl | hc
    · decide
    · exact ((dec_digs _).2.1 c hc).1
  · exact ⟨fun c hc => ((dec_digs _).2.1 c hc).1, (dec_digs _).2.2⟩
theorem not_name {s : Str} (h : ∀ c ∈ s, c.toNat < 97) : isNameD s = false := by
  cases s with
  | nil => rfl
  | cons c r =>
    have := h c (List.mem_cons_self ..)
    simp [isNameD]
    omega
theorem num_97 {c : UInt8} (h : numC c = true) : c.toNat < 97 := by
  simp only [numC, Bool.and_eq_true, decide_eq_true_eq] at h; omega
theorem pn_itoa (z : Int) (h : -40000 ≤ z ∧ z ≤ 70000) : pnD (Lib.itoa z) = some z := by
  have hx : Lib.hasPrefix (Lib.itoa z) [48, 120] = false := no_pre fun c hc => num_120 ((itoa_num z).1 c hc)
  unfold pnD
  rw [hx]
  simp only [Bool.false_eq_true, if_false]
  by_cases hz : z < 0
  · have e : Lib.itoa z = 45 :: Lib.decDigits z.natAbs := by unfold Lib.itoa; rw [if_pos hz]
    rw [e, (pre_one 45 _).1, (pre_one 45 _).2, pn_dec _ (by omega)]
    simp only [if_true]
    rw [if_neg (by omega)]
    congr 1; omega
  · have e : Lib.itoa z = Lib.decDigits z.natAbs := by unfold Lib.itoa; rw [if_neg hz, show z.toNat = z.natAbs by omega]
    have hp : Lib.hasPrefix (Lib.decDigits z.natAbs) [45] = false := no_pre1 fun c hc => ((dec_digs _).2.1 c hc).2
    have ht : Lib.trimPrefix (Lib.decDigits z.natAbs) [45] = Lib.decDigits z.natAbs := by unfold Lib.trimPrefix; rw [hp]; rfl
    rw [e, hp, ht, pn_dec _ (by omega)]
    simp only [Bool.false_eq_true, if_false]
    rw [if_neg (by omega)]
    congr 1; omega
theorem pv_itoa (z : Int) (h : -40000 ≤ z ∧ z ≤ 70000) (n : Bool) : pvD (Lib.itoa z) n = some (z, []) := by
  have hn : isNameD (Lib.itoa z) = false := not_name fun c hc => num_97 ((itoa_num z).1 c hc)
  unfold pvD
  rw [hn, pn_itoa z h]
  simp
theorem itoa_noSep (z : Int) : noSep (Lib.itoa z) := fun c hc => num_sep ((itoa_num z).1 c hc)
/- hexadecimal words -/
def hx (d : Nat) : UInt8 := if d < 10 then UInt8.ofNat (48 + d) else UInt8.ofNat (87 + d)
def hexF : Nat → Nat → Str
  | 0, _ => []
  | k + 1, n => if n < 16 then [hx n] else hexF k (n / 16) ++ [hx (n % 16)]
def hexC (c : UInt8) : Bool := (decide (48 ≤ c.toNat) && decide (c.toNat ≤ 57)) || (decide (97 ≤ c.toNat) && decide (c.toNat ≤ 102))
theorem hx_facts : ∀ d < 16, dig 16 (hx d) = some d ∧ hexC (hx d) = true := by decide
theorem hexF_facts : ∀ (k n : Nat), 1 ≤ k → n < 16 ^ k → digs 16 (hexF k n) 0 = some n ∧ (∀ c ∈ hexF k n, hexC c = true) ∧ 1 ≤ (hexF k n).length ∧ (hexF k n).length ≤ k
  | 0, _, h, _ => by omega
  | k + 1, n, _, hn => by
    unfold hexF
    by_cases h : n < 16
    · rw [if_pos h]
      refine ⟨by simp [digs, (hx_facts n h).1], fun c hc => ?_, by simp, by simp⟩
      simp only [List.mem_singleton] at hc
      subst hc
      exact (hx_facts n h).2
    · rw [if_neg h]
      have hk : 1 ≤ k := by
        rcases Nat.eq_zero_or_pos k with rfl | h'
        · simp at hn; omega
        · exact h'
      obtain ⟨h1, h2, h3, h4⟩ := hexF_facts k (n / 16) hk (by rw [Nat.pow_succ] at hn; omega)
      refine ⟨?_, fun c hc => ?_, by simp, by simp; omega⟩
      · rw [digs_app, h1]
        simp only [Option.bind_some, digs, (hx_facts (n % 16) (by omega)).1]
        congr 1; omega
      · rcases List.mem_append.1 hc with hc | hc
        · exact h2 c hc
        · simp only [List.mem_singleton] at hc
          subst hc
          exact (hx_facts (n % 16) (by omega)).2
theorem digs_zeros (s : Str) : ∀ m : Nat, digs 16 (List.replicate m 48 ++ s) 0 = digs 16 s 0
  | 0 => rfl
  | m + 1 => by
    rw [List.replicate_succ, List.cons_append]
    simp only [digs, show dig 16 48 = some 0 from rfl]
    exact digs_zeros s m
/-- a word's eight digits -/
def hex8 (n : Nat) : Str := List.replicate (8 - (hexF 8 n).length) 48 ++ hexF 8 n
def hexT (n : Nat) : Str := 48 :: 120 :: hex8 n
theorem hex8_facts (n : Nat) (h : n < 4294967296) : pdD (hex8 n) 8 16 = some n ∧ (∀ c ∈ hex8 n, hexC c = true) ∧ (hex8 n).length = 8 := by
  obtain ⟨h1, h2, h3, h4⟩ := hexF_facts 8 n (by omega) (by simpa using h)
  have hl : (hex8 n).length = 8 := by simp [hex8]; omega
  refine ⟨?_, fun c hc => ?_, hl⟩
  · unfold pdD
    rw [if_neg (by omega)]
    unfold hex8
    rw [digs_zeros, h1]
  · rcases List.mem_append.1 hc with hc | hc
    · rw [List.eq_of_mem_replicate hc]; decide
    · exact h2 c hc
theorem hex_sep {c : UInt8} (h : hexC c = true ∨ c = 120) : sepB c = false := by
  rw [Bool.eq_false_iff]
  intro hs
  simp only [sepB, seps, List.contains_eq_mem, List.mem_cons, List.not_mem_nil, or_false, decide_eq_true_eq] at hs
  rcases hs with rfl | rfl | rfl | rfl | rfl <;> revert h <;> decide
theorem hexT_mem (n : Nat) (h : n < 4294967296) : ∀ c ∈ hexT n, hexC c = true ∨ c = 120 := by
  intro c hc
  simp only [hexT, List.mem_cons] at hc
  rcases hc with rfl | rfl | hc
  · left; decide
  · exact .inr rfl
  · exact .inl ((hex8_facts n h).2.1 c hc)
theorem pv_hex (n : Nat) (h : n < 4294967296) (b : Bool) : pvD (hexT n) b = some ((n : Int), []) := by
  have hn : isNameD (hexT n) = false := by simp [isNameD, hexT]
  have hp : Lib.hasPrefix (hexT n) [48, 120] = true := by simp [Lib.hasPrefix, hexT]
  have hd : (hexT n).drop 2 = hex8 n := rfl
  unfold pvD
  rw [hn]
  simp only [Bool.and_false, Bool.false_eq_true, if_false]
  unfold pnD
  rw [hp, hd, (hex8_facts n h).1]
  rfl
theorem hexT_noSep (n : Nat) (h : n < 4294967296) : noSep (hexT n) := fun c hc => hex_sep (hexT_mem n h c hc)
/- registers, names of operations -/
theorem reg_facts : ∀ k < 16, regN (regNames.getD k []) = some k ∧ (∀ c ∈ regNames.getD k [], sepB c = false ∧ c ≠ 10 ∧ c ≠ 59 ∧ c.toNat < 128) ∧ regNames.getD k [] ≠ [] := by decide +kernel
theorem regS_facts (r : Int) (h0 : 0 ≤ r) (h1 : r ≤ 15) : ∃ q : Nat, (q : Int) = r ∧ regN (regS r) = some q ∧ noSep (regS r) ∧ regS r ≠ [] := by
  obtain ⟨q, rfl⟩ : ∃ q : Nat, r = (q : Int) := ⟨r.toNat, by omega⟩
  obtain ⟨h2, h3, h4⟩ := reg_facts q (by omega)
  rw [← regS_names q (by omega)] at h2 h3 h4
  exact ⟨q, rfl, h2, fun c hc => (h3 c hc).1, h4⟩
def opSh (op : Int) : ShapeD := ⟨op, opPat op, 1, opRel op, 76⟩
def opB (n : Nat) : Bool := decide (formD n = 0) || (decide (findS (mnS n) shapes = some (opSh n)) && (mnS n).all (fun c => !sepB c && decide (97 ≤ c.toNat) && decide (c.toNat ≤ 122)) && decide (mnS n ≠ []))
theorem op_all : (List.range 65).all opB = true := by decide +kernel
theorem op_facts (op : Int) (h : formD op ≠ 0) : findS (mnS op) shapes = some (opSh op) ∧ noSep (mnS op) ∧ (∀ c ∈ mnS op, 97 ≤ c.toNat ∧ c.toNat ≤ 122) ∧ mnS op ≠ [] := by
  have ho := formD_op h
  obtain ⟨n, rfl⟩ : ∃ n : Nat, op = (n : Int) := ⟨op.toNat, by omega⟩
  have h1 := List.all_eq_true.1 op_all n (List.mem_range.2 (by omega))
  simp only [opB, Bool.or_eq_true, decide_eq_true_eq, Bool.and_eq_true, List.all_eq_true, Bool.not_eq_true'] at h1
  rcases h1 with h1 | ⟨⟨h1, h2⟩, h3⟩
  · exact absurd h1 h
  · exact ⟨h1, fun c hc => (h2 c hc).1.1, fun c hc => ⟨(h2 c hc).1.2, (h2 c hc).2⟩, h3⟩
end Go.Proofs.YtjlbpkokdlggiaaGreatDoor
