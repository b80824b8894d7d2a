/- The law AsmSpaces: the plain part. (Numbers of seat r2.D.) -/
import Derived.Test.YtjlbpkokdlggiaaDoorAs18
namespace Go.Proofs.YtjlbpkokdlggiaaDoor
open Go.Ab Go.RowKit
set_option linter.unusedSimpArgs false
set_option maxRecDepth 100000
def comS : Str := [32, 59, 32, 120, 32, 121, 44, 32, 122]
def extS (b : Bool) : Str := if b then [10, 32, 32, 32, 10, 59, 10] else []
/-- what stands for a byte at a place -/
def txC (k : Nat → Nat) (m : Nat → Bool) (i : Nat) (c : UInt8) : Str :=
  if c = 32 ∨ c = 44 then c :: List.replicate (k i) 32 else if c = 10 then comS ++ 10 :: extS (m i) else [c]
def tx (k : Nat → Nat) (m : Nat → Bool) : Nat → Str → Str
  | _, [] => []
  | i, c :: s => txC k m i c ++ tx k m (i + 1) s
theorem tx_snoc (k : Nat → Nat) (m : Nat → Bool) (c : UInt8) : ∀ (s : Str) (i : Nat), tx k m i (s ++ [c]) = tx k m i s ++ txC k m (i + s.length) c
  | [], i => by simp [tx]
  | d :: s, i => by
    have h := tx_snoc k m c s (i + 1)
    simp only [List.cons_append, tx, h, List.length_cons, List.append_assoc]
    congr 3; omega
def tokC (c : UInt8) : Prop := c ≠ 32 ∧ c ≠ 44 ∧ c ≠ 10
theorem tx_tok (k : Nat → Nat) (m : Nat → Bool) (y : Str) : ∀ (a : Str) (i : Nat), (∀ c ∈ a, tokC c) → tx k m i (a ++ y) = a ++ tx k m (i + a.length) y
  | [], i, _ => by simp
  | c :: a, i, h => by
    have h1 := tx_tok k m y a (i + 1) fun d hd => h d (List.mem_cons_of_mem _ hd)
    obtain ⟨c1, c2, c3⟩ := h c (List.mem_cons_self ..)
    have hc : txC k m i c = [c] := by simp [txC, c1, c2, c3]
    simp only [List.cons_append, tx, hc, h1, List.nil_append, List.length_cons]
    congr 3; omega
theorem tx_one (k : Nat → Nat) (m : Nat → Bool) (c : UInt8) (y : Str) (i : Nat) (h : tokC c) : tx k m i (c :: y) = c :: tx k m (i + 1) y := by
  have := tx_tok k m y [c] i (by simpa using h)
  simpa using this
def repS (n : Nat) : Str := List.replicate n 32
theorem rep_blank (n : Nat) : blank (repS n) := fun c hc => List.eq_of_mem_replicate hc
theorem blank_app {a b : Str} (ha : blank a) (hb : blank b) : blank (a ++ b) := fun c hc => (List.mem_append.1 hc).elim (ha c) (hb c)
theorem blank_cons {b : Str} (hb : blank b) : blank (32 :: b) := fun c hc => (List.mem_cons.1 hc).elim id (hb c)
theorem tx_sp (k : Nat → Nat) (m : Nat → Bool) (y : Str) (i : Nat) : ∃ b, blank b ∧ b ≠ [] ∧ tx k m i (32 :: y) = b ++ tx k m (i + 1) y :=
  ⟨32 :: repS (k i), blank_cons (rep_blank _), by simp, by simp [tx, txC, repS]⟩
theorem tx_com (k : Nat → Nat) (m : Nat → Bool) (y : Str) (i : Nat) : ∃ b, blank b ∧ tx k m i (44 :: 32 :: y) = 44 :: (b ++ tx k m (i + 2) y) :=
  ⟨repS (k i) ++ 32 :: repS (k (i + 1)), blank_app (rep_blank _) (blank_cons (rep_blank _)), by simp [tx, txC, repS]⟩
theorem num_tok {c : UInt8} (h : sepB c = false) (h10 : c ≠ 10) : tokC c := by
  refine ⟨fun e => ?_, fun e => ?_, h10⟩ <;> (subst e; revert h; decide)
theorem tok_of {s : Str} (h : noSep s) (h2 : s.all plC = true) : ∀ c ∈ s, tokC c := fun c hc => num_tok (h c hc) (pl_10 h2 c hc)
theorem regS_noSep (r : Int) : noSep (regS r) := fun c hc => by
  rcases List.mem_cons.1 hc with rfl | hc
  · decide
  · exact itoa_noSep r c hc
theorem tx_line (k : Nat → Nat) (m : Nat → Bool) (w : Int) (w1 : w < 4294967296) (i : Nat) (y : Str) : ∃ b0 b1 b2, blank b0 ∧ b0 ≠ [] ∧ blank b1 ∧ blank b2 ∧ tx k m i (disT w [32] [32] [32] [] ++ y) = disT w b0 b1 b2 [] ++ tx k m (i + (disT w [32] [32] [32] []).length) y := by
  have tr : ∀ r, ∀ c ∈ regS r, tokC c := fun r => tok_of (regS_noSep r) (regS_pl r)
  have ti : ∀ z, ∀ c ∈ Lib.itoa z, tokC c := fun z => tok_of (itoa_noSep z) (itoa_pl z)
  have t40 : tokC 40 := by unfold tokC; decide
  have t41 : tokC 41 := by unfold tokC; decide
  unfold disT
  by_cases hv : validD (decI w) = true
  · simp only [if_pos hv]
    have hf : formD (decI w).op ≠ 0 := by
      have hv' := hv
      simp only [validD, Bool.and_eq_true, decide_eq_true_eq] at hv'
      exact hv'.1.1.1.1.1
    have tm : ∀ c ∈ mnS (decI w).op, tokC c := tok_of (op_facts _ hf).2.1 (mn_pl _ hf)
    generalize decI w = d at *
    unfold lineT
    by_cases q1 : 32 ≤ d.op ∧ d.op ≤ 36
    · simp only [if_pos q1, List.append_assoc, List.cons_append, List.nil_append]
      rw [tx_tok k m _ _ _ tm]
      obtain ⟨b0, h0, n0, e0⟩ := tx_sp k m (regS d.a ++ 44 :: 32 :: ((Lib.itoa d.imm ++ 40 :: (regS d.b ++ 41 :: y)))) (i + (mnS d.op).length)
      rw [e0, tx_tok k m _ _ _ (tr d.a)]
      obtain ⟨b1, h1, e1⟩ := tx_com k m (Lib.itoa d.imm ++ 40 :: (regS d.b ++ 41 :: y)) (i + (mnS d.op).length + 1 + (regS d.a).length)
      rw [e1, tx_tok k m _ _ _ (ti d.imm), tx_one k m _ _ _ t40, tx_tok k m _ _ _ (tr d.b), tx_one k m _ _ _ t41]
      refine ⟨b0, b1, [], h0, n0, h1, blank0, ?_⟩
      simp only [List.append_assoc, List.cons_append, List.nil_append, List.length_append, List.length_cons, List.length_nil]
      repeat' (first | omega | congr 1)
    · simp only [if_neg q1]
      by_cases q2 : formD d.op = 2
      · simp only [if_pos q2, List.append_assoc, List.cons_append, List.nil_append]
        rw [tx_tok k m _ _ _ tm]
        obtain ⟨b0, h0, n0, e0⟩ := tx_sp k m (regS d.a ++ 44 :: 32 :: ((regS d.b ++ 44 :: 32 :: ((regS d.c ++ y))))) (i + (mnS d.op).length)
        rw [e0, tx_tok k m _ _ _ (tr d.a)]
        obtain ⟨b1, h1, e1⟩ := tx_com k m (regS d.b ++ 44 :: 32 :: ((regS d.c ++ y))) (i + (mnS d.op).length + 1 + (regS d.a).length)
        rw [e1, tx_tok k m _ _ _ (tr d.b)]
        obtain ⟨b2, h2, e2⟩ := tx_com k m (regS d.c ++ y) (i + (mnS d.op).length + 1 + (regS d.a).length + 2 + (regS d.b).length)
        rw [e2, tx_tok k m _ _ _ (tr d.c)]
        refine ⟨b0, b1, b2, h0, n0, h1, h2, ?_⟩
        simp only [List.append_assoc, List.cons_append, List.nil_append, List.length_append, List.length_cons, List.length_nil]
        repeat' (first | omega | congr 1)
      · simp only [if_neg q2]
        by_cases q3 : 2 ≤ formD d.op ∧ formD d.op ≤ 5
        · simp only [if_pos q3, List.append_assoc, List.cons_append, List.nil_append]
          rw [tx_tok k m _ _ _ tm]
          obtain ⟨b0, h0, n0, e0⟩ := tx_sp k m (regS d.a ++ 44 :: 32 :: ((regS d.b ++ 44 :: 32 :: ((Lib.itoa d.imm ++ y))))) (i + (mnS d.op).length)
          rw [e0, tx_tok k m _ _ _ (tr d.a)]
          obtain ⟨b1, h1, e1⟩ := tx_com k m (regS d.b ++ 44 :: 32 :: ((Lib.itoa d.imm ++ y))) (i + (mnS d.op).length + 1 + (regS d.a).length)
          rw [e1, tx_tok k m _ _ _ (tr d.b)]
          obtain ⟨b2, h2, e2⟩ := tx_com k m (Lib.itoa d.imm ++ y) (i + (mnS d.op).length + 1 + (regS d.a).length + 2 + (regS d.b).length)
          rw [e2, tx_tok k m _ _ _ (ti d.imm)]
          refine ⟨b0, b1, b2, h0, n0, h1, h2, ?_⟩
          simp only [List.append_assoc, List.cons_append, List.nil_append, List.length_append, List.length_cons, List.length_nil]
          repeat' (first | omega | congr 1)
        · simp only [if_neg q3]
          by_cases q4 : 2 ≤ formD d.op
          · simp only [if_pos q4, List.append_assoc, List.cons_append, List.nil_append]
            rw [tx_tok k m _ _ _ tm]
            obtain ⟨b0, h0, n0, e0⟩ := tx_sp k m (regS d.a ++ 44 :: 32 :: ((Lib.itoa d.imm ++ y))) (i + (mnS d.op).length)
            rw [e0, tx_tok k m _ _ _ (tr d.a)]
            obtain ⟨b1, h1, e1⟩ := tx_com k m (Lib.itoa d.imm ++ y) (i + (mnS d.op).length + 1 + (regS d.a).length)
            rw [e1, tx_tok k m _ _ _ (ti d.imm)]
            refine ⟨b0, b1, [], h0, n0, h1, blank0, ?_⟩
            simp only [List.append_assoc, List.cons_append, List.nil_append, List.length_append, List.length_cons, List.length_nil]
            repeat' (first | omega | congr 1)
          · simp only [if_neg q4, List.append_assoc, List.nil_append]
            rw [tx_tok k m _ _ _ tm]
            refine ⟨[32], [], [], blank1, by decide, blank0, blank0, ?_⟩
            simp only [List.append_assoc, List.cons_append, List.nil_append, List.append_nil]
  · simp only [if_neg hv]
    have t0 : ∀ c ∈ wordS, tokC c := by unfold tokC wordS; decide
    have t1 : ∀ c ∈ hexT w.toNat, tokC c := tok_of (hexT_noSep _ (by omega)) (hexT_pl _ (by omega))
    unfold wordT
    simp only [List.append_assoc, List.cons_append, List.nil_append]
    rw [tx_tok k m _ _ _ t0]
    obtain ⟨b0, h0, n0, e0⟩ := tx_sp k m (hexT w.toNat ++ y) (i + wordS.length)
    rw [e0, tx_tok k m _ _ _ t1]
    refine ⟨b0, [], [], h0, n0, blank0, blank0, ?_⟩
    simp only [List.append_assoc, List.cons_append, List.nil_append, List.length_append, List.length_cons, List.length_nil]
    repeat' (first | omega | congr 1)
theorem tx_lines (k : Nat → Nat) (m : Nat → Bool) : ∀ (ws : List Int) (i : Nat), inW ws → ∃ T, splitD (tx k m i (disS ws)) = T ∧ Blk T ws
  | [], i, _ => ⟨_, rfl, .empty (t := []) blank0 .nil⟩
  | w :: ws, i, h => by
    obtain ⟨w0, w1⟩ := h w (List.mem_cons_self ..)
    have e : disS (w :: ws) = disT w [32] [32] [32] [] ++ 10 :: disS ws := by simp [disS, disW_eq]
    obtain ⟨b0, b1, b2, h0, n0, h1, h2, e1⟩ := tx_line k m w w1 i (10 :: disS ws)
    obtain ⟨j, hj⟩ : ∃ j, j = i + (disT w [32] [32] [32] []).length := ⟨_, rfl⟩
    rw [← hj] at e1
    obtain ⟨T, h3, h4⟩ := tx_lines k m ws (j + 1) fun x hx => h x (List.mem_cons_of_mem _ hx)
    have hp := disT_pl w w1 h0 h1 h2 blank0
    have e2 : tx k m j (10 :: disS ws) = comS ++ 10 :: (extS (m j) ++ tx k m (j + 1) (disS ws)) := by
      have : txC k m j 10 = comS ++ 10 :: extS (m j) := rfl
      simp only [tx, this, List.append_assoc, List.cons_append]
    have hno : ∀ c ∈ disT w b0 b1 b2 [] ++ comS, c ≠ 10 := fun c hc => by
      rcases List.mem_append.1 hc with hc | hc
      · exact pl_10 hp c hc
      · have : ∀ c ∈ comS, c ≠ 10 := by decide
        exact this c hc
    have hbef : befD (disT w b0 b1 b2 [] ++ comS) 59 = disT w b0 b1 b2 [32] := by
      have hx : befD ((disT w b0 b1 b2 [] ++ [32]) ++ 59 :: [32, 120, 32, 121, 44, 32, 122]) 59 = disT w b0 b1 b2 [] ++ [32] := by
        unfold befD
        rw [List.takeWhile_append_of_pos (fun b hb => by
          have : b ≠ 59 := fun e => by
            subst e
            rcases List.mem_append.1 hb with hb | hb
            · exact pl_59 hp hb
            · revert hb; decide
          simp [this])]
        simp
      have e3 : disT w b0 b1 b2 [] ++ comS = (disT w b0 b1 b2 [] ++ [32]) ++ 59 :: [32, 120, 32, 121, 44, 32, 122] := by simp [comS]
      rw [e3, hx, disT_end]
      rfl
    have hok := disT_ok w w0 w1 h0 n0 h1 h2 blank1
    unfold splitD at h3 ⊢
    rw [e, e1, e2, ← List.append_assoc, lines_no _ _ hno, List.map_cons, hbef]
    cases hm : m j with
    | false => exact ⟨_, rfl, .line hok (by simpa [extS, h3] using h4)⟩
    | true =>
      have e4 : extS true ++ tx k m (j + 1) (disS ws) = [] ++ 10 :: ([32, 32, 32] ++ 10 :: ([59] ++ 10 :: tx k m (j + 1) (disS ws))) := rfl
      rw [e4, lines_no _ _ (by decide), lines_no _ _ (by decide), lines_no _ _ (by decide)]
      simp only [List.map_cons, h3]
      exact ⟨_, rfl, .line hok (.empty (t := []) blank0 (.empty (t := [32, 32, 32]) (rep_blank 3) (.empty (t := []) blank0 h4)))⟩
theorem spaces_law (k : Nat → Nat) (m : Nat → Bool) (ws : List Int) (hw : ws.length ≤ 1024) (hin : inW ws) (hl : (tx k m 0 (disS ws)).length ≤ 8192) : asmD (tx k m 0 (disS ws)) = .ok ws := by
  obtain ⟨T, hT, hB⟩ := tx_lines k m ws 0 hin
  obtain ⟨L, h3, h4⟩ := blk_add hB ⟨[], [], 0⟩ 1 (by simp only; omega)
  unfold asmD parseD
  rw [if_neg (by omega), hT, h3]
  simp only [List.nil_append]
  rw [h4]
  simp
theorem txC_facts (k : Nat → Nat) (m : Nat → Bool) (hk : ∀ i, k i ≤ 3) (i : Nat) (c : UInt8) (hc : c.toNat < 128) : isAscii (txC k m i c) ∧ (txC k m i c).length ≤ 20 := by
  unfold txC
  split
  · have := hk i
    refine ⟨fun b hb => ?_, by simp; omega⟩
    rcases List.mem_cons.1 hb with rfl | hb
    · exact hc
    · rw [List.eq_of_mem_replicate hb]; decide
  · split
    · cases m i <;> exact ⟨by unfold isAscii; decide, by decide⟩
    · exact ⟨fun b hb => by simp only [List.mem_singleton] at hb; subst hb; exact hc, by simp⟩
theorem tx_facts (k : Nat → Nat) (m : Nat → Bool) (hk : ∀ i, k i ≤ 3) : ∀ (s : Str) (i : Nat), isAscii s → isAscii (tx k m i s) ∧ (tx k m i s).length ≤ 20 * s.length
  | [], i, _ => ⟨(fun b hb => (List.not_mem_nil hb).elim), (by simp [tx])⟩
  | c :: s, i, h => by
    obtain ⟨h1, h2⟩ := txC_facts k m hk i c (h c (List.mem_cons_self ..))
    obtain ⟨h3, h4⟩ := tx_facts k m hk s (i + 1) fun b hb => h b (List.mem_cons_of_mem _ hb)
    refine ⟨fun b hb => (List.mem_append.1 hb).elim (h1 b) (h3 b), ?_⟩
    simp only [tx, List.length_append, List.length_cons]
    omega
end Go.Proofs.YtjlbpkokdlggiaaDoor
