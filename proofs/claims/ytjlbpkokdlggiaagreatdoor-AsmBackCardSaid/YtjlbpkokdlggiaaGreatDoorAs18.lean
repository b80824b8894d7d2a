/- Disassembled words: their lines, with blanks, comments and empty lines; behind a source: the plain part. (Numbers of seat r2.D.) -/
import Derived.Test.YtjlbpkokdlggiaaGreatDoorAs17
namespace Go.Proofs.YtjlbpkokdlggiaaGreatDoor
open Go.Ab Go.RowKit
set_option linter.unusedSimpArgs false
set_option maxRecDepth 100000
theorem pat_c0 {c : UInt8} {p x : Str} (hc : c = 44 ∨ c = 40 ∨ c = 41) (k : Nat) (rg : Int × Int × Int) (im : Int × Str) : patD (c :: p) (c :: x) k rg im = patD p x k rg im :=
  pat_c (b := []) hc (fun _ h => by cases h) k rg im
theorem pat_r0 {p t x : Str} {q : Nat} (ht : noSep t) (h0 : t ≠ []) (hx : endT x) (hq : regN t = some q) (k : Nat) (rg : Int × Int × Int) (im : Int × Str) : patD (114 :: p) (t ++ x) k rg im = patD p x (k + 1) (setR k q rg) im :=
  pat_r (b := []) (fun _ h => by cases h) ht h0 hx hq k rg im
def patB (n : Nat) : Bool :=
  decide (formD n = 0) || (decide (opPat n ≠ [110]) &&
    (if 32 ≤ n ∧ n ≤ 36 then decide (opPat n = [114, 44, 105, 40, 114, 41]) && decide (formD n = 3)
     else if formD n = 2 then decide (opPat n = [114, 44, 114, 44, 114])
     else if 2 ≤ formD n ∧ formD n ≤ 5 then decide (opPat n = [114, 44, 114, 44, 105]) || decide (opPat n = [114, 44, 114, 44, 120])
     else if 2 ≤ formD n then decide (opPat n = [114, 44, 105]) || decide (opPat n = [114, 44, 120])
     else decide (opPat n = [])))
theorem pat_all : (List.range 65).all patB = true := by decide +kernel
theorem pat_ofop (op : Int) (h : formD op ≠ 0) : opPat op ≠ [110] ∧
    (if 32 ≤ op ∧ op ≤ 36 then opPat op = [114, 44, 105, 40, 114, 41] ∧ formD op = 3
     else if formD op = 2 then opPat op = [114, 44, 114, 44, 114]
     else if 2 ≤ formD op ∧ formD op ≤ 5 then opPat op = [114, 44, 114, 44, 105] ∨ opPat op = [114, 44, 114, 44, 120]
     else if 2 ≤ formD op then opPat op = [114, 44, 105] ∨ opPat op = [114, 44, 120]
     else opPat op = []) := by
  have ho := formD_op h
  obtain ⟨n, rfl⟩ : ∃ n : Nat, op = (n : Int) := ⟨op.toNat, by omega⟩
  have h1 := List.all_eq_true.1 pat_all n (List.mem_range.2 (by omega))
  simp only [patB, Bool.or_eq_true, decide_eq_true_eq, Bool.and_eq_true] at h1
  rcases h1 with h1 | ⟨h1, h2⟩
  · exact absurd h1 h
  · refine ⟨h1, ?_⟩
    by_cases q1 : 32 ≤ n ∧ n ≤ 36
    · rw [if_pos q1] at h2
      rw [if_pos (by omega)]
      simpa using h2
    · rw [if_neg q1] at h2
      rw [if_neg (by omega)]
      by_cases q2 : formD n = 2
      · rw [if_pos q2] at h2 ⊢
        simpa using h2
      · rw [if_neg q2] at h2 ⊢
        by_cases q3 : 2 ≤ formD n ∧ formD n ≤ 5
        · rw [if_pos q3] at h2 ⊢
          simpa using h2
        · rw [if_neg q3] at h2 ⊢
          by_cases q4 : 2 ≤ formD n
          · rw [if_pos q4] at h2 ⊢
            simpa using h2
          · rw [if_neg q4] at h2 ⊢
            simpa using h2
theorem ps_of {op : Int} {x rest : Str} {rg : Int × Int × Int} {im : Int × Str} (h : formD op ≠ 0) (hx : endT x) (hp : patD (opPat op) x 0 (0, 0, 0) (0, []) = some (rest, rg, im)) (hr : blank rest) : psOpt (mnS op ++ x) = some (psLine (opSh op) 1 rg im) := by
  obtain ⟨h1, h2, _, h3⟩ := op_facts op h
  obtain ⟨h4, h5⟩ := word_app h2 hx
  have hn := (pat_ofop op h).1
  unfold psOpt
  simp only [h4, h5, h1, opSh, hp, hn, false_and, if_false, skip_blank hr, if_true]
theorem cl_of {nm x : Str} (h : noSep nm) (h0 : nm ≠ []) (hx : endT x) (h58 : ∀ c r, skipD x = c :: r → c ≠ 58) : clD (nm ++ x) = ([], nm ++ x, true) := by
  have hs : skipD (nm ++ x) = nm ++ x := by
    have := skip_app (b := []) (x := nm ++ x) (fun _ h => by cases h) (head_ne h h0)
    simpa using this
  have hp : Lib.hasPrefix (skipD x) [58] = false := by
    cases hq : skipD x with
    | nil => rfl
    | cons c r =>
      have := h58 c r hq
      rw [Bool.eq_false_iff]
      intro hp
      unfold Lib.hasPrefix at hp
      rw [List.isPrefixOf_iff_prefix] at hp
      obtain ⟨t, ht⟩ := hp
      simp only [List.cons_append, List.nil_append, List.cons.injEq] at ht
      exact this ht.1.symm
  simp only [clD, hs, (word_app h hx).2, hp, Bool.false_eq_true, if_false]
/-- an instruction's line, with blanks between its tokens -/
def lineT (i : InstD) (b0 b1 b2 b3 : Str) : Str :=
  if 32 ≤ i.op ∧ i.op ≤ 36 then mnS i.op ++ (b0 ++ (regS i.a ++ 44 :: (b1 ++ (Lib.itoa i.imm ++ 40 :: (regS i.b ++ 41 :: b3)))))
  else if formD i.op = 2 then mnS i.op ++ (b0 ++ (regS i.a ++ 44 :: (b1 ++ (regS i.b ++ 44 :: (b2 ++ (regS i.c ++ b3))))))
  else if 2 ≤ formD i.op ∧ formD i.op ≤ 5 then mnS i.op ++ (b0 ++ (regS i.a ++ 44 :: (b1 ++ (regS i.b ++ 44 :: (b2 ++ (Lib.itoa i.imm ++ b3))))))
  else if 2 ≤ formD i.op then mnS i.op ++ (b0 ++ (regS i.a ++ 44 :: (b1 ++ (Lib.itoa i.imm ++ b3))))
  else mnS i.op ++ b3
/-- a line that is the word w -/
def lineOk (t : Str) (w : Int) : Prop := t ≠ [] ∧ clD t = ([], t, true) ∧ ∃ l, psOpt t = some l ∧ l.words = 1 ∧ l.name = [] ∧ ∀ a b : Int, codeL { l with number := a, at' := b } l.num = some [w]
theorem code77 (l : LineD) (x : Int) (h : l.code = 76) (hx : -2147483648 ≤ x ∧ x ≤ 2147483647) (hv : validD (iI l x) = true) : codeL l x = some [encW (iI l x)] := by
  unfold codeL
  rw [h, if_neg (by decide), if_neg (by decide), if_neg (by decide), if_pos ⟨hx, hv⟩]
theorem code74 (l : LineD) (x : Int) (h : l.code = 73) : codeL l x = some [x % 4294967296] := by
  unfold codeL
  rw [h, if_pos rfl]
theorem ok_of {i : InstD} (hv : validD i = true) {x rest : Str} (hx : endT x) (h58 : ∀ c r, skipD x = c :: r → c ≠ 58) (hp : patD (opPat i.op) x 0 (0, 0, 0) (0, []) = some (rest, (i.a, i.b, i.c), (i.imm, []))) (hr : blank rest) : lineOk (mnS i.op ++ x) (encW i) := by
  obtain ⟨f1, f2, f3, f4, f5, f6⟩ := valid_facts hv
  have hf : formD i.op ≠ 0 := by
    simp only [validD, Bool.and_eq_true, decide_eq_true_eq] at hv
    exact hv.1.1.1.1.1
  obtain ⟨_, h2, _, h3⟩ := op_facts i.op hf
  refine ⟨fun e => h3 (List.append_eq_nil_iff.1 e).1, cl_of h2 h3 hx h58, _, ps_of hf hx hp hr, rfl, rfl, fun a b => ?_⟩
  exact code77 { psLine (opSh i.op) 1 (i.a, i.b, i.c) (i.imm, []) with number := a, at' := b } i.imm rfl (by omega) hv
theorem reg58 {b x : Str} (hb : blank b) (r : Int) : ∀ c s, skipD (b ++ (regS r ++ x)) = c :: s → c ≠ 58 := by
  intro c s h
  have : regS r ++ x = 114 :: (Lib.itoa r ++ x) := rfl
  rw [this, skip_app hb (fun c r h => by simp only [List.cons.injEq] at h; rw [← h.1]; decide)] at h
  simp only [List.cons.injEq] at h
  rw [← h.1]; decide
theorem end_b {b : Str} (hb : blank b) : endT b := by
  have := end_blank hb end_nil
  simpa using this
theorem line_ok (i : InstD) (hv : validD i = true) {b0 b1 b2 b3 : Str} (h0 : blank b0) (n0 : b0 ≠ []) (h1 : blank b1) (h2 : blank b2) (h3 : blank b3) : lineOk (lineT i b0 b1 b2 b3) (encW i) := by
  obtain ⟨f1, f2, f3, f4, f5, f6⟩ := valid_facts hv
  have hf : formD i.op ≠ 0 := by
    simp only [validD, Bool.and_eq_true, decide_eq_true_eq] at hv
    exact hv.1.1.1.1.1
  have hfr := formD_range i.op
  obtain ⟨qa, ea, ra, sa, na⟩ := regS_facts i.a f2.1 f2.2
  obtain ⟨qb, eb, rb, sb, nb⟩ := regS_facts i.b f3.1 f3.2
  obtain ⟨qc, ec, rc, sc, nc⟩ := regS_facts i.c f4.1 f4.2
  have vi := pv_itoa i.imm (by omega)
  have si := itoa_noSep i.imm
  have ni := (itoa_num i.imm).2
  have ebx : ∀ x, endT (b0 ++ x) := fun x => by
    cases b0 with
    | nil => exact absurd rfl n0
    | cons c b => exact .inr ⟨c, b ++ x, rfl, by rw [h0 c (List.mem_cons_self ..)]; rfl⟩
  have hpf := (pat_ofop i.op hf).2
  have e44 : ∀ x, endT (44 :: x) := fun x => end_sep rfl
  have e40 : ∀ x, endT (40 :: x) := fun x => end_sep rfl
  have e41 : ∀ x, endT (41 :: x) := fun x => end_sep rfl
  unfold lineT
  by_cases q1 : 32 ≤ i.op ∧ i.op ≤ 36
  · rw [if_pos q1] at hpf ⊢
    have hc0 : i.c = 0 := by simp [validD, regB, uC, hpf.2] at hv; omega
    refine ok_of hv (ebx _) (reg58 h0 _) (rest := b3) ?_ h3
    rw [hpf.1]
    refine (pat_r h0 sa na (e44 _) ra 0 _ _).trans ((pat_c0 (.inl rfl) _ _ _).trans ((pat_v (.inl rfl) h1 si ni (e40 _) vi _ _ _).trans ((pat_c0 (.inr (.inl rfl)) _ _ _).trans ((pat_r0 sb nb (e41 _) rb _ _ _).trans ((pat_c0 (.inr (.inr rfl)) _ _ _).trans ?_)))))
    simp [patD, setR, ea, eb, hc0]
  · rw [if_neg q1] at hpf ⊢
    by_cases q2 : formD i.op = 2
    · rw [if_pos q2] at hpf ⊢
      have hi0 : i.imm = 0 := by simp [validD, regB, uC, lowD, highD, q2] at hv; omega
      refine ok_of hv (ebx _) (reg58 h0 _) (rest := b3) ?_ h3
      rw [hpf]
      refine (pat_r h0 sa na (e44 _) ra 0 _ _).trans ((pat_c0 (.inl rfl) _ _ _).trans ((pat_r h1 sb nb (e44 _) rb _ _ _).trans ((pat_c0 (.inl rfl) _ _ _).trans ((pat_r h2 sc nc (end_b h3) rc _ _ _).trans ?_))))
      simp [patD, setR, ea, eb, ec, hi0]
    · rw [if_neg q2] at hpf ⊢
      have hc0 : i.c = 0 := by simp [validD, regB, uC, q2] at hv; omega
      by_cases q3 : 2 ≤ formD i.op ∧ formD i.op ≤ 5
      · rw [if_pos q3] at hpf ⊢
        have key : ∀ c, (c = 105 ∨ c = 120) → patD [114, 44, 114, 44, c] (b0 ++ (regS i.a ++ 44 :: (b1 ++ (regS i.b ++ 44 :: (b2 ++ (Lib.itoa i.imm ++ b3)))))) 0 (0, 0, 0) (0, []) = some (b3, (i.a, i.b, i.c), (i.imm, [])) := fun c hc => by
          refine (pat_r h0 sa na (e44 _) ra 0 _ _).trans ((pat_c0 (.inl rfl) _ _ _).trans ((pat_r h1 sb nb (e44 _) rb _ _ _).trans ((pat_c0 (.inl rfl) _ _ _).trans ((pat_v hc h2 si ni (end_b h3) vi _ _ _).trans ?_))))
          simp [patD, setR, ea, eb, hc0]
        refine ok_of hv (ebx _) (reg58 h0 _) (rest := b3) ?_ h3
        rcases hpf with e | e <;> rw [e]
        · exact key _ (.inl rfl)
        · exact key _ (.inr rfl)
      · rw [if_neg q3] at hpf ⊢
        have hb0 : i.b = 0 := by simp [validD, regB, uB, q3] at hv; omega
        by_cases q4 : 2 ≤ formD i.op
        · rw [if_pos q4] at hpf ⊢
          have key : ∀ c, (c = 105 ∨ c = 120) → patD [114, 44, c] (b0 ++ (regS i.a ++ 44 :: (b1 ++ (Lib.itoa i.imm ++ b3)))) 0 (0, 0, 0) (0, []) = some (b3, (i.a, i.b, i.c), (i.imm, [])) := fun c hc => by
            refine (pat_r h0 sa na (e44 _) ra 0 _ _).trans ((pat_c0 (.inl rfl) _ _ _).trans ((pat_v hc h1 si ni (end_b h3) vi _ _ _).trans ?_))
            simp [patD, setR, ea, hb0, hc0]
          refine ok_of hv (ebx _) (reg58 h0 _) (rest := b3) ?_ h3
          rcases hpf with e | e <;> rw [e]
          · exact key _ (.inl rfl)
          · exact key _ (.inr rfl)
        · rw [if_neg q4] at hpf ⊢
          have h1f : formD i.op = 1 := by omega
          have hz : i.a = 0 ∧ i.imm = 0 := by simp [validD, regB, uA, lowD, highD, h1f] at hv; omega
          refine ok_of hv (end_b h3) (fun c r h => by rw [skip_blank h3] at h; cases h) (rest := b3) ?_ h3
          rw [hpf]
          simp [patD, hz.1, hz.2, hb0, hc0]
def wordS : Str := [46, 119, 111, 114, 100]
def wordT (n : Nat) (b0 b3 : Str) : Str := wordS ++ (b0 ++ (hexT n ++ b3))
theorem word_find : findS wordS shapes = some ⟨0, [120], 1, false, 73⟩ := by decide +kernel
theorem wordT_ok (n : Nat) (h : n < 4294967296) {b0 b3 : Str} (h0 : blank b0) (n0 : b0 ≠ []) (h3 : blank b3) : lineOk (wordT n b0 b3) (n : Int) := by
  have ns : noSep wordS := by unfold noSep; decide
  have ebx : ∀ x, endT (b0 ++ x) := fun x => by
    cases b0 with
    | nil => exact absurd rfl n0
    | cons c b => exact .inr ⟨c, b ++ x, rfl, by rw [h0 c (List.mem_cons_self ..)]; rfl⟩
  have hp : patD [120] (b0 ++ (hexT n ++ b3)) 0 (0, 0, 0) (0, []) = some (b3, (0, 0, 0), ((n : Int), [])) :=
    (pat_v (.inr rfl) h0 (hexT_noSep n h) (by simp [hexT]) (end_b h3) (pv_hex n h) _ _ _).trans rfl
  obtain ⟨w1, w2⟩ := word_app ns (ebx (hexT n ++ b3))
  refine ⟨by simp [wordT, wordS], cl_of ns (by decide) (ebx _) (fun c r hc => ?_), psLine ⟨0, [120], 1, false, 73⟩ 1 (0, 0, 0) (n, []), ?_, rfl, rfl, fun a b => ?_⟩
  · have e : hexT n ++ b3 = 48 :: (120 :: hex8 n ++ b3) := rfl
    rw [e, skip_app h0 (fun c r h => by simp only [List.cons.injEq] at h; rw [← h.1]; decide)] at hc
    simp only [List.cons.injEq] at hc
    rw [← hc.1]; decide
  · unfold psOpt wordT
    have hno : ¬ (([120] : Str) = [110] ∧ ((n : Int) < 0 ∨ 1024 < (n : Int))) := fun e => by cases e.1
    have hno2 : ¬ (([120] : Str) = [110]) := by decide
    simp only [w1, w2, word_find, hp, if_neg hno, if_neg hno2, skip_blank h3, if_true]
  · refine (code74 { psLine ⟨0, [120], 1, false, 73⟩ 1 (0, 0, 0) ((n : Int), []) with number := a, at' := b } (n : Int) rfl).trans ?_
    congr 2; omega
theorem enc_decW {w : Int} (h0 : 0 ≤ w) (h1 : w < 4294967296) : encW (decI w) = w := by
  unfold encW decI sext
  simp only
  split
  · omega
  · split
    · split <;> omega
    · omega
/-- a word's line, with blanks between its tokens -/
def disT (w : Int) (b0 b1 b2 b3 : Str) : Str := if validD (decI w) = true then lineT (decI w) b0 b1 b2 b3 else wordT w.toNat b0 b3
theorem disT_ok (w : Int) (w0 : 0 ≤ w) (w1 : w < 4294967296) {b0 b1 b2 b3 : Str} (h0 : blank b0) (n0 : b0 ≠ []) (h1 : blank b1) (h2 : blank b2) (h3 : blank b3) : lineOk (disT w b0 b1 b2 b3) w := by
  unfold disT
  split
  · rename_i hv
    have := line_ok (decI w) hv h0 n0 h1 h2 h3
    rwa [enc_decW w0 w1] at this
  · have := wordT_ok w.toNat (by omega) h0 n0 h3
    rwa [show ((w.toNat : Nat) : Int) = w by omega] at this
/-- what is in a line -/
def plC (c : UInt8) : Bool := decide (c ≠ 10) && decide (c ≠ 59) && decide (c.toNat < 128)
theorem num_pl {c : UInt8} (h : numC c = true) : plC c = true := by
  simp only [numC, Bool.and_eq_true, decide_eq_true_eq] at h
  have h0 : (10 : UInt8).toNat = 10 ∧ (59 : UInt8).toNat = 59 := by decide
  simp only [plC, Bool.and_eq_true, decide_eq_true_eq]
  refine ⟨⟨fun e => ?_, fun e => ?_⟩, by omega⟩ <;> (subst e; omega)
theorem mn_pl (op : Int) (hf : formD op ≠ 0) : (mnS op).all plC = true := by
  rw [List.all_eq_true]
  intro c hc
  have h := (op_facts op hf).2.2.1 c hc
  have h0 : (10 : UInt8).toNat = 10 ∧ (59 : UInt8).toNat = 59 := by decide
  simp only [plC, Bool.and_eq_true, decide_eq_true_eq]
  refine ⟨⟨fun e => ?_, fun e => ?_⟩, by omega⟩ <;> (subst e; omega)
theorem itoa_pl (z : Int) : (Lib.itoa z).all plC = true := List.all_eq_true.2 fun c hc => num_pl ((itoa_num z).1 c hc)
theorem regS_pl (z : Int) : (regS z).all plC = true := by
  have h : plC 114 = true := by decide
  have := itoa_pl z
  simp only [regS, List.cons_append, List.nil_append, List.all_cons, h, this, Bool.and_self]
theorem blank_pl {b : Str} (h : blank b) : b.all plC = true := List.all_eq_true.2 fun c hc => by rw [h c hc]; decide
theorem hexT_pl (n : Nat) (h : n < 4294967296) : (hexT n).all plC = true := List.all_eq_true.2 fun c hc => by
  have h1 := hexT_mem n h c hc
  have h0 : (10 : UInt8).toNat = 10 ∧ (59 : UInt8).toNat = 59 ∧ (120 : UInt8).toNat = 120 := by decide
  have h2 : (48 ≤ c.toNat ∧ c.toNat ≤ 57) ∨ (97 ≤ c.toNat ∧ c.toNat ≤ 120) := by
    rcases h1 with h1 | rfl
    · simp only [hexC, Bool.or_eq_true, Bool.and_eq_true, decide_eq_true_eq] at h1; omega
    · omega
  simp only [plC, Bool.and_eq_true, decide_eq_true_eq]
  refine ⟨⟨fun e => ?_, fun e => ?_⟩, by omega⟩ <;> (subst e; omega)
theorem disT_pl (w : Int) (w1 : w < 4294967296) {b0 b1 b2 b3 : Str} (h0 : blank b0) (h1 : blank b1) (h2 : blank b2) (h3 : blank b3) : (disT w b0 b1 b2 b3).all plC = true := by
  have c44 : plC 44 = true := by decide
  have c40 : plC 40 = true := by decide
  have c41 : plC 41 = true := by decide
  unfold disT
  split
  · rename_i hv
    have hf : formD (decI w).op ≠ 0 := by
      simp only [validD, Bool.and_eq_true, decide_eq_true_eq] at hv
      exact hv.1.1.1.1.1
    have p0 := mn_pl _ hf
    have p1 := regS_pl (decI w).a
    have p2 := regS_pl (decI w).b
    have p3 := regS_pl (decI w).c
    have p4 := itoa_pl (decI w).imm
    have p5 := blank_pl h0
    have p6 := blank_pl h1
    have p7 := blank_pl h2
    have p8 := blank_pl h3
    unfold lineT
    (repeat' split) <;> simp only [List.all_append, List.all_cons, p0, p1, p2, p3, p4, p5, p6, p7, p8, c44, c40, c41, Bool.and_self]
  · have p0 : wordS.all plC = true := by decide
    have p1 := hexT_pl w.toNat (by omega)
    unfold wordT
    simp only [List.all_append, p0, p1, blank_pl h0, blank_pl h3, Bool.and_self]
theorem disT_len (w : Int) : (disT w [32] [32] [32] []).length ≤ 80 := by
  unfold disT
  split
  · rename_i hv
    obtain ⟨f1, f2, f3, f4, f5, f6⟩ := valid_facts hv
    have lm := mnS_short (decI w).op
    have la := Lib.itoa_length_le (decI w).a (by omega) (by omega)
    have lb := Lib.itoa_length_le (decI w).b (by omega) (by omega)
    have lc := Lib.itoa_length_le (decI w).c (by omega) (by omega)
    have li := Lib.itoa_length_le (decI w).imm (by omega) (by omega)
    unfold lineT regS
    (repeat' split) <;> (simp only [List.length_append, List.length_cons, List.length_nil]; omega)
  · have : (hexF 8 w.toNat).length ≤ 8 := by
      have key : ∀ k n, (hexF k n).length ≤ k := by
        intro k
        induction k with
        | zero => intro n; simp [hexF]
        | succ k ih =>
          intro n
          unfold hexF
          split
          · simp
          · have := ih (n / 16); simp; omega
      exact key 8 _
    simp only [wordT, wordS, hexT, hex8, List.length_append, List.length_cons, List.length_nil, List.length_replicate]
    omega
/-- lines that are these words -/
inductive Blk : List Str → List Int → Prop where
  | nil : Blk [] []
  | line {t : Str} {w : Int} {T : List Str} {ws : List Int} (h : lineOk t w) (h' : Blk T ws) : Blk (t :: T) (w :: ws)
  | empty {t : Str} {T : List Str} {ws : List Int} (h : blank t) (h' : Blk T ws) : Blk (t :: T) ws
theorem add_line {t : Str} {w : Int} (h : lineOk t w) (p : ProgD) (n : Int) (hp : p.words + 1 ≤ 1024) : ∃ l, addD p n t = (0, { p with lines := p.lines ++ [l], words := p.words + 1 }) ∧ ∀ S ls out, encAll S (l :: ls) out = encAll S ls (out ++ [w]) := by
  obtain ⟨h0, hc, l, hl, hw, hn, hcode⟩ := h
  refine ⟨{ l with number := n, at' := 4 * p.words }, ?_, fun S ls out => ?_⟩
  · unfold addD
    rw [hc]
    simp [h0, hl, hw, finD, Int.not_lt.2 hp]
  · have hv : valL S { l with number := n, at' := 4 * p.words } = some l.num := by simp [valL, hn]
    simp only [encAll, hv, hcode]
theorem add_empty {t : Str} (h : blank t) (p : ProgD) (n : Int) (hp : p.words ≤ 1024) : addD p n t = (0, p) := by
  have hc : clD t = ([], [], true) := by
    have e : clD t = clD [] := by unfold clD; rw [skip_blank h]; rfl
    have e2 : clD [] = ([], [], true) := by decide
    exact e.trans e2
  unfold addD
  rw [hc]
  simp [finD, Int.not_lt.2 hp]
theorem blk_add {T : List Str} {ws : List Int} (h : Blk T ws) : ∀ (p : ProgD) (n : Int), p.words + ws.length ≤ 1024 → ∃ L, addAll T n p = .ok { p with lines := p.lines ++ L, words := p.words + ws.length } ∧ ∀ S out, encAll S L out = .ok (out ++ ws) := by
  induction h with
  | nil => intro p n hp; exact ⟨[], by simp [addAll], fun S out => by simp [encAll]⟩
  | line h h' ih =>
    intro p n hp
    simp only [List.length_cons] at hp
    obtain ⟨l, h1, h2⟩ := add_line h p n (by omega)
    obtain ⟨L, h3, h4⟩ := ih { p with lines := p.lines ++ [l], words := p.words + 1 } (n + 1) (by simp only; omega)
    refine ⟨l :: L, ?_, fun S out => by rw [h2, h4]; simp⟩
    simp only [addAll, h1, if_true, h3, List.length_cons, List.append_assoc, List.cons_append, List.nil_append]
    congr 2; omega
  | empty h h' ih =>
    intro p n hp
    obtain ⟨L, h3, h4⟩ := ih p (n + 1) hp
    have h1 := add_empty h p n (by omega)
    exact ⟨L, by simp only [addAll, h1, if_true, h3], h4⟩
theorem lines_no : ∀ (a b : Str), (∀ c ∈ a, c ≠ 10) → linesD (a ++ 10 :: b) = a :: linesD b
  | [], b, _ => by simp [linesD]
  | c :: a, b, h => by
    have ih := lines_no a b fun d hd => h d (List.mem_cons_of_mem _ hd)
    simp only [List.cons_append, linesD, if_neg (h c (List.mem_cons_self ..)), ih]
theorem pl_10 {a : Str} (h : a.all plC = true) : ∀ c ∈ a, c ≠ 10 := fun c hc => by
  have := List.all_eq_true.1 h c hc
  simp only [plC, Bool.and_eq_true, decide_eq_true_eq] at this
  exact this.1.1
theorem pl_59 {a : Str} (h : a.all plC = true) : 59 ∉ a := fun hc => by
  have := List.all_eq_true.1 h 59 hc
  revert this; decide
theorem pl_ascii {a : Str} (h : a.all plC = true) : isAscii a := fun c hc => by
  have := List.all_eq_true.1 h c hc
  simp only [plC, Bool.and_eq_true, decide_eq_true_eq] at this
  exact this.2
theorem blank1 : blank [32] := fun c hc => by simpa using hc
theorem blank0 : blank [] := fun c hc => by cases hc
/-- what Disassemble gives -/
def disW (w : Int) : Str := if validD (decI w) = true then fmtD (decI w) else wordS ++ 32 :: hexT w.toNat
def disS (ws : List Int) : Str := ws.flatMap fun w => disW w ++ [10]
theorem disW_eq (w : Int) : disW w = disT w [32] [32] [32] [] := by
  unfold disW disT
  split
  · rename_i hv
    unfold fmtD lineT
    rw [if_pos hv]
    (repeat' split) <;> simp [List.append_assoc]
  · simp [wordT]
def inW (ws : List Int) : Prop := ∀ w ∈ ws, 0 ≤ w ∧ w < 4294967296
theorem dis_lines : ∀ ws : List Int, inW ws → ∃ T, splitD (disS ws) = T ∧ Blk T ws
  | [], _ => ⟨_, rfl, .empty (t := []) blank0 .nil⟩
  | w :: ws, h => by
    obtain ⟨T, h1, h2⟩ := dis_lines ws fun x hx => h x (List.mem_cons_of_mem _ hx)
    obtain ⟨w0, w1⟩ := h w (List.mem_cons_self ..)
    have hp := disT_pl w w1 blank1 blank1 blank1 blank0
    have e : disS (w :: ws) = disT w [32] [32] [32] [] ++ 10 :: disS ws := by simp [disS, disW_eq]
    refine ⟨disT w [32] [32] [32] [] :: T, ?_, .line (disT_ok w w0 w1 blank1 (by decide) blank1 blank1 blank0) h2⟩
    unfold splitD at h1 ⊢
    rw [e, lines_no _ _ (pl_10 hp), List.map_cons, h1, bef_no (pl_59 hp)]
theorem dis_ascii (ws : List Int) (h : inW ws) : isAscii (disS ws) := by
  intro c hc
  simp only [disS, List.mem_flatMap] at hc
  obtain ⟨w, hw, hc⟩ := hc
  rcases List.mem_append.1 hc with hc | hc
  · rw [disW_eq] at hc
    exact pl_ascii (disT_pl w (h w hw).2 blank1 blank1 blank1 blank0) c hc
  · simp only [List.mem_singleton] at hc; subst hc; decide
theorem dis_len : ∀ ws : List Int, (disS ws).length ≤ 81 * ws.length
  | [] => by simp [disS]
  | w :: ws => by
    have h := dis_len ws
    have h1 := disT_len w
    have e : disS (w :: ws) = disT w [32] [32] [32] [] ++ 10 :: disS ws := by simp [disS, disW_eq]
    rw [e]
    simp only [List.length_append, List.length_cons]
    omega
/- behind a source -/
def p3B (t : Str) : Bool := match psOpt (clD (befD t 59)).2.1 with
  | some l => decide (l.words ≤ 3)
  | none => true
end Go.Proofs.YtjlbpkokdlggiaaGreatDoor
