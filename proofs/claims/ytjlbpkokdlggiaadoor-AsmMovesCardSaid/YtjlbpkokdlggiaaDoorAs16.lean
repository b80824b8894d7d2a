/- The law AsmMoves: the plain part, the walk. (Numbers of seat r2.D.) -/
import Derived.Test.YtjlbpkokdlggiaaDoorAs12
import Derived.Test.YtjlbpkokdlggiaaDoorDec
namespace Go.Proofs.YtjlbpkokdlggiaaDoor
open Go.Ab Go.RowKit
set_option linter.unusedSimpArgs false
set_option maxRecDepth 100000
def spS (k : Nat) : Str := [46, 115, 112, 97, 99, 101, 32] ++ Lib.itoa (k : Int)
def spL (k : Nat) : LineD := ⟨0, 0, k, 0, [110], 0, false, 75, 0, 0, 0, k, []⟩
def xC : Str := [120, 58, 32]
def plainB (s : Str) : Bool := s.all fun b => decide (b ≠ 10) && decide (b ≠ 59) && decide (b.toNat < 128)
def spB (k : Nat) : Bool := decide (clD (spS k) = ([], spS k, true)) && decide (clD (xC ++ spS k) = ([120], spS k, true)) && decide (psOpt (spS k) = some (spL k)) && plainB (spS k) && decide ((spS k).length ≤ 40)
theorem sp_all : ((List.range 201).all spB) = true := by kernel_rfl
theorem sp_at (k : Nat) (h : k ≤ 200) : clD (spS k) = ([], spS k, true) ∧ clD (xC ++ spS k) = ([120], spS k, true) ∧ psOpt (spS k) = some (spL k) ∧ plainB (spS k) = true ∧ (spS k).length ≤ 40 := by
  have h1 := List.all_eq_true.1 sp_all k (List.mem_range.2 (by omega))
  simp only [spB, Bool.and_eq_true, decide_eq_true_eq] at h1
  exact ⟨h1.1.1.1.1, h1.1.1.1.2, h1.1.1.2, h1.1.2, h1.2⟩
def jalS : Str := [106, 97, 108, 32, 114, 49, 44, 32, 120]
def jalL : LineD := ⟨0, 0, 1, 48, [114, 44, 120], 1, true, 77, 1, 0, 0, 0, [120]⟩
def nopS : Str := [110, 111, 112]
def nopL : LineD := ⟨0, 0, 1, 16, [], 1, false, 77, 0, 0, 0, 0, []⟩
theorem jal_cl : clD jalS = ([], jalS, true) := by kernel_rfl
theorem jal_ps : psOpt jalS = some jalL := by kernel_rfl
theorem nop_cl : clD (xC ++ nopS) = ([120], nopS, true) := by kernel_rfl
theorem nop_ps : psOpt nopS = some nopL := by kernel_rfl
theorem lines_app : ∀ (a b : Str), plainB a = true → linesD (a ++ 10 :: b) = a :: linesD b
  | [], b, _ => by simp [linesD]
  | c :: a, b, h => by
    simp only [plainB, List.all_cons, Bool.and_eq_true, decide_eq_true_eq] at h
    have ih := lines_app a b h.2
    simp only [List.cons_append, linesD, if_neg h.1.1.1, ih]
theorem bef_plain {a : Str} (h : plainB a = true) : befD a 59 = a := bef_no fun hm => by
  have := List.all_eq_true.1 h 59 hm
  simp at this
theorem plain_app {a b : Str} (ha : plainB a = true) (hb : plainB b = true) : plainB (a ++ b) = true := by
  simp only [plainB, List.all_append, Bool.and_eq_true] at ha hb ⊢; exact ⟨ha, hb⟩
theorem plain_ascii {a : Str} (h : plainB a = true) : isAscii a := fun b hb => by
  have := List.all_eq_true.1 h b hb
  simp only [Bool.and_eq_true, decide_eq_true_eq] at this
  exact this.2
theorem add_of {p : ProgD} {n : Int} {t lb r : Str} {l : LineD} (hc : clD t = (lb, r, true)) (hr : r ≠ []) (hl : psOpt r = some l) : addD p n t = finD lb (4 * p.words) { p with lines := p.lines ++ [{ l with number := n, at' := 4 * p.words }], words := p.words + l.words } := by
  unfold addD
  rw [hc]
  simp [hr, hl]
theorem add_end {p : ProgD} {n : Int} (h : p.words ≤ 1024) : addD p n [] = (0, p) := by
  have hc : clD [] = ([], [], true) := by kernel_rfl
  unfold addD
  rw [hc]
  simp [finD, Int.not_lt.2 h]
theorem sp_ne (k : Nat) : spS k ≠ [] := by simp [spS]
def srcB (s n : Nat) : Str := spS s ++ 10 :: ((xC ++ spS n) ++ 10 :: (jalS ++ 10 :: []))
def srcF (s n : Nat) : Str := spS s ++ 10 :: (jalS ++ 10 :: (spS n ++ 10 :: ((xC ++ nopS) ++ 10 :: [])))
theorem splitB (s n : Nat) (hs : s ≤ 200) (hn : n ≤ 200) : splitD (srcB s n) = [spS s, xC ++ spS n, jalS, []] := by
  obtain ⟨_, _, _, p1, _⟩ := sp_at s hs
  obtain ⟨_, _, _, p2, _⟩ := sp_at n hn
  have p3 : plainB (xC ++ spS n) = true := plain_app (by kernel_rfl) p2
  have p4 : plainB jalS = true := by kernel_rfl
  unfold splitD srcB
  rw [lines_app _ _ p1, lines_app _ _ p3, lines_app _ _ p4]
  simp only [linesD, List.map_cons, List.map_nil, bef_plain p1, bef_plain p3, bef_plain p4]
  rfl
theorem splitF (s n : Nat) (hs : s ≤ 200) (hn : n ≤ 200) : splitD (srcF s n) = [spS s, jalS, spS n, xC ++ nopS, []] := by
  obtain ⟨_, _, _, p1, _⟩ := sp_at s hs
  obtain ⟨_, _, _, p2, _⟩ := sp_at n hn
  have p3 : plainB (xC ++ nopS) = true := by kernel_rfl
  have p4 : plainB jalS = true := by kernel_rfl
  unfold splitD srcF
  rw [lines_app _ _ p1, lines_app _ _ p4, lines_app _ _ p2, lines_app _ _ p3]
  simp only [linesD, List.map_cons, List.map_nil, bef_plain p1, bef_plain p2, bef_plain p3, bef_plain p4]
  rfl
theorem src_facts (s n : Nat) (hs : s ≤ 200) (hn : n ≤ 200) : isAscii (srcB s n) ∧ (srcB s n).length ≤ 200 ∧ isAscii (srcF s n) ∧ (srcF s n).length ≤ 200 := by
  obtain ⟨_, _, _, p1, l1⟩ := sp_at s hs
  obtain ⟨_, _, _, p2, l2⟩ := sp_at n hn
  have a1 := plain_ascii p1
  have a2 := plain_ascii p2
  have a3 : isAscii xC := plain_ascii (by kernel_rfl)
  have a4 : isAscii jalS := plain_ascii (by kernel_rfl)
  have a5 : isAscii nopS := plain_ascii (by kernel_rfl)
  have ap : ∀ {a b : Str}, isAscii a → isAscii b → isAscii (a ++ b) := fun ha hb c hc => (List.mem_append.1 hc).elim (ha c) (hb c)
  have ac : ∀ {b : Str}, isAscii b → isAscii (10 :: b) := fun hb c hc => by
    rcases List.mem_cons.1 hc with rfl | hc
    · decide
    · exact hb c hc
  have an : isAscii [] := fun c hc => by cases hc
  have e1 : xC.length = 3 := rfl
  have e2 : jalS.length = 9 := rfl
  have e3 : nopS.length = 3 := rfl
  refine ⟨ap a1 (ac (ap (ap a3 a2) (ac (ap a4 (ac an))))), ?_, ap a1 (ac (ap a4 (ac (ap a2 (ac (ap (ap a3 a5) (ac an))))))), ?_⟩
  · simp only [srcB, List.length_append, List.length_cons, List.length_nil]; omega
  · simp only [srcF, List.length_append, List.length_cons, List.length_nil]; omega
theorem fin_none {a : Int} {q : ProgD} (h : q.words ≤ 1024) : finD [] a q = (0, q) := by simp [finD, Int.not_lt.2 h]
theorem fin_x {a : Int} {q : ProgD} (h : q.words ≤ 1024) (hs : q.syms = []) : finD [120] a q = (0, { q with syms := [([120], a)] }) := by simp [finD, Int.not_lt.2 h, hs, findL]
theorem parseB (s n : Nat) (hs : s ≤ 200) (hn : n ≤ 200) : parseD (srcB s n) = .ok ⟨[{ spL s with number := 1, at' := 0 }, { spL n with number := 2, at' := 4 * s }, { jalL with number := 3, at' := 4 * (s + n) }], [([120], 4 * s)], s + n + 1⟩ := by
  have hl := (src_facts s n hs hn).2.1
  obtain ⟨c1, _, o1, _, _⟩ := sp_at s hs
  obtain ⟨_, c2, o2, _, _⟩ := sp_at n hn
  unfold parseD
  rw [if_neg (by omega), splitB s n hs hn]
  have w1 : (spL s).words = s := rfl
  have w2 : (spL n).words = n := rfl
  have w3 : jalL.words = 1 := rfl
  have j1 : jalS ≠ [] := by decide
  simp only [addAll]
  rw [add_of c1 (sp_ne s) o1, fin_none (by simp only [w1]; omega)]
  simp only [if_true]
  rw [add_of c2 (sp_ne n) o2, fin_x (by simp only [w1, w2]; omega) rfl]
  simp only [if_true]
  rw [add_of jal_cl j1 jal_ps, fin_none (by simp only [w1, w2, w3]; omega)]
  simp only [if_true]
  rw [add_end (by simp only [w1, w2, w3]; omega)]
  simp [w1, w2, w3]
theorem parseF (s n : Nat) (hs : s ≤ 200) (hn : n ≤ 200) : parseD (srcF s n) = .ok ⟨[{ spL s with number := 1, at' := 0 }, { jalL with number := 2, at' := 4 * s }, { spL n with number := 3, at' := 4 * (s + 1) }, { nopL with number := 4, at' := 4 * (s + 1 + n) }], [([120], 4 * (s + 1 + n))], s + 1 + n + 1⟩ := by
  have hl := (src_facts s n hs hn).2.2.2
  obtain ⟨c1, _, o1, _, _⟩ := sp_at s hs
  obtain ⟨c2, _, o2, _, _⟩ := sp_at n hn
  unfold parseD
  rw [if_neg (by omega), splitF s n hs hn]
  have w1 : (spL s).words = s := rfl
  have w2 : (spL n).words = n := rfl
  have w3 : jalL.words = 1 := rfl
  have w4 : nopL.words = 1 := rfl
  have j1 : jalS ≠ [] := by decide
  have j2 : nopS ≠ [] := by decide
  simp only [addAll]
  rw [add_of c1 (sp_ne s) o1, fin_none (by simp only [w1]; omega)]
  simp only [if_true]
  rw [add_of jal_cl j1 jal_ps, fin_none (by simp only [w1, w3]; omega)]
  simp only [if_true]
  rw [add_of c2 (sp_ne n) o2, fin_none (by simp only [w1, w2, w3]; omega)]
  simp only [if_true]
  rw [add_of nop_cl j2 nop_ps, fin_x (by simp only [w1, w2, w3, w4]; omega) rfl]
  simp only [if_true]
  rw [add_end (by simp only [w1, w2, w3, w4]; omega)]
  simp [w1, w2, w3, w4]
def jalI (x : Int) : InstD := ⟨48, 1, 0, 0, x⟩
theorem jal_valid (x : Int) (h : -300 ≤ x ∧ x ≤ 300) : validD (jalI x) = true := by simp [jalI, validD, formD, uA, uB, uC, regB, lowD, highD]; omega
theorem code_sp (k : Nat) (a b x : Int) : codeL { spL k with number := a, at' := b } x = some (List.replicate k 0) := by simp [codeL, spL]
theorem code_jal (a b x : Int) (h : -300 ≤ x ∧ x ≤ 300) : codeL { jalL with number := a, at' := b } x = some [encW (jalI x)] := by
  have hv := jal_valid x h
  have hi : iI { jalL with number := a, at' := b } x = jalI x := rfl
  have hc : ({ jalL with number := a, at' := b } : LineD).code = 77 := rfl
  unfold codeL
  rw [hi, hc, if_neg (by decide), if_neg (by decide), if_neg (by decide), if_pos ⟨by omega, hv⟩]
def nopI : InstD := ⟨16, 0, 0, 0, 0⟩
theorem code_nop (a b : Int) : codeL { nopL with number := a, at' := b } 0 = some [encW nopI] := by
  have hv : validD nopI = true := by kernel_rfl
  have hi : iI { nopL with number := a, at' := b } 0 = nopI := rfl
  have hc : ({ nopL with number := a, at' := b } : LineD).code = 77 := rfl
  unfold codeL
  rw [hi, hc, if_neg (by decide), if_neg (by decide), if_neg (by decide), if_pos ⟨by omega, hv⟩]
theorem enc_cons {S : List (Str × Int)} {l : LineD} {ls : List LineD} {out w : List Int} {x : Int} (hv : valL S l = some x) (hc : codeL l x = some w) : encAll S (l :: ls) out = encAll S ls (out ++ w) := by simp only [encAll, hv, hc]
theorem val_sp (S : List (Str × Int)) (k : Nat) (a b : Int) : valL S { spL k with number := a, at' := b } = some (k : Int) := by simp [valL, spL]
theorem val_nop (S : List (Str × Int)) (a b : Int) : valL S { nopL with number := a, at' := b } = some 0 := by simp [valL, nopL]
theorem val_jal (A a b d : Int) (h : (A - b).tdiv 4 = d) : valL [([120], A)] { jalL with number := a, at' := b } = some d := by simp [valL, jalL, findL, h]
theorem movesB (s n : Nat) (hs : s ≤ 200) (hn : n ≤ 50) : asmD (srcB s n) = .ok (List.replicate s 0 ++ List.replicate n 0 ++ [encW (jalI (-(n : Int)))]) ∧ symD (srcB s n) = .ok [([120], 4 * (s : Int))] := by
  have hp := parseB s n hs (by omega)
  have v1 : ∀ S a b, valL S { spL s with number := a, at' := b } = some (s : Int) := fun S a b => by simp [valL, spL]
  have v2 : ∀ S a b, valL S { spL n with number := a, at' := b } = some (n : Int) := fun S a b => by simp [valL, spL]
  have v3 : valL [([120], 4 * (s : Int))] { jalL with number := 3, at' := 4 * ((s : Int) + n) } = some (-(n : Int)) := by
    have : (4 * (s : Int) - 4 * ((s : Int) + n)).tdiv 4 = -(n : Int) := by
      rw [show 4 * (s : Int) - 4 * ((s : Int) + n) = 4 * (-(n : Int)) by omega]
      exact Int.mul_tdiv_cancel_left _ (by decide)
    simp [valL, jalL, findL, this]
  have he : encAll [([120], 4 * (s : Int))] [{ spL s with number := 1, at' := 0 }, { spL n with number := 2, at' := 4 * s }, { jalL with number := 3, at' := 4 * ((s : Int) + n) }] [] = .ok (List.replicate s 0 ++ List.replicate n 0 ++ [encW (jalI (-(n : Int)))]) := by
    simp only [encAll, v1, v2, v3, code_sp, code_jal _ _ (-(n : Int)) (by omega), List.nil_append]
  exact ⟨by simp only [asmD, hp, he], by simp only [symD, hp, he]⟩
def nopW : Int := encW nopI
theorem code_nop' (a b : Int) : codeL { nopL with number := a, at' := b } 0 = some [nopW] := code_nop a b
theorem div4 (s n : Int) : (4 * (s + 1 + n) - 4 * s).tdiv 4 = n + 1 := by
  rw [show 4 * (s + 1 + n) - 4 * s = 4 * (n + 1) by omega]
  exact Int.mul_tdiv_cancel_left _ (by decide)
theorem encF (s n : Nat) (A z : Int) (hA : A = 4 * ((s : Int) + 1 + n)) (hz : z = (n : Int) + 1) (hn : n ≤ 50) (a b c d b1 b3 b4 : Int) (hb : b1 = 4 * (s : Int)) : encAll [([120], A)] [{ spL s with number := a, at' := 0 }, { jalL with number := b, at' := b1 }, { spL n with number := c, at' := b3 }, { nopL with number := d, at' := b4 }] [] = .ok ((([] ++ List.replicate s 0) ++ [encW (jalI z)]) ++ List.replicate n 0 ++ [nopW]) := by
  have h3 : (A - b1).tdiv 4 = z := by rw [hA, hb, hz]; exact div4 s n
  rw [enc_cons (val_sp _ s a 0) (code_sp s a 0 s), enc_cons (val_jal A b b1 z h3) (code_jal b b1 z (by omega)), enc_cons (val_sp _ n c b3) (code_sp n c b3 n), enc_cons (val_nop _ d b4) (code_nop' d b4)]
  rfl
theorem movesF (s n : Nat) (hs : s ≤ 200) (hn : n ≤ 50) : asmD (srcF s n) = .ok (List.replicate s 0 ++ [encW (jalI ((n : Int) + 1))] ++ List.replicate n 0 ++ [nopW]) ∧ symD (srcF s n) = .ok [([120], 4 * ((s : Int) + 1 + n))] := by
  have hp := parseF s n hs (by omega)
  have he := encF s n _ _ rfl rfl hn 1 2 3 4 (4 * (s : Int)) (4 * ((s : Int) + 1)) (4 * ((s : Int) + 1 + n)) rfl
  rw [List.nil_append] at he
  unfold asmD symD
  rw [hp]
  simp only
  rw [he]
  exact ⟨rfl, rfl⟩
theorem outB_at (s n : Nat) (z : Int) : (List.replicate s 0 ++ List.replicate n 0 ++ [z])[s + n]? = some z := by
  rw [List.getElem?_append_right (by simp)]; simp
theorem outF_at (s n : Nat) (z u : Int) : (List.replicate s 0 ++ [z] ++ List.replicate n 0 ++ [u])[s]? = some z := by
  rw [List.append_assoc, List.append_assoc, List.getElem?_append_right (by simp)]; simp
set_option maxHeartbeats 16000000 in
theorem moves_ok (n space : Int) (back : Bool) : Meets Tryd.prog 9 [.int .i64 n, .int .i64 space, .bool back] (.bool true) := by
  refine Meets.of Tryd.func9 rfl (by kernel_rfl) rfl ?_
  simp only [Tryd.ntmps9, St.start, argT]
  repeat (first | (with_reducible refine awp_seqK fun K hK => ?_) | (with_reducible refine awp_block ?_) | (with_reducible refine awp_region (by kernel_rfl) ?_; simp) | (first | ((with_reducible refine hK _ ?_); clear hK) | (clear hK; (iterate 10 (try ((fail_if_success ((with_reducible refine hK _ ?_))); clear hK))); (with_reducible refine hK _ ?_); clear hK)) | ((with_reducible first | refine gcall_tt ?_ | refine gcall_ff ?_ | refine gcall_tf ?_ | refine gcall_ft ?_); simp) | (with_reducible refine awp_skip ?_; simp) | (with_reducible refine awp_exit ?_; simp) | (refine And.intro (by first | omega | assumption | grind) ?_))
  refine awp_cond rfl (fun h => ?_) (fun h => ?_)
  · repeat (first | (with_reducible refine awp_seqK fun K hK => ?_) | (with_reducible refine awp_block ?_) | (with_reducible refine awp_region (by kernel_rfl) ?_; simp) | (first | ((with_reducible refine hK _ ?_); clear hK) | (clear hK; (iterate 10 (try ((fail_if_success ((with_reducible refine hK _ ?_))); clear hK))); (with_reducible refine hK _ ?_); clear hK)) | ((with_reducible first | refine gcall_tt ?_ | refine gcall_ff ?_ | refine gcall_tf ?_ | refine gcall_ft ?_); simp) | (with_reducible refine awp_skip ?_; simp) | (with_reducible refine awp_exit ?_; simp) | (refine And.intro (by first | omega | assumption | grind) ?_))
    first | refine .inl ⟨0, _, awake23_ok, ?_⟩ | refine .inl ⟨0, _, Meets.wk (awake23_ok) (by simp), ?_⟩ | refine ⟨0, _, awake23_ok, ?_⟩ | refine ⟨0, _, Meets.wk (awake23_ok) (by simp), ?_⟩
    simp [aftC, aftE]
    repeat (first | (with_reducible refine awp_seqK fun K hK => ?_) | (with_reducible refine awp_block ?_) | (with_reducible refine awp_region (by kernel_rfl) ?_; simp) | (first | ((with_reducible refine hK _ ?_); clear hK) | (clear hK; (iterate 10 (try ((fail_if_success ((with_reducible refine hK _ ?_))); clear hK))); (with_reducible refine hK _ ?_); clear hK)) | ((with_reducible first | refine gcall_tt ?_ | refine gcall_ff ?_ | refine gcall_tf ?_ | refine gcall_ft ?_); simp) | (with_reducible refine awp_skip ?_; simp) | (with_reducible refine awp_exit ?_; simp) | (refine And.intro (by first | omega | assumption | grind) ?_))
    refine awp_ret ?_
    simp
  · have hb : 0 ≤ n ∧ n ≤ 50 ∧ 0 ≤ space ∧ space ≤ 200 := by simp at h; omega
    clear h
    obtain ⟨k, hk, rfl⟩ : ∃ k : Nat, k ≤ 50 ∧ n = (k : Int) := ⟨n.toNat, by omega, by omega⟩
    obtain ⟨s, hs, rfl⟩ : ∃ s : Nat, s ≤ 200 ∧ space = (s : Int) := ⟨space.toNat, by omega, by omega⟩
    have hl1 := Lib.itoa_length_le (k : Int) (by omega) (by omega)
    have hl2 := Lib.itoa_length_le (s : Int) (by omega) (by omega)
    obtain ⟨a1, b1, a2, b2⟩ := src_facts s k hs (by omega)
    have w1 : IntKind.i64.wrap (-(k : Int)) = -(k : Int) := wrap_i64_in (by omega) (by omega)
    have w2 : IntKind.i64.wrap ((s : Int) + k) = (s : Int) + k := wrap_i64_in (by omega) (by omega)
    have w3 : IntKind.i64.wrap ((k : Int) + 1) = (k : Int) + 1 := wrap_i64_in (by omega) (by omega)
    have w4 : IntKind.i64.wrap ((s : Int) + k + 1) = (s : Int) + k + 1 := wrap_i64_in (by omega) (by omega)
    have w5 : IntKind.i32.wrap (-(k : Int)) = -(k : Int) := by rw [IntKind.wrap_i32]; omega
    have w6 : IntKind.i32.wrap ((k : Int) + 1) = (k : Int) + 1 := by rw [IntKind.wrap_i32]; omega
    have w7 : IntKind.u32.wrap (IntKind.i64.wrap (4 * (s : Int))) = 4 * (s : Int) := by rw [wrap_i64_in (by omega) (by omega), IntKind.wrap_u32]; omega
    have w8 : IntKind.u32.wrap (IntKind.i64.wrap (4 * ((s : Int) + k + 1))) = 4 * ((s : Int) + 1 + k) := by rw [wrap_i64_in (by omega) (by omega), IntKind.wrap_u32]; omega
    repeat (first | (with_reducible refine awp_seqK fun K hK => ?_) | (with_reducible refine awp_block ?_) | (with_reducible refine awp_region (by kernel_rfl) ?_; simp) | (first | ((with_reducible refine hK _ ?_); clear hK) | (clear hK; (iterate 10 (try ((fail_if_success ((with_reducible refine hK _ ?_))); clear hK))); (with_reducible refine hK _ ?_); clear hK)) | ((with_reducible first | refine gcall_tt ?_ | refine gcall_ff ?_ | refine gcall_tf ?_ | refine gcall_ft ?_); simp) | (with_reducible refine awp_skip ?_; simp) | (with_reducible refine awp_exit ?_; simp) | (refine And.intro (by first | omega | assumption | grind) ?_))
    first | refine .inl ⟨0, _, decimal_ok (s : Int) (by omega) (by omega), ?_⟩ | refine .inl ⟨0, _, Meets.wk (decimal_ok (s : Int) (by omega) (by omega)) (by simp), ?_⟩ | refine ⟨0, _, decimal_ok (s : Int) (by omega) (by omega), ?_⟩ | refine ⟨0, _, Meets.wk (decimal_ok (s : Int) (by omega) (by omega)) (by simp), ?_⟩
    simp [aftC, aftE]
    repeat (first | (with_reducible refine awp_seqK fun K hK => ?_) | (with_reducible refine awp_block ?_) | (with_reducible refine awp_region (by kernel_rfl) ?_; simp) | (first | ((with_reducible refine hK _ ?_); clear hK) | (clear hK; (iterate 10 (try ((fail_if_success ((with_reducible refine hK _ ?_))); clear hK))); (with_reducible refine hK _ ?_); clear hK)) | ((with_reducible first | refine gcall_tt ?_ | refine gcall_ff ?_ | refine gcall_tf ?_ | refine gcall_ft ?_); simp) | (with_reducible refine awp_skip ?_; simp) | (with_reducible refine awp_exit ?_; simp) | (refine And.intro (by first | omega | assumption | grind) ?_))
    first | refine .inl ⟨0, _, decimal_ok (k : Int) (by omega) (by omega), ?_⟩ | refine .inl ⟨0, _, Meets.wk (decimal_ok (k : Int) (by omega) (by omega)) (by simp), ?_⟩ | refine ⟨0, _, decimal_ok (k : Int) (by omega) (by omega), ?_⟩ | refine ⟨0, _, Meets.wk (decimal_ok (k : Int) (by omega) (by omega)) (by simp), ?_⟩
    simp [aftC, aftE]
    repeat (first | (with_reducible refine awp_seqK fun K hK => ?_) | (with_reducible refine awp_block ?_) | (with_reducible refine awp_region (by kernel_rfl) ?_; simp) | (first | ((with_reducible refine hK _ ?_); clear hK) | (clear hK; (iterate 10 (try ((fail_if_success ((with_reducible refine hK _ ?_))); clear hK))); (with_reducible refine hK _ ?_); clear hK)) | ((with_reducible first | refine gcall_tt ?_ | refine gcall_ff ?_ | refine gcall_tf ?_ | refine gcall_ft ?_); simp) | (with_reducible refine awp_skip ?_; simp) | (with_reducible refine awp_exit ?_; simp) | (refine And.intro (by first | omega | assumption | grind) ?_))
    cases back with
    | true =>
      have hs1 := assemble_ok (srcB s k) a1 (by omega)
      have hs2 := symbols_ok (srcB s k) a1 (by omega)
      obtain ⟨m1, m2⟩ := movesB s k hs hk
      have v1 : asmV (srcB s k) = .tup [.sl 1 false (ints .u32 (List.replicate s 0 ++ List.replicate k 0 ++ [encW (jalI (-(k : Int)))])), errV (0, 0)] := by unfold asmV; rw [m1]
      have v2 : symV (srcB s k) = .tup [.sl 2 false [[.str [120], .int .u32 (4 * (s : Int))]], errV (0, 0)] := by unfold symV; rw [m2]; rfl
      have hat := outB_at s k (encW (jalI (-(k : Int))))
      have hln : (List.replicate s 0 ++ List.replicate k 0 ++ [encW (jalI (-(k : Int)))]).length = s + k + 1 := by simp
      generalize List.replicate s 0 ++ List.replicate k 0 ++ [encW (jalI (-(k : Int)))] = w at hat hln v1
      have hgi : (ints .u32 w)[s + k]? = some [.int .u32 (encW (jalI (-(k : Int))))] := by simp [ints, hat]
      have hil := ints_len .u32 w
      rw [v1] at hs1
      rw [v2] at hs2
      simp only [srcB, spS, xC, jalS, nopS, List.append_assoc, List.cons_append, List.nil_append] at hs1 hs2
      have hen := encodeR_ok (jalI (-(k : Int))) (by simp only [jalI]; omega)
      rw [jal_valid _ (by omega), if_pos rfl] at hen
      refine awp_cond rfl (fun h => by simp at h) (fun _ => ?_)
      repeat (first | (with_reducible refine awp_seqK fun K hK => ?_) | (with_reducible refine awp_block ?_) | (with_reducible refine awp_region (by kernel_rfl) ?_; simp) | (first | ((with_reducible refine hK _ ?_); clear hK) | (clear hK; (iterate 10 (try ((fail_if_success ((with_reducible refine hK _ ?_))); clear hK))); (with_reducible refine hK _ ?_); clear hK)) | ((with_reducible first | refine gcall_tt ?_ | refine gcall_ff ?_ | refine gcall_tf ?_ | refine gcall_ft ?_); simp) | (with_reducible refine awp_skip ?_; simp) | (with_reducible refine awp_exit ?_; simp) | (refine And.intro (by first | omega | assumption | grind) ?_))
      first | refine .inl ⟨0, _, hs1, ?_⟩ | refine .inl ⟨0, _, Meets.wk (hs1) (by simp), ?_⟩ | refine ⟨0, _, hs1, ?_⟩ | refine ⟨0, _, Meets.wk (hs1) (by simp), ?_⟩
      simp [aftC, aftE]
      repeat (first | (with_reducible refine awp_seqK fun K hK => ?_) | (with_reducible refine awp_block ?_) | (with_reducible refine awp_region (by kernel_rfl) ?_; simp) | (first | ((with_reducible refine hK _ ?_); clear hK) | (clear hK; (iterate 10 (try ((fail_if_success ((with_reducible refine hK _ ?_))); clear hK))); (with_reducible refine hK _ ?_); clear hK)) | ((with_reducible first | refine gcall_tt ?_ | refine gcall_ff ?_ | refine gcall_tf ?_ | refine gcall_ft ?_); simp) | (with_reducible refine awp_skip ?_; simp) | (with_reducible refine awp_exit ?_; simp) | (refine And.intro (by first | omega | assumption | grind) ?_))
      first | refine .inl ⟨0, _, hs2, ?_⟩ | refine .inl ⟨0, _, Meets.wk (hs2) (by simp), ?_⟩ | refine ⟨0, _, hs2, ?_⟩ | refine ⟨0, _, Meets.wk (hs2) (by simp), ?_⟩
      simp [aftC, aftE]
      repeat (first | (with_reducible refine awp_seqK fun K hK => ?_) | (with_reducible refine awp_block ?_) | (with_reducible refine awp_region (by kernel_rfl) ?_; simp) | (first | ((with_reducible refine hK _ ?_); clear hK) | (clear hK; (iterate 10 (try ((fail_if_success ((with_reducible refine hK _ ?_))); clear hK))); (with_reducible refine hK _ ?_); clear hK)) | ((with_reducible first | refine gcall_tt ?_ | refine gcall_ff ?_ | refine gcall_tf ?_ | refine gcall_ft ?_); simp) | (with_reducible refine awp_skip ?_; simp) | (with_reducible refine awp_exit ?_; simp) | (refine And.intro (by first | omega | assumption | grind) ?_))
      refine awp_cond rfl (fun h => by simp at h) (fun _ => ?_)
      repeat (first | (with_reducible refine awp_seqK fun K hK => ?_) | (with_reducible refine awp_block ?_) | (with_reducible refine awp_region (by kernel_rfl) ?_; simp [w1, w2]) | (first | ((with_reducible refine hK _ ?_); clear hK) | (clear hK; (iterate 10 (try ((fail_if_success ((with_reducible refine hK _ ?_))); clear hK))); (with_reducible refine hK _ ?_); clear hK)) | ((with_reducible first | refine gcall_tt ?_ | refine gcall_ff ?_ | refine gcall_tf ?_ | refine gcall_ft ?_); simp [w1, w2]) | (with_reducible refine awp_skip ?_; simp [w1, w2]) | (with_reducible refine awp_exit ?_; simp [w1, w2]) | (refine And.intro (by first | omega | assumption | grind) ?_))
      refine awp_cond rfl (fun h => by simp at h) (fun _ => ?_)
      repeat (first | (with_reducible refine awp_seqK fun K hK => ?_) | (with_reducible refine awp_block ?_) | (with_reducible refine awp_region (by kernel_rfl) ?_; simp [w5]) | (first | ((with_reducible refine hK _ ?_); clear hK) | (clear hK; (iterate 10 (try ((fail_if_success ((with_reducible refine hK _ ?_))); clear hK))); (with_reducible refine hK _ ?_); clear hK)) | ((with_reducible first | refine gcall_tt ?_ | refine gcall_ff ?_ | refine gcall_tf ?_ | refine gcall_ft ?_); simp [w5]) | (with_reducible refine awp_skip ?_; simp [w5]) | (with_reducible refine awp_exit ?_; simp [w5]) | (refine And.intro (by first | omega | assumption | grind) ?_))
      first | refine .inl ⟨0, _, hen, ?_⟩ | refine .inl ⟨0, _, Meets.wk (hen) (by simp), ?_⟩ | refine ⟨0, _, hen, ?_⟩ | refine ⟨0, _, Meets.wk (hen) (by simp), ?_⟩
      simp [aftC, aftE]
      have htn : ((s : Int) + (k : Int)).toNat = s + k := by omega
      have hgi2 : ∀ h : s + k < (ints .u32 w).length, (ints .u32 w)[s + k]'h = [.int .u32 (encW (jalI (-(k : Int))))] := fun h => by
        have := hgi
        rw [List.getElem?_eq_getElem h] at this
        exact Option.some.inj this
      have hlt : (s : Int) + (k : Int) < (s : Int) + (k : Int) + 1 := by omega
      repeat (first | (with_reducible refine awp_seqK fun K hK => ?_) | (with_reducible refine awp_block ?_) | (with_reducible refine awp_region (by kernel_rfl) ?_; simp [hil, hln, hgi, w7, htn, hgi2, hlt]) | (first | ((with_reducible refine hK _ ?_); clear hK) | (clear hK; (iterate 10 (try ((fail_if_success ((with_reducible refine hK _ ?_))); clear hK))); (with_reducible refine hK _ ?_); clear hK)) | ((with_reducible first | refine gcall_tt ?_ | refine gcall_ff ?_ | refine gcall_tf ?_ | refine gcall_ft ?_); simp [hil, hln, hgi, w7, htn, hgi2, hlt]) | (with_reducible refine awp_skip ?_; simp [hil, hln, hgi, w7, htn, hgi2, hlt]) | (with_reducible refine awp_exit ?_; simp [hil, hln, hgi, w7, htn, hgi2, hlt]) | (refine And.intro (by first | omega | assumption | grind) ?_))
      first | refine .inl ⟨0, _, awake23_ok, ?_⟩ | refine .inl ⟨0, _, Meets.wk (awake23_ok) (by simp), ?_⟩ | refine ⟨0, _, awake23_ok, ?_⟩ | refine ⟨0, _, Meets.wk (awake23_ok) (by simp), ?_⟩
      simp [aftC, aftE]
      repeat (first | (with_reducible refine awp_seqK fun K hK => ?_) | (with_reducible refine awp_block ?_) | (with_reducible refine awp_region (by kernel_rfl) ?_; simp) | (first | ((with_reducible refine hK _ ?_); clear hK) | (clear hK; (iterate 10 (try ((fail_if_success ((with_reducible refine hK _ ?_))); clear hK))); (with_reducible refine hK _ ?_); clear hK)) | ((with_reducible first | refine gcall_tt ?_ | refine gcall_ff ?_ | refine gcall_tf ?_ | refine gcall_ft ?_); simp) | (with_reducible refine awp_skip ?_; simp) | (with_reducible refine awp_exit ?_; simp) | (refine And.intro (by first | omega | assumption | grind) ?_))
      refine awp_ret ?_
      simp
    | false =>
      have hs1 := assemble_ok (srcF s k) a2 (by omega)
      have hs2 := symbols_ok (srcF s k) a2 (by omega)
      obtain ⟨m1, m2⟩ := movesF s k hs hk
      have v1 : asmV (srcF s k) = .tup [.sl 1 false (ints .u32 (List.replicate s 0 ++ [encW (jalI ((k : Int) + 1))] ++ List.replicate k 0 ++ [nopW])), errV (0, 0)] := by unfold asmV; rw [m1]
      have v2 : symV (srcF s k) = .tup [.sl 2 false [[.str [120], .int .u32 (4 * ((s : Int) + 1 + k))]], errV (0, 0)] := by unfold symV; rw [m2]; rfl
      have hat := outF_at s k (encW (jalI ((k : Int) + 1))) (nopW)
      have hln : (List.replicate s 0 ++ [encW (jalI ((k : Int) + 1))] ++ List.replicate k 0 ++ [nopW]).length = s + 1 + k + 1 := by simp; omega
      generalize List.replicate s 0 ++ [encW (jalI ((k : Int) + 1))] ++ List.replicate k 0 ++ [nopW] = w at hat hln v1
      have hgi : (ints .u32 w)[s]? = some [.int .u32 (encW (jalI ((k : Int) + 1)))] := by simp [ints, hat]
      have hil := ints_len .u32 w
      rw [v1] at hs1
      rw [v2] at hs2
      simp only [srcF, spS, xC, jalS, nopS, List.append_assoc, List.cons_append, List.nil_append] at hs1 hs2
      have hen := encodeR_ok (jalI ((k : Int) + 1)) (by simp only [jalI]; omega)
      rw [jal_valid _ (by omega), if_pos rfl] at hen
      refine awp_cond rfl (fun _ => ?_) (fun h => by simp at h)
      repeat (first | (with_reducible refine awp_seqK fun K hK => ?_) | (with_reducible refine awp_block ?_) | (with_reducible refine awp_region (by kernel_rfl) ?_; simp) | (first | ((with_reducible refine hK _ ?_); clear hK) | (clear hK; (iterate 10 (try ((fail_if_success ((with_reducible refine hK _ ?_))); clear hK))); (with_reducible refine hK _ ?_); clear hK)) | ((with_reducible first | refine gcall_tt ?_ | refine gcall_ff ?_ | refine gcall_tf ?_ | refine gcall_ft ?_); simp) | (with_reducible refine awp_skip ?_; simp) | (with_reducible refine awp_exit ?_; simp) | (refine And.intro (by first | omega | assumption | grind) ?_))
      first | refine .inl ⟨0, _, decimal_ok (s : Int) (by omega) (by omega), ?_⟩ | refine .inl ⟨0, _, Meets.wk (decimal_ok (s : Int) (by omega) (by omega)) (by simp), ?_⟩ | refine ⟨0, _, decimal_ok (s : Int) (by omega) (by omega), ?_⟩ | refine ⟨0, _, Meets.wk (decimal_ok (s : Int) (by omega) (by omega)) (by simp), ?_⟩
      simp [aftC, aftE]
      repeat (first | (with_reducible refine awp_seqK fun K hK => ?_) | (with_reducible refine awp_block ?_) | (with_reducible refine awp_region (by kernel_rfl) ?_; simp) | (first | ((with_reducible refine hK _ ?_); clear hK) | (clear hK; (iterate 10 (try ((fail_if_success ((with_reducible refine hK _ ?_))); clear hK))); (with_reducible refine hK _ ?_); clear hK)) | ((with_reducible first | refine gcall_tt ?_ | refine gcall_ff ?_ | refine gcall_tf ?_ | refine gcall_ft ?_); simp) | (with_reducible refine awp_skip ?_; simp) | (with_reducible refine awp_exit ?_; simp) | (refine And.intro (by first | omega | assumption | grind) ?_))
      first | refine .inl ⟨0, _, decimal_ok (k : Int) (by omega) (by omega), ?_⟩ | refine .inl ⟨0, _, Meets.wk (decimal_ok (k : Int) (by omega) (by omega)) (by simp), ?_⟩ | refine ⟨0, _, decimal_ok (k : Int) (by omega) (by omega), ?_⟩ | refine ⟨0, _, Meets.wk (decimal_ok (k : Int) (by omega) (by omega)) (by simp), ?_⟩
      simp [aftC, aftE]
      repeat (first | (with_reducible refine awp_seqK fun K hK => ?_) | (with_reducible refine awp_block ?_) | (with_reducible refine awp_region (by kernel_rfl) ?_; simp) | (first | ((with_reducible refine hK _ ?_); clear hK) | (clear hK; (iterate 10 (try ((fail_if_success ((with_reducible refine hK _ ?_))); clear hK))); (with_reducible refine hK _ ?_); clear hK)) | ((with_reducible first | refine gcall_tt ?_ | refine gcall_ff ?_ | refine gcall_tf ?_ | refine gcall_ft ?_); simp) | (with_reducible refine awp_skip ?_; simp) | (with_reducible refine awp_exit ?_; simp) | (refine And.intro (by first | omega | assumption | grind) ?_))
      first | refine .inl ⟨0, _, hs1, ?_⟩ | refine .inl ⟨0, _, Meets.wk (hs1) (by simp), ?_⟩ | refine ⟨0, _, hs1, ?_⟩ | refine ⟨0, _, Meets.wk (hs1) (by simp), ?_⟩
      simp [aftC, aftE]
      repeat (first | (with_reducible refine awp_seqK fun K hK => ?_) | (with_reducible refine awp_block ?_) | (with_reducible refine awp_region (by kernel_rfl) ?_; simp) | (first | ((with_reducible refine hK _ ?_); clear hK) | (clear hK; (iterate 10 (try ((fail_if_success ((with_reducible refine hK _ ?_))); clear hK))); (with_reducible refine hK _ ?_); clear hK)) | ((with_reducible first | refine gcall_tt ?_ | refine gcall_ff ?_ | refine gcall_tf ?_ | refine gcall_ft ?_); simp) | (with_reducible refine awp_skip ?_; simp) | (with_reducible refine awp_exit ?_; simp) | (refine And.intro (by first | omega | assumption | grind) ?_))
      first | refine .inl ⟨0, _, hs2, ?_⟩ | refine .inl ⟨0, _, Meets.wk (hs2) (by simp), ?_⟩ | refine ⟨0, _, hs2, ?_⟩ | refine ⟨0, _, Meets.wk (hs2) (by simp), ?_⟩
      simp [aftC, aftE]
      repeat (first | (with_reducible refine awp_seqK fun K hK => ?_) | (with_reducible refine awp_block ?_) | (with_reducible refine awp_region (by kernel_rfl) ?_; simp) | (first | ((with_reducible refine hK _ ?_); clear hK) | (clear hK; (iterate 10 (try ((fail_if_success ((with_reducible refine hK _ ?_))); clear hK))); (with_reducible refine hK _ ?_); clear hK)) | ((with_reducible first | refine gcall_tt ?_ | refine gcall_ff ?_ | refine gcall_tf ?_ | refine gcall_ft ?_); simp) | (with_reducible refine awp_skip ?_; simp) | (with_reducible refine awp_exit ?_; simp) | (refine And.intro (by first | omega | assumption | grind) ?_))
      refine awp_cond rfl (fun h => by simp at h) (fun _ => ?_)
      repeat (first | (with_reducible refine awp_seqK fun K hK => ?_) | (with_reducible refine awp_block ?_) | (with_reducible refine awp_region (by kernel_rfl) ?_; simp [w1, w2]) | (first | ((with_reducible refine hK _ ?_); clear hK) | (clear hK; (iterate 10 (try ((fail_if_success ((with_reducible refine hK _ ?_))); clear hK))); (with_reducible refine hK _ ?_); clear hK)) | ((with_reducible first | refine gcall_tt ?_ | refine gcall_ff ?_ | refine gcall_tf ?_ | refine gcall_ft ?_); simp [w1, w2]) | (with_reducible refine awp_skip ?_; simp [w1, w2]) | (with_reducible refine awp_exit ?_; simp [w1, w2]) | (refine And.intro (by first | omega | assumption | grind) ?_))
      refine awp_cond rfl (fun _ => ?_) (fun h => by simp at h)
      repeat (first | (with_reducible refine awp_seqK fun K hK => ?_) | (with_reducible refine awp_block ?_) | (with_reducible refine awp_region (by kernel_rfl) ?_; simp [w2, w3, w4, w6]) | (first | ((with_reducible refine hK _ ?_); clear hK) | (clear hK; (iterate 10 (try ((fail_if_success ((with_reducible refine hK _ ?_))); clear hK))); (with_reducible refine hK _ ?_); clear hK)) | ((with_reducible first | refine gcall_tt ?_ | refine gcall_ff ?_ | refine gcall_tf ?_ | refine gcall_ft ?_); simp [w2, w3, w4, w6]) | (with_reducible refine awp_skip ?_; simp [w2, w3, w4, w6]) | (with_reducible refine awp_exit ?_; simp [w2, w3, w4, w6]) | (refine And.intro (by first | omega | assumption | grind) ?_))
      first | refine .inl ⟨0, _, hen, ?_⟩ | refine .inl ⟨0, _, Meets.wk (hen) (by simp), ?_⟩ | refine ⟨0, _, hen, ?_⟩ | refine ⟨0, _, Meets.wk (hen) (by simp), ?_⟩
      simp [aftC, aftE]
      have hlt : (s : Int) < (s : Int) + 1 + (k : Int) + 1 := by omega
      have w9 : (s : Int) + (k : Int) + 1 = (s : Int) + 1 + (k : Int) := by omega
      repeat (first | (with_reducible refine awp_seqK fun K hK => ?_) | (with_reducible refine awp_block ?_) | (with_reducible refine awp_region (by kernel_rfl) ?_; simp [hil, hln, hgi, w8, hlt]) | (first | ((with_reducible refine hK _ ?_); clear hK) | (clear hK; (iterate 10 (try ((fail_if_success ((with_reducible refine hK _ ?_))); clear hK))); (with_reducible refine hK _ ?_); clear hK)) | ((with_reducible first | refine gcall_tt ?_ | refine gcall_ff ?_ | refine gcall_tf ?_ | refine gcall_ft ?_); simp [hil, hln, hgi, w8, hlt]) | (with_reducible refine awp_skip ?_; simp [hil, hln, hgi, w8, hlt]) | (with_reducible refine awp_exit ?_; simp [hil, hln, hgi, w8, hlt]) | (refine And.intro (by first | omega | assumption | grind) ?_))
      first | refine .inl ⟨0, _, awake23_ok, ?_⟩ | refine .inl ⟨0, _, Meets.wk (awake23_ok) (by simp), ?_⟩ | refine ⟨0, _, awake23_ok, ?_⟩ | refine ⟨0, _, Meets.wk (awake23_ok) (by simp), ?_⟩
      simp [aftC, aftE]
      repeat (first | (with_reducible refine awp_seqK fun K hK => ?_) | (with_reducible refine awp_block ?_) | (with_reducible refine awp_region (by kernel_rfl) ?_; simp) | (first | ((with_reducible refine hK _ ?_); clear hK) | (clear hK; (iterate 10 (try ((fail_if_success ((with_reducible refine hK _ ?_))); clear hK))); (with_reducible refine hK _ ?_); clear hK)) | ((with_reducible first | refine gcall_tt ?_ | refine gcall_ff ?_ | refine gcall_tf ?_ | refine gcall_ft ?_); simp) | (with_reducible refine awp_skip ?_; simp) | (with_reducible refine awp_exit ?_; simp) | (refine And.intro (by first | omega | assumption | grind) ?_))
      refine awp_ret ?_
      simp
end Go.Proofs.YtjlbpkokdlggiaaDoor
