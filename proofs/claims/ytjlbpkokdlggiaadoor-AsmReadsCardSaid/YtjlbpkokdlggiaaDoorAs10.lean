/- Package asm: encode. (Numbers of seat r2.D.) -/
import Derived.Test.YtjlbpkokdlggiaaDoorAs9
namespace Go.Proofs.YtjlbpkokdlggiaaDoor
open Go.Ab Go.RowKit
set_option linter.unusedSimpArgs false
set_option maxRecDepth 100000
theorem findI_lt {s : Str} : ∀ {l : List Str} {k q : Nat}, findI s l k = some q → q < k + l.length
  | x :: r, k, q, h => by
    simp only [findI] at h
    split at h
    · simp only [Option.some.injEq] at h; subst h; simp
    · have := findI_lt h; simp only [List.length_cons]; omega
theorem regN_lt {s : Str} {q : Nat} (h : regN s = some q) : q < 16 := by
  have := findI_lt h
  simpa [regNames] using this
theorem pn_bound {s : Str} {v : Int} (h : pnD s = some v) : -2147483648 ≤ v ∧ v ≤ 4294967295 := by
  unfold pnD at h
  by_cases h16 : Lib.hasPrefix s [48, 120] = true
  · rw [if_pos h16] at h
    cases hp : pdD (s.drop 2) 8 16 with
    | none => rw [hp] at h; cases h
    | some x =>
      rw [hp] at h
      change some (x : Int) = some v at h
      injection h with h
      unfold pdD at hp
      split at hp
      · cases hp
      · rename_i hl
        have h1 := digs_lt (.inr rfl) _ 0 x hp
        have h2 : 16 ^ (s.drop 2).length ≤ 16 ^ 8 := Nat.pow_le_pow_right (by omega) (by omega)
        omega
  · rw [if_neg h16] at h
    cases hp : pdD (Lib.trimPrefix s [45]) 10 10 with
    | none => rw [hp] at h; cases h
    | some x =>
      rw [hp] at h
      simp only at h
      generalize (if Lib.hasPrefix s [45] = true then -(x : Int) else (x : Int)) = y at h
      split at h
      · cases h
      · simp only [Option.some.injEq] at h
        omega
theorem pv_bound {s : Str} {b : Bool} {v : Int × Str} (h : pvD s b = some v) : -2147483648 ≤ v.1 ∧ v.1 ≤ 4294967295 := by
  unfold pvD at h
  split at h
  · simp only [Option.some.injEq] at h; subst h; simp
  · cases hp : pnD s with
    | none => rw [hp] at h; simp at h
    | some x =>
      rw [hp] at h
      simp only [Option.map_some, Option.some.injEq] at h
      subst h
      exact pn_bound hp
theorem pat_facts : ∀ (p : Str) (rest : Str) (k : Nat) (rg : Int × Int × Int) (im : Int × Str) {r : Str} {rg' : Int × Int × Int} {im' : Int × Str}, patD p rest k rg im = some (r, rg', im') → 0 ≤ rg.1 → rg.1 ≤ 15 → -2147483648 ≤ im.1 → im.1 ≤ 4294967295 →
    0 ≤ rg'.1 ∧ rg'.1 ≤ 15 ∧ -2147483648 ≤ im'.1 ∧ im'.1 ≤ 4294967295
  | [], rest, k, rg, im, r, rg', im', h, h1, h2, h3, h4 => by
    simp only [patD, Option.some.injEq, Prod.mk.injEq] at h
    obtain ⟨_, rfl, rfl⟩ := h
    exact ⟨h1, h2, h3, h4⟩
  | c :: p, rest, k, rg, im, r, rg', im', h, h1, h2, h3, h4 => by
    simp only [patD] at h
    split at h
    · split at h
      · exact pat_facts p _ _ _ _ h h1 h2 h3 h4
      · cases h
    · split at h
      · split at h
        · rename_i q hq
          have hlt := regN_lt hq
          refine pat_facts p _ _ _ _ h ?_ ?_ h3 h4
          · unfold setR; split
            · simp only; omega
            · split <;> exact h1
          · unfold setR; split
            · simp only; omega
            · split <;> exact h2
        · cases h
      · split at h
        · rename_i v hv
          have hb := pv_bound hv
          exact pat_facts p _ _ _ _ h h1 h2 hb.1 hb.2
        · cases h
def goodLine (l : LineD) : Prop := okLine l ∧ (0 ≤ l.r0 ∧ l.r0 ≤ 15) ∧ (-2147483648 ≤ l.num ∧ l.num ≤ 4294967295)
theorem ps_good {s : Str} {l : LineD} (h : psOpt s = some l) : goodLine l := by
  have hok : okLine l := by
    rcases ps_cases s with ⟨e, _⟩ | ⟨l', e, _⟩ | ⟨l', e, _, h'⟩
    · rw [e] at h; cases h
    · rw [e] at h; cases h
    · rw [e] at h; simp only [Option.some.injEq] at h; subst h; exact h'
  refine ⟨hok, ?_⟩
  unfold psOpt at h
  split at h
  · cases h
  · split at h
    · cases h
    · rename_i hp
      have := pat_facts _ _ _ _ _ hp (by decide) (by decide) (by decide) (by decide)
      split at h
      · cases h
      · split at h
        · simp only [Option.some.injEq] at h
          subst h
          exact ⟨⟨this.1, this.2.1⟩, this.2.2⟩
        · cases h
def goodP (p : ProgD) : Prop := (∀ l ∈ p.lines, goodLine l ∧ 0 ≤ l.at' ∧ l.at' ≤ 4096) ∧ (∀ x ∈ p.syms, 0 ≤ x.2 ∧ x.2 ≤ 4096) ∧ 0 ≤ p.words ∧ p.words ≤ 1024
theorem fin_good {lb : Str} {at' : Int} {q r : ProgD} (h : finD lb at' q = (0, r)) (h1 : ∀ l ∈ q.lines, goodLine l ∧ 0 ≤ l.at' ∧ l.at' ≤ 4096) (h2 : ∀ x ∈ q.syms, 0 ≤ x.2 ∧ x.2 ≤ 4096) (h3 : 0 ≤ q.words) (h4 : 0 ≤ at' ∧ at' ≤ 4096) : goodP r := by
  unfold finD at h
  split at h
  · simp at h
  · split at h
    · simp at h
    · rename_i hw
      simp only [Prod.mk.injEq, true_and] at h
      subst h
      split
      · exact ⟨h1, h2, h3, by omega⟩
      · refine ⟨h1, fun x hx => ?_, h3, by simp only; omega⟩
        rcases List.mem_append.1 hx with hx | hx
        · exact h2 x hx
        · simp only [List.mem_singleton] at hx; subst hx; exact h4
theorem add_good {p q : ProgD} {n : Int} {t : Str} (h : addD p n t = (0, q)) (hp : goodP p) : goodP q := by
  obtain ⟨h1, h2, h3, h4⟩ := hp
  unfold addD at h
  split at h
  · simp at h
  · by_cases hr : (clD t).2.1 = []
    · rw [if_pos hr] at h
      exact fin_good h h1 h2 h3 (by omega)
    · rw [if_neg hr] at h
      cases hl : psOpt (clD t).2.1 with
      | none => rw [hl] at h; simp at h
      | some l =>
        rw [hl] at h
        have hg := ps_good hl
        refine fin_good h (fun x hx => ?_) h2 (by have := hg.1.1; simp only; omega) (by omega)
        rcases List.mem_append.1 hx with hx | hx
        · exact h1 x hx
        · simp only [List.mem_singleton] at hx
          subst hx
          exact ⟨hg, by simp only; omega, by simp only; omega⟩
theorem addAll_good : ∀ {L : List Str} {n : Int} {p q : ProgD}, addAll L n p = .ok q → goodP p → goodP q ∧ q.lines.length ≤ p.lines.length + L.length ∧ q.syms.length ≤ p.syms.length + L.length
  | [], n, p, q, h, hp => by simp only [addAll, Except.ok.injEq] at h; subst h; exact ⟨hp, by simp, by simp⟩
  | t :: L, n, p, q, h, hp => by
    simp only [addAll] at h
    split at h
    · rename_i h0
      have ha : addD p n t = (0, (addD p n t).2) := by rw [← h0]
      obtain ⟨g, l1, l2⟩ := addAll_good h (add_good ha hp)
      obtain ⟨_, _, f1, f2⟩ := add_facts ha hp.2.2.1
      exact ⟨g, by simp only [List.length_cons]; omega, by simp only [List.length_cons]; omega⟩
    · cases h
theorem parse_good {s : Str} {p : ProgD} (h : parseD s = .ok p) : goodP p ∧ p.lines.length ≤ 8193 ∧ p.syms.length ≤ 8193 := by
  unfold parseD at h
  split at h
  · cases h
  · obtain ⟨g, l1, l2⟩ := addAll_good h ⟨by simp, by simp, by simp, by simp⟩
    have := split_len s
    simp only [List.length_nil] at l1 l2
    exact ⟨g, by omega, by omega⟩
def valL (S : List (Str × Int)) (l : LineD) : Option Int := if l.name = [] then some l.num else (findL l.name S).map fun a => if l.rel then (a - l.at').tdiv 4 else a
def codeL (l : LineD) (x : Int) : Option (List Int) :=
  if l.code = 74 then some [x % 4294967296]
  else if l.code = 75 then some (List.replicate l.words.toNat 0)
  else if l.code = 76 then some (liW l.r0 x)
  else if (-2147483648 ≤ x ∧ x ≤ 2147483647) ∧ validD (iI l x) = true then some [encW (iI l x)] else none
def encAll (S : List (Str × Int)) : List LineD → List Int → Except (Int × Int) (List Int)
  | [], out => .ok out
  | l :: ls, out => match valL S l with
    | none => .error (302, l.number)
    | some x => match codeL l x with
      | none => .error (304, l.number)
      | some w => encAll S ls (out ++ w)
def encV (p : ProgD) : V := match encAll p.syms p.lines [] with
  | .error (e, n) => .tup [.sl 1 true [], .st [.int .i64 e, .int .i64 n]]
  | .ok out => .tup [.new 22 1 (ints .u32 out), .st [.int .i64 0, .int .i64 0]]
theorem findL_mem {s : Str} : ∀ {l : List (Str × Int)} {a : Int}, findL s l = some a → ∃ x ∈ l, x.2 = a
  | x :: r, a, h => by
    simp only [findL] at h
    split at h
    · simp only [Option.some.injEq] at h; exact ⟨x, List.mem_cons_self .., h⟩
    · obtain ⟨y, hy, e⟩ := findL_mem h; exact ⟨y, List.mem_cons_of_mem _ hy, e⟩
@[simp] theorem ints_nil (k : IntKind) : ints k [] = [] := rfl
theorem ints_app (k : IntKind) (l m : List Int) : ints k l ++ ints k m = ints k (l ++ m) := by simp [ints]
theorem ints_rep (k : IntKind) (n : Nat) (x : Int) : List.replicate n [V.int k x] = ints k (List.replicate n x) := by simp [ints]
theorem lines_at (l : List LineD) (i : Nat) (h : i < l.length) : (linesV l)[i]? = some l[i].row := by simp [linesV, h]
theorem td_bound {d : Int} (h : -4096 ≤ d ∧ d ≤ 4096) : -4096 ≤ d.tdiv 4 ∧ d.tdiv 4 ≤ 4096 := by
  rcases Int.le_total 0 d with h0 | h0
  · rw [Int.tdiv_eq_ediv_of_nonneg h0]; omega
  · have : d.tdiv 4 = -((-d).tdiv 4) := by rw [Int.neg_tdiv]; omega
    rw [this, Int.tdiv_eq_ediv_of_nonneg (by omega)]; omega
theorem val_bound {S : List (Str × Int)} {l : LineD} {x : Int} (hS : ∀ x ∈ S, 0 ≤ x.2 ∧ x.2 ≤ 4096) (hn : -2147483648 ≤ l.num ∧ l.num ≤ 4294967295) (ha : 0 ≤ l.at' ∧ l.at' ≤ 4096) (h : valL S l = some x) : -2147483648 ≤ x ∧ x ≤ 4294967295 := by
  unfold valL at h
  split at h
  · simp only [Option.some.injEq] at h; omega
  · cases hf : findL l.name S with
    | none => rw [hf] at h; cases h
    | some a =>
      rw [hf] at h
      obtain ⟨y, hy, rfl⟩ := findL_mem hf
      have hb := hS y hy
      simp only [Option.map_some, Option.some.injEq] at h
      split at h
      · obtain ⟨d, hd⟩ : ∃ d, d = y.2 - l.at' := ⟨_, rfl⟩
        rw [← hd] at h
        have hb' : -4096 ≤ d ∧ d ≤ 4096 := by omega
        have h1 : -4096 ≤ d.tdiv 4 ∧ d.tdiv 4 ≤ 4096 := by
          rcases Int.le_total 0 d with h0 | h0
          · rw [Int.tdiv_eq_ediv_of_nonneg h0]; omega
          · have : d.tdiv 4 = -((-d).tdiv 4) := by rw [Int.neg_tdiv]; omega
            rw [this, Int.tdiv_eq_ediv_of_nonneg (by omega)]; omega
        omega
      · omega
theorem code_len {l : LineD} {x : Int} {w : List Int} (hl : okLine l) (h : codeL l x = some w) : w.length ≤ 1024 := by
  obtain ⟨h0, h1, _⟩ := hl
  unfold codeL at h
  split at h
  · simp only [Option.some.injEq] at h; subst h; simp
  · split at h
    · simp only [Option.some.injEq] at h; subst h; simp; omega
    · split at h
      · simp only [Option.some.injEq] at h; subst h; simp [liW]
      · split at h
        · simp only [Option.some.injEq] at h; subst h; simp
        · cases h
set_option maxHeartbeats 16000000 in
theorem encode46_ok (p : ProgD) (hp : goodP p) (hl : p.lines.length ≤ 8193) : Meets Tryd.prog 46 [progV p] (encV p) := by
  have hks := syms_keys p.syms
  have hll := linesV_len p.lines
  obtain ⟨hL, hS, _, _⟩ := hp
  refine Meets.of Tryd.func46 rfl (by kernel_rfl) rfl ?_
  simp only [Tryd.ntmps46, St.start, argT]
  refine au2 @progV.eq_1 @hll ?_
  repeat intro K hK
  refine wr ?_
  refine awp_nilOwn 4 22 1 (by decide) rfl ?_
  obtain ⟨I, hI⟩ : ∃ I : Nat → St → Prop, I = (fun kk ss => ∃ (i : Nat) (out : List Int), i ≤ p.lines.length ∧ kk = p.lines.length - i ∧ (encAll p.syms p.lines [] = encAll p.syms (p.lines.drop i) out ∧ out.length ≤ i * 1024) ∧ ss = ⟨72, [(15, .int .i64 i), (14, .int .i64 p.lines.length), (13, .sl 13 false (linesV p.lines)), (4, .own 2), (3, .ptr 1 2 0 0), (2, .sl 0 true []), (1, .ptr 0 4 0 0)], 3, [(0, some ⟨81, 4, true, false, [[.sl 13 false (linesV p.lines), .sl 2 false (symsV p.syms), .mp 2 (symsV p.syms), .int .i64 p.words]]⟩), (1, some ⟨45, 2, true, false, [[.int .i64 0, .int .i64 0]]⟩), (2, some ⟨22, 1, false, false, ints .u32 out⟩)], 0⟩) := ⟨_, rfl⟩
  refine awp_loopA I (k0 := p.lines.length) (st0 := (fun (i : Nat) (out : List Int) => (⟨72, [(15, .int .i64 i), (14, .int .i64 p.lines.length), (13, .sl 13 false (linesV p.lines)), (4, .own 2), (3, .ptr 1 2 0 0), (2, .sl 0 true []), (1, .ptr 0 4 0 0)], 3, [(0, some ⟨81, 4, true, false, [[.sl 13 false (linesV p.lines), .sl 2 false (symsV p.syms), .mp 2 (symsV p.syms), .int .i64 p.words]]⟩), (1, some ⟨45, 2, true, false, [[.int .i64 0, .int .i64 0]]⟩), (2, some ⟨22, 1, false, false, ints .u32 out⟩)], 0⟩ : St)) 0 []) (ρ0 := id) ⟨rfl, by simp [leT, ltV, lt1, ren, ren1], by simp [leO, lt1, ren1], by simp, by simp⟩ (by rw [hI]; exact ⟨0, [], by simp, by simp, ⟨rfl, by simp⟩, rfl⟩) ?_
  intro kk ss hIk _
  rw [hI] at hIk
  obtain ⟨i, out, hi, rfl, hx, rfl⟩ := hIk
  obtain ⟨hx, ho⟩ := hx
  have hil := ints_len .u32 out
  have hmx : (ints .u32 out).length + 1024 ≤ maxLen := by rw [hil]; simp only [maxLen]; omega
  have hw : IntKind.i64.wrap ((i : Int) + 1) = ((i + 1 : Nat) : Int) := by rw [wrap_i64_in (by omega) (by omega)]; omega
  refine au  ?_
  repeat intro K hK
  refine wr ?_
  by_cases hi : i < p.lines.length
  · obtain ⟨l, hle⟩ : ∃ l, l = p.lines[i] := ⟨_, rfl⟩
    have hlm : l ∈ p.lines := by rw [hle]; exact List.getElem_mem hi
    obtain ⟨hgl, hat⟩ := hL l hlm
    have hget : (linesV p.lines)[i]? = some l.row := by rw [hle]; exact lines_at _ i hi
    have hdr : p.lines.drop i = l :: p.lines.drop (i + 1) := by rw [List.drop_eq_getElem_cons hi, hle]
    rw [hdr] at hx
    simp only [encAll] at hx
    refine awp_cond rfl (fun _ => ?_) (fun h => by simp [hi] at h)
    refine au2 @hget @hll ?_
    repeat intro K hK
    refine wr ?_
    by_cases hn : l.name = []
    · have hv : valL p.syms l = some l.num := by simp [valL, hn]
      refine awp_cond rfl (fun h => by simp [hn] at h) (fun _ => ?_)
      refine au  ?_
      repeat intro K hK
      refine wr ?_
      have hvb := val_bound hS hgl.2.2 hat hv
      rw [hv] at hx
      simp only at hx
      rcases hgl.1.2.2 with hcode | hcode | hcode | hcode
      · have hcl : codeL l (l.num) = some [(l.num) % 4294967296] := by simp [codeL, hcode]
        rw [hcl] at hx
        have hm := word_ok l (l.num)
        simp only [LineD.row, hcode] at hm
        rw [hcode]
        refine ca (hm)  ?_
        refine au  ?_
        repeat intro K hK
        refine wr ?_
        have hcn := code_len hgl.1 hcl
        refine awp_cond rfl (fun h => by simp at h) (fun _ => ?_)
        refine au1 @ints_len ?_
        repeat intro K hK
        refine wr ?_
        refine again_of (p.lines.length - (i + 1)) ((fun (i : Nat) (out : List Int) => (⟨72, [(15, .int .i64 i), (14, .int .i64 p.lines.length), (13, .sl 13 false (linesV p.lines)), (4, .own 2), (3, .ptr 1 2 0 0), (2, .sl 0 true []), (1, .ptr 0 4 0 0)], 3, [(0, some ⟨81, 4, true, false, [[.sl 13 false (linesV p.lines), .sl 2 false (symsV p.syms), .mp 2 (symsV p.syms), .int .i64 p.words]]⟩), (1, some ⟨45, 2, true, false, [[.int .i64 0, .int .i64 0]]⟩), (2, some ⟨22, 1, false, false, ints .u32 out⟩)], 0⟩ : St)) (i + 1) (out ++ [(l.num) % 4294967296])) (fun x => if x = 2 then 6 else x) (by omega) (by rw [hI]; exact ⟨i + 1, (out ++ [(l.num) % 4294967296]), by omega, rfl, ⟨hx, by rw [List.length_append]; omega⟩, rfl⟩) ⟨rfl, ?_, ?_, ?_, by simp⟩
        · simp [leT, ltV, lt1, ren, ren1, wrap_i64_in (n := (i : Int) + 1) (by omega) (by omega), hw, ints, liW]
        · simp [leO, lt1, ren1, hw, ints, liW]
        · (simp; try omega)
      · have hcl : codeL l (l.num) = some (List.replicate l.words.toNat 0) := by simp [codeL, hcode]
        rw [hcl] at hx
        have hm := space_ok l (l.num) hgl.1.1 hgl.1.2.1
        simp only [LineD.row, hcode] at hm
        rw [hcode]
        refine ca (hm)  ?_
        refine au  ?_
        repeat intro K hK
        refine wr ?_
        have hcn := code_len hgl.1 hcl
        refine awp_cond rfl (fun h => by simp at h) (fun _ => ?_)
        refine au1 @ints_len ?_
        repeat intro K hK
        refine wr ?_
        refine again_of (p.lines.length - (i + 1)) ((fun (i : Nat) (out : List Int) => (⟨72, [(15, .int .i64 i), (14, .int .i64 p.lines.length), (13, .sl 13 false (linesV p.lines)), (4, .own 2), (3, .ptr 1 2 0 0), (2, .sl 0 true []), (1, .ptr 0 4 0 0)], 3, [(0, some ⟨81, 4, true, false, [[.sl 13 false (linesV p.lines), .sl 2 false (symsV p.syms), .mp 2 (symsV p.syms), .int .i64 p.words]]⟩), (1, some ⟨45, 2, true, false, [[.int .i64 0, .int .i64 0]]⟩), (2, some ⟨22, 1, false, false, ints .u32 out⟩)], 0⟩ : St)) (i + 1) (out ++ (List.replicate l.words.toNat 0))) (fun x => if x = 2 then 6 else x) (by omega) (by rw [hI]; exact ⟨i + 1, (out ++ (List.replicate l.words.toNat 0)), by omega, rfl, ⟨hx, by rw [List.length_append]; omega⟩, rfl⟩) ⟨rfl, ?_, ?_, ?_, by simp⟩
        · simp [leT, ltV, lt1, ren, ren1, wrap_i64_in (n := (i : Int) + 1) (by omega) (by omega), hw, ints, liW]
        · simp [leO, lt1, ren1, hw, ints, liW]
        · (simp; try omega)
      · have hcl : codeL l (l.num) = some (liW l.r0 (l.num)) := by simp [codeL, hcode]
        rw [hcl] at hx
        have hm := li_ok l (l.num) hgl.2.1.1 hgl.2.1.2
        simp only [LineD.row, hcode] at hm
        rw [hcode]
        refine ca (hm)  ?_
        refine au  ?_
        repeat intro K hK
        refine wr ?_
        have hcn := code_len hgl.1 hcl
        refine awp_cond rfl (fun h => by simp at h) (fun _ => ?_)
        refine au1 @ints_len ?_
        repeat intro K hK
        refine wr ?_
        refine again_of (p.lines.length - (i + 1)) ((fun (i : Nat) (out : List Int) => (⟨72, [(15, .int .i64 i), (14, .int .i64 p.lines.length), (13, .sl 13 false (linesV p.lines)), (4, .own 2), (3, .ptr 1 2 0 0), (2, .sl 0 true []), (1, .ptr 0 4 0 0)], 3, [(0, some ⟨81, 4, true, false, [[.sl 13 false (linesV p.lines), .sl 2 false (symsV p.syms), .mp 2 (symsV p.syms), .int .i64 p.words]]⟩), (1, some ⟨45, 2, true, false, [[.int .i64 0, .int .i64 0]]⟩), (2, some ⟨22, 1, false, false, ints .u32 out⟩)], 0⟩ : St)) (i + 1) (out ++ (liW l.r0 (l.num)))) (fun x => if x = 2 then 6 else x) (by omega) (by rw [hI]; exact ⟨i + 1, (out ++ (liW l.r0 (l.num))), by omega, rfl, ⟨hx, by rw [List.length_append]; omega⟩, rfl⟩) ⟨rfl, ?_, ?_, ?_, by simp⟩
        · simp [leT, ltV, lt1, ren, ren1, wrap_i64_in (n := (i : Int) + 1) (by omega) (by omega), hw, ints, liW]
        · simp [leO, lt1, ren1, hw, ints, liW]
        · (simp; try omega)
      · have hcl : codeL l (l.num) = if (-2147483648 ≤ (l.num) ∧ (l.num) ≤ 2147483647) ∧ validD (iI l (l.num)) = true then some [encW (iI l (l.num))] else none := by simp [codeL, hcode]
        rw [hcl] at hx
        rw [hcode]
        by_cases h32 : -2147483648 ≤ (l.num) ∧ (l.num) ≤ 2147483647
        · have hm := instC_ok l (l.num) h32
          simp only [LineD.row, hcode] at hm
          cases hvd : validD (iI l (l.num)) with
          | true =>
            rw [if_pos ⟨h32, hvd⟩] at hx hcl
            rw [hvd, if_pos rfl] at hm
            refine ca (hm)  ?_
            refine au  ?_
            repeat intro K hK
            refine wr ?_
            have hcn := code_len hgl.1 hcl
            refine awp_cond rfl (fun h => by simp at h) (fun _ => ?_)
            refine au1 @ints_len ?_
            repeat intro K hK
            refine wr ?_
            refine again_of (p.lines.length - (i + 1)) ((fun (i : Nat) (out : List Int) => (⟨72, [(15, .int .i64 i), (14, .int .i64 p.lines.length), (13, .sl 13 false (linesV p.lines)), (4, .own 2), (3, .ptr 1 2 0 0), (2, .sl 0 true []), (1, .ptr 0 4 0 0)], 3, [(0, some ⟨81, 4, true, false, [[.sl 13 false (linesV p.lines), .sl 2 false (symsV p.syms), .mp 2 (symsV p.syms), .int .i64 p.words]]⟩), (1, some ⟨45, 2, true, false, [[.int .i64 0, .int .i64 0]]⟩), (2, some ⟨22, 1, false, false, ints .u32 out⟩)], 0⟩ : St)) (i + 1) (out ++ [encW (iI l (l.num))])) (fun x => if x = 2 then 6 else x) (by omega) (by rw [hI]; exact ⟨i + 1, (out ++ [encW (iI l (l.num))]), by omega, rfl, ⟨hx, by rw [List.length_append]; omega⟩, rfl⟩) ⟨rfl, ?_, ?_, ?_, by simp⟩
            · simp [leT, ltV, lt1, ren, ren1, wrap_i64_in (n := (i : Int) + 1) (by omega) (by omega), hw, ints, liW]
            · simp [leO, lt1, ren1, hw, ints, liW]
            · (simp; try omega)
          | false =>
            rw [if_neg (by rw [hvd]; simp)] at hx hcl
            rw [hvd, if_neg (by simp)] at hm
            refine ca (hm)  ?_
            refine au  ?_
            repeat intro K hK
            refine wr ?_
            have hev : encV p = .tup [.sl 1 true [], .st [.int .i64 304, .int .i64 l.number]] := by unfold encV; rw [hx]
            refine awp_cond rfl (fun _ => ?_) (fun h => by simp at h)
            refine au  ?_
            repeat intro K hK
            refine wr ?_
            refine awp_planI ([0, 1, 2, 3, 4] : List Nat) ([[], [0], [0, 1], [], [0, 1, 2, 3]] : List (List Nat)) ([(4, ([[], [0], [0, 1], []], [])), (1, ([], []))] : List (Nat × List (List Nat) × List (Nat × Nat))) (by kernel_rfl) (by kernel_rfl) (by kernel_rfl) ?_
            refine af  ?_
            repeat intro K hK
            refine wr ?_
            refine awp_fzA ?_
            refine awp_ret ?_
            simp [hev]
        · have hm := instX_ok l (l.num) (by omega) h32
          simp only [LineD.row, hcode] at hm
          rw [if_neg (fun h => h32 h.1)] at hx hcl
          refine ca (hm)  ?_
          refine af  ?_
          repeat intro K hK
          refine wr ?_
          have hev : encV p = .tup [.sl 1 true [], .st [.int .i64 304, .int .i64 l.number]] := by unfold encV; rw [hx]
          refine awp_cond rfl (fun _ => ?_) (fun h => by simp at h)
          refine af  ?_
          repeat intro K hK
          refine wr ?_
          refine awp_planI ([0, 1, 2, 3, 4] : List Nat) ([[], [0], [0, 1], [], [0, 1, 2, 3]] : List (List Nat)) ([(4, ([[], [0], [0, 1], []], [])), (1, ([], []))] : List (Nat × List (List Nat) × List (Nat × Nat))) (by kernel_rfl) (by kernel_rfl) (by kernel_rfl) ?_
          refine af  ?_
          repeat intro K hK
          refine wr ?_
          refine awp_fzA ?_
          refine awp_ret ?_
          simp [hev]
    · have hmg := mget_syms l.name p.syms
      cases hf : findL l.name p.syms with
      | none =>
        have hv : valL p.syms l = none := by simp [valL, hn, hf]
        rw [hf] at hmg
        rw [hv] at hx
        simp only at hx
        refine awp_cond rfl (fun _ => ?_) (fun h => by simp [hn] at h)
        refine af3 @hmg @lkV.eq_1 @mkV.eq_1 ?_
        repeat intro K hK
        refine wr ?_
        have hev : encV p = .tup [.sl 1 true [], .st [.int .i64 302, .int .i64 l.number]] := by unfold encV; rw [hx]
        refine awp_cond rfl (fun _ => ?_) (fun h => by simp at h)
        refine af  ?_
        repeat intro K hK
        refine wr ?_
        refine awp_planI ([0, 1, 2, 3, 4] : List Nat) ([[], [0], [0, 1], [], [0, 1, 2, 3]] : List (List Nat)) ([(4, ([[], [0], [0, 1], []], [])), (1, ([], []))] : List (Nat × List (List Nat) × List (Nat × Nat))) (by kernel_rfl) (by kernel_rfl) (by kernel_rfl) ?_
        refine af  ?_
        repeat intro K hK
        refine wr ?_
        refine awp_fzA ?_
        refine awp_ret ?_
        simp [hev]
      | some a =>
        rw [hf] at hmg
        have hv : valL p.syms l = some (if l.rel then (a - l.at').tdiv 4 else a) := by simp [valL, hn, hf]
        obtain ⟨y, hy, hye⟩ := findL_mem hf
        have hab := hS y hy
        rw [hye] at hab
        have hw1 : IntKind.i64.wrap a = a := wrap_i64_in (by omega) (by omega)
        have hw2 : IntKind.i64.wrap l.at' = l.at' := wrap_i64_in (by omega) (by omega)
        have hw3 : IntKind.i64.wrap (a - l.at') = a - l.at' := wrap_i64_in (by omega) (by omega)
        refine awp_cond rfl (fun _ => ?_) (fun h => by simp [hn] at h)
        refine af3 @hmg @lkV.eq_1 @mkV.eq_1 ?_
        repeat intro K hK
        refine wr ?_
        refine awp_cond rfl (fun h => by simp at h) (fun _ => ?_)
        refine af1 @hw1 ?_
        repeat intro K hK
        refine wr ?_
        by_cases hrel : l.rel = true
        · rw [if_pos hrel] at hv
          have hb := td_bound (d := a - l.at') (by omega)
          have hw4 : IntKind.i64.wrap ((a - l.at').tdiv 4) = (a - l.at').tdiv 4 := wrap_i64_in (by omega) (by omega)
          refine awp_cond rfl (fun _ => ?_) (fun h => by simp [hrel] at h)
          refine af4 @hw1 @hw2 @hw3 @hw4 ?_
          repeat intro K hK
          refine wr ?_
          have hvb := val_bound hS hgl.2.2 hat hv
          rw [hv] at hx
          simp only at hx
          rcases hgl.1.2.2 with hcode | hcode | hcode | hcode
          · have hcl : codeL l (((a - l.at').tdiv 4)) = some [(((a - l.at').tdiv 4)) % 4294967296] := by simp [codeL, hcode]
            rw [hcl] at hx
            have hm := word_ok l (((a - l.at').tdiv 4))
            simp only [LineD.row, hcode] at hm
            rw [hcode]
            refine ca (hm)  ?_
            refine af  ?_
            repeat intro K hK
            refine wr ?_
            have hcn := code_len hgl.1 hcl
            refine awp_cond rfl (fun h => by simp at h) (fun _ => ?_)
            refine af1 @ints_len ?_
            repeat intro K hK
            refine wr ?_
            refine again_of (p.lines.length - (i + 1)) ((fun (i : Nat) (out : List Int) => (⟨72, [(15, .int .i64 i), (14, .int .i64 p.lines.length), (13, .sl 13 false (linesV p.lines)), (4, .own 2), (3, .ptr 1 2 0 0), (2, .sl 0 true []), (1, .ptr 0 4 0 0)], 3, [(0, some ⟨81, 4, true, false, [[.sl 13 false (linesV p.lines), .sl 2 false (symsV p.syms), .mp 2 (symsV p.syms), .int .i64 p.words]]⟩), (1, some ⟨45, 2, true, false, [[.int .i64 0, .int .i64 0]]⟩), (2, some ⟨22, 1, false, false, ints .u32 out⟩)], 0⟩ : St)) (i + 1) (out ++ [(((a - l.at').tdiv 4)) % 4294967296])) (fun x => if x = 2 then 6 else x) (by omega) (by rw [hI]; exact ⟨i + 1, (out ++ [(((a - l.at').tdiv 4)) % 4294967296]), by omega, rfl, ⟨hx, by rw [List.length_append]; omega⟩, rfl⟩) ⟨rfl, ?_, ?_, ?_, by simp⟩
            · simp [leT, ltV, lt1, ren, ren1, wrap_i64_in (n := (i : Int) + 1) (by omega) (by omega), hw, ints, liW]
            · simp [leO, lt1, ren1, hw, ints, liW]
            · (simp; try omega)
          · have hcl : codeL l (((a - l.at').tdiv 4)) = some (List.replicate l.words.toNat 0) := by simp [codeL, hcode]
            rw [hcl] at hx
            have hm := space_ok l (((a - l.at').tdiv 4)) hgl.1.1 hgl.1.2.1
            simp only [LineD.row, hcode] at hm
            rw [hcode]
            refine ca (hm)  ?_
            refine af  ?_
            repeat intro K hK
            refine wr ?_
            have hcn := code_len hgl.1 hcl
            refine awp_cond rfl (fun h => by simp at h) (fun _ => ?_)
            refine af1 @ints_len ?_
            repeat intro K hK
            refine wr ?_
            refine again_of (p.lines.length - (i + 1)) ((fun (i : Nat) (out : List Int) => (⟨72, [(15, .int .i64 i), (14, .int .i64 p.lines.length), (13, .sl 13 false (linesV p.lines)), (4, .own 2), (3, .ptr 1 2 0 0), (2, .sl 0 true []), (1, .ptr 0 4 0 0)], 3, [(0, some ⟨81, 4, true, false, [[.sl 13 false (linesV p.lines), .sl 2 false (symsV p.syms), .mp 2 (symsV p.syms), .int .i64 p.words]]⟩), (1, some ⟨45, 2, true, false, [[.int .i64 0, .int .i64 0]]⟩), (2, some ⟨22, 1, false, false, ints .u32 out⟩)], 0⟩ : St)) (i + 1) (out ++ (List.replicate l.words.toNat 0))) (fun x => if x = 2 then 6 else x) (by omega) (by rw [hI]; exact ⟨i + 1, (out ++ (List.replicate l.words.toNat 0)), by omega, rfl, ⟨hx, by rw [List.length_append]; omega⟩, rfl⟩) ⟨rfl, ?_, ?_, ?_, by simp⟩
            · simp [leT, ltV, lt1, ren, ren1, wrap_i64_in (n := (i : Int) + 1) (by omega) (by omega), hw, ints, liW]
            · simp [leO, lt1, ren1, hw, ints, liW]
            · (simp; try omega)
          · have hcl : codeL l (((a - l.at').tdiv 4)) = some (liW l.r0 (((a - l.at').tdiv 4))) := by simp [codeL, hcode]
            rw [hcl] at hx
            have hm := li_ok l (((a - l.at').tdiv 4)) hgl.2.1.1 hgl.2.1.2
            simp only [LineD.row, hcode] at hm
            rw [hcode]
            refine ca (hm)  ?_
            refine af  ?_
            repeat intro K hK
            refine wr ?_
            have hcn := code_len hgl.1 hcl
            refine awp_cond rfl (fun h => by simp at h) (fun _ => ?_)
            refine af1 @ints_len ?_
            repeat intro K hK
            refine wr ?_
            refine again_of (p.lines.length - (i + 1)) ((fun (i : Nat) (out : List Int) => (⟨72, [(15, .int .i64 i), (14, .int .i64 p.lines.length), (13, .sl 13 false (linesV p.lines)), (4, .own 2), (3, .ptr 1 2 0 0), (2, .sl 0 true []), (1, .ptr 0 4 0 0)], 3, [(0, some ⟨81, 4, true, false, [[.sl 13 false (linesV p.lines), .sl 2 false (symsV p.syms), .mp 2 (symsV p.syms), .int .i64 p.words]]⟩), (1, some ⟨45, 2, true, false, [[.int .i64 0, .int .i64 0]]⟩), (2, some ⟨22, 1, false, false, ints .u32 out⟩)], 0⟩ : St)) (i + 1) (out ++ (liW l.r0 (((a - l.at').tdiv 4))))) (fun x => if x = 2 then 6 else x) (by omega) (by rw [hI]; exact ⟨i + 1, (out ++ (liW l.r0 (((a - l.at').tdiv 4)))), by omega, rfl, ⟨hx, by rw [List.length_append]; omega⟩, rfl⟩) ⟨rfl, ?_, ?_, ?_, by simp⟩
            · simp [leT, ltV, lt1, ren, ren1, wrap_i64_in (n := (i : Int) + 1) (by omega) (by omega), hw, ints, liW]
            · simp [leO, lt1, ren1, hw, ints, liW]
            · (simp; try omega)
          · have hcl : codeL l (((a - l.at').tdiv 4)) = if (-2147483648 ≤ (((a - l.at').tdiv 4)) ∧ (((a - l.at').tdiv 4)) ≤ 2147483647) ∧ validD (iI l (((a - l.at').tdiv 4))) = true then some [encW (iI l (((a - l.at').tdiv 4)))] else none := by simp [codeL, hcode]
            rw [hcl] at hx
            rw [hcode]
            by_cases h32 : -2147483648 ≤ (((a - l.at').tdiv 4)) ∧ (((a - l.at').tdiv 4)) ≤ 2147483647
            · have hm := instC_ok l (((a - l.at').tdiv 4)) h32
              simp only [LineD.row, hcode] at hm
              cases hvd : validD (iI l (((a - l.at').tdiv 4))) with
              | true =>
                rw [if_pos ⟨h32, hvd⟩] at hx hcl
                rw [hvd, if_pos rfl] at hm
                refine ca (hm)  ?_
                refine af  ?_
                repeat intro K hK
                refine wr ?_
                have hcn := code_len hgl.1 hcl
                refine awp_cond rfl (fun h => by simp at h) (fun _ => ?_)
                refine af1 @ints_len ?_
                repeat intro K hK
                refine wr ?_
                refine again_of (p.lines.length - (i + 1)) ((fun (i : Nat) (out : List Int) => (⟨72, [(15, .int .i64 i), (14, .int .i64 p.lines.length), (13, .sl 13 false (linesV p.lines)), (4, .own 2), (3, .ptr 1 2 0 0), (2, .sl 0 true []), (1, .ptr 0 4 0 0)], 3, [(0, some ⟨81, 4, true, false, [[.sl 13 false (linesV p.lines), .sl 2 false (symsV p.syms), .mp 2 (symsV p.syms), .int .i64 p.words]]⟩), (1, some ⟨45, 2, true, false, [[.int .i64 0, .int .i64 0]]⟩), (2, some ⟨22, 1, false, false, ints .u32 out⟩)], 0⟩ : St)) (i + 1) (out ++ [encW (iI l (((a - l.at').tdiv 4)))])) (fun x => if x = 2 then 6 else x) (by omega) (by rw [hI]; exact ⟨i + 1, (out ++ [encW (iI l (((a - l.at').tdiv 4)))]), by omega, rfl, ⟨hx, by rw [List.length_append]; omega⟩, rfl⟩) ⟨rfl, ?_, ?_, ?_, by simp⟩
                · simp [leT, ltV, lt1, ren, ren1, wrap_i64_in (n := (i : Int) + 1) (by omega) (by omega), hw, ints, liW]
                · simp [leO, lt1, ren1, hw, ints, liW]
                · (simp; try omega)
              | false =>
                rw [if_neg (by rw [hvd]; simp)] at hx hcl
                rw [hvd, if_neg (by simp)] at hm
                refine ca (hm)  ?_
                refine af  ?_
                repeat intro K hK
                refine wr ?_
                have hev : encV p = .tup [.sl 1 true [], .st [.int .i64 304, .int .i64 l.number]] := by unfold encV; rw [hx]
                refine awp_cond rfl (fun _ => ?_) (fun h => by simp at h)
                refine af  ?_
                repeat intro K hK
                refine wr ?_
                refine awp_planI ([0, 1, 2, 3, 4] : List Nat) ([[], [0], [0, 1], [], [0, 1, 2, 3]] : List (List Nat)) ([(4, ([[], [0], [0, 1], []], [])), (1, ([], []))] : List (Nat × List (List Nat) × List (Nat × Nat))) (by kernel_rfl) (by kernel_rfl) (by kernel_rfl) ?_
                refine af  ?_
                repeat intro K hK
                refine wr ?_
                refine awp_fzA ?_
                refine awp_ret ?_
                simp [hev]
            · have hm := instX_ok l (((a - l.at').tdiv 4)) (by omega) h32
              simp only [LineD.row, hcode] at hm
              rw [if_neg (fun h => h32 h.1)] at hx hcl
              refine ca (hm)  ?_
              refine af  ?_
              repeat intro K hK
              refine wr ?_
              have hev : encV p = .tup [.sl 1 true [], .st [.int .i64 304, .int .i64 l.number]] := by unfold encV; rw [hx]
              refine awp_cond rfl (fun _ => ?_) (fun h => by simp at h)
              refine af  ?_
              repeat intro K hK
              refine wr ?_
              refine awp_planI ([0, 1, 2, 3, 4] : List Nat) ([[], [0], [0, 1], [], [0, 1, 2, 3]] : List (List Nat)) ([(4, ([[], [0], [0, 1], []], [])), (1, ([], []))] : List (Nat × List (List Nat) × List (Nat × Nat))) (by kernel_rfl) (by kernel_rfl) (by kernel_rfl) ?_
              refine af  ?_
              repeat intro K hK
              refine wr ?_
              refine awp_fzA ?_
              refine awp_ret ?_
              simp [hev]
        · rw [if_neg hrel] at hv
          refine awp_cond rfl (fun h => by simp [hrel] at h) (fun _ => ?_)
          refine af  ?_
          repeat intro K hK
          refine wr ?_
          have hvb := val_bound hS hgl.2.2 hat hv
          rw [hv] at hx
          simp only at hx
          rcases hgl.1.2.2 with hcode | hcode | hcode | hcode
          · have hcl : codeL l (a) = some [(a) % 4294967296] := by simp [codeL, hcode]
            rw [hcl] at hx
            have hm := word_ok l (a)
            simp only [LineD.row, hcode] at hm
            rw [hcode]
            refine ca (hm)  ?_
            refine af  ?_
            repeat intro K hK
            refine wr ?_
            have hcn := code_len hgl.1 hcl
            refine awp_cond rfl (fun h => by simp at h) (fun _ => ?_)
            refine af1 @ints_len ?_
            repeat intro K hK
            refine wr ?_
            refine again_of (p.lines.length - (i + 1)) ((fun (i : Nat) (out : List Int) => (⟨72, [(15, .int .i64 i), (14, .int .i64 p.lines.length), (13, .sl 13 false (linesV p.lines)), (4, .own 2), (3, .ptr 1 2 0 0), (2, .sl 0 true []), (1, .ptr 0 4 0 0)], 3, [(0, some ⟨81, 4, true, false, [[.sl 13 false (linesV p.lines), .sl 2 false (symsV p.syms), .mp 2 (symsV p.syms), .int .i64 p.words]]⟩), (1, some ⟨45, 2, true, false, [[.int .i64 0, .int .i64 0]]⟩), (2, some ⟨22, 1, false, false, ints .u32 out⟩)], 0⟩ : St)) (i + 1) (out ++ [(a) % 4294967296])) (fun x => if x = 2 then 6 else x) (by omega) (by rw [hI]; exact ⟨i + 1, (out ++ [(a) % 4294967296]), by omega, rfl, ⟨hx, by rw [List.length_append]; omega⟩, rfl⟩) ⟨rfl, ?_, ?_, ?_, by simp⟩
            · simp [leT, ltV, lt1, ren, ren1, wrap_i64_in (n := (i : Int) + 1) (by omega) (by omega), hw, ints, liW]
            · simp [leO, lt1, ren1, hw, ints, liW]
            · (simp; try omega)
          · have hcl : codeL l (a) = some (List.replicate l.words.toNat 0) := by simp [codeL, hcode]
            rw [hcl] at hx
            have hm := space_ok l (a) hgl.1.1 hgl.1.2.1
            simp only [LineD.row, hcode] at hm
            rw [hcode]
            refine ca (hm)  ?_
            refine af  ?_
            repeat intro K hK
            refine wr ?_
            have hcn := code_len hgl.1 hcl
            refine awp_cond rfl (fun h => by simp at h) (fun _ => ?_)
            refine af1 @ints_len ?_
            repeat intro K hK
            refine wr ?_
            refine again_of (p.lines.length - (i + 1)) ((fun (i : Nat) (out : List Int) => (⟨72, [(15, .int .i64 i), (14, .int .i64 p.lines.length), (13, .sl 13 false (linesV p.lines)), (4, .own 2), (3, .ptr 1 2 0 0), (2, .sl 0 true []), (1, .ptr 0 4 0 0)], 3, [(0, some ⟨81, 4, true, false, [[.sl 13 false (linesV p.lines), .sl 2 false (symsV p.syms), .mp 2 (symsV p.syms), .int .i64 p.words]]⟩), (1, some ⟨45, 2, true, false, [[.int .i64 0, .int .i64 0]]⟩), (2, some ⟨22, 1, false, false, ints .u32 out⟩)], 0⟩ : St)) (i + 1) (out ++ (List.replicate l.words.toNat 0))) (fun x => if x = 2 then 6 else x) (by omega) (by rw [hI]; exact ⟨i + 1, (out ++ (List.replicate l.words.toNat 0)), by omega, rfl, ⟨hx, by rw [List.length_append]; omega⟩, rfl⟩) ⟨rfl, ?_, ?_, ?_, by simp⟩
            · simp [leT, ltV, lt1, ren, ren1, wrap_i64_in (n := (i : Int) + 1) (by omega) (by omega), hw, ints, liW]
            · simp [leO, lt1, ren1, hw, ints, liW]
            · (simp; try omega)
          · have hcl : codeL l (a) = some (liW l.r0 (a)) := by simp [codeL, hcode]
            rw [hcl] at hx
            have hm := li_ok l (a) hgl.2.1.1 hgl.2.1.2
            simp only [LineD.row, hcode] at hm
            rw [hcode]
            refine ca (hm)  ?_
            refine af  ?_
            repeat intro K hK
            refine wr ?_
            have hcn := code_len hgl.1 hcl
            refine awp_cond rfl (fun h => by simp at h) (fun _ => ?_)
            refine af1 @ints_len ?_
            repeat intro K hK
            refine wr ?_
            refine again_of (p.lines.length - (i + 1)) ((fun (i : Nat) (out : List Int) => (⟨72, [(15, .int .i64 i), (14, .int .i64 p.lines.length), (13, .sl 13 false (linesV p.lines)), (4, .own 2), (3, .ptr 1 2 0 0), (2, .sl 0 true []), (1, .ptr 0 4 0 0)], 3, [(0, some ⟨81, 4, true, false, [[.sl 13 false (linesV p.lines), .sl 2 false (symsV p.syms), .mp 2 (symsV p.syms), .int .i64 p.words]]⟩), (1, some ⟨45, 2, true, false, [[.int .i64 0, .int .i64 0]]⟩), (2, some ⟨22, 1, false, false, ints .u32 out⟩)], 0⟩ : St)) (i + 1) (out ++ (liW l.r0 (a)))) (fun x => if x = 2 then 6 else x) (by omega) (by rw [hI]; exact ⟨i + 1, (out ++ (liW l.r0 (a))), by omega, rfl, ⟨hx, by rw [List.length_append]; omega⟩, rfl⟩) ⟨rfl, ?_, ?_, ?_, by simp⟩
            · simp [leT, ltV, lt1, ren, ren1, wrap_i64_in (n := (i : Int) + 1) (by omega) (by omega), hw, ints, liW]
            · simp [leO, lt1, ren1, hw, ints, liW]
            · (simp; try omega)
          · have hcl : codeL l (a) = if (-2147483648 ≤ (a) ∧ (a) ≤ 2147483647) ∧ validD (iI l (a)) = true then some [encW (iI l (a))] else none := by simp [codeL, hcode]
            rw [hcl] at hx
            rw [hcode]
            by_cases h32 : -2147483648 ≤ (a) ∧ (a) ≤ 2147483647
            · have hm := instC_ok l (a) h32
              simp only [LineD.row, hcode] at hm
              cases hvd : validD (iI l (a)) with
              | true =>
                rw [if_pos ⟨h32, hvd⟩] at hx hcl
                rw [hvd, if_pos rfl] at hm
                refine ca (hm)  ?_
                refine af  ?_
                repeat intro K hK
                refine wr ?_
                have hcn := code_len hgl.1 hcl
                refine awp_cond rfl (fun h => by simp at h) (fun _ => ?_)
                refine af1 @ints_len ?_
                repeat intro K hK
                refine wr ?_
                refine again_of (p.lines.length - (i + 1)) ((fun (i : Nat) (out : List Int) => (⟨72, [(15, .int .i64 i), (14, .int .i64 p.lines.length), (13, .sl 13 false (linesV p.lines)), (4, .own 2), (3, .ptr 1 2 0 0), (2, .sl 0 true []), (1, .ptr 0 4 0 0)], 3, [(0, some ⟨81, 4, true, false, [[.sl 13 false (linesV p.lines), .sl 2 false (symsV p.syms), .mp 2 (symsV p.syms), .int .i64 p.words]]⟩), (1, some ⟨45, 2, true, false, [[.int .i64 0, .int .i64 0]]⟩), (2, some ⟨22, 1, false, false, ints .u32 out⟩)], 0⟩ : St)) (i + 1) (out ++ [encW (iI l (a))])) (fun x => if x = 2 then 6 else x) (by omega) (by rw [hI]; exact ⟨i + 1, (out ++ [encW (iI l (a))]), by omega, rfl, ⟨hx, by rw [List.length_append]; omega⟩, rfl⟩) ⟨rfl, ?_, ?_, ?_, by simp⟩
                · simp [leT, ltV, lt1, ren, ren1, wrap_i64_in (n := (i : Int) + 1) (by omega) (by omega), hw, ints, liW]
                · simp [leO, lt1, ren1, hw, ints, liW]
                · (simp; try omega)
              | false =>
                rw [if_neg (by rw [hvd]; simp)] at hx hcl
                rw [hvd, if_neg (by simp)] at hm
                refine ca (hm)  ?_
                refine af  ?_
                repeat intro K hK
                refine wr ?_
                have hev : encV p = .tup [.sl 1 true [], .st [.int .i64 304, .int .i64 l.number]] := by unfold encV; rw [hx]
                refine awp_cond rfl (fun _ => ?_) (fun h => by simp at h)
                refine af  ?_
                repeat intro K hK
                refine wr ?_
                refine awp_planI ([0, 1, 2, 3, 4] : List Nat) ([[], [0], [0, 1], [], [0, 1, 2, 3]] : List (List Nat)) ([(4, ([[], [0], [0, 1], []], [])), (1, ([], []))] : List (Nat × List (List Nat) × List (Nat × Nat))) (by kernel_rfl) (by kernel_rfl) (by kernel_rfl) ?_
                refine af  ?_
                repeat intro K hK
                refine wr ?_
                refine awp_fzA ?_
                refine awp_ret ?_
                simp [hev]
            · have hm := instX_ok l (a) (by omega) h32
              simp only [LineD.row, hcode] at hm
              rw [if_neg (fun h => h32 h.1)] at hx hcl
              refine ca (hm)  ?_
              refine af  ?_
              repeat intro K hK
              refine wr ?_
              have hev : encV p = .tup [.sl 1 true [], .st [.int .i64 304, .int .i64 l.number]] := by unfold encV; rw [hx]
              refine awp_cond rfl (fun _ => ?_) (fun h => by simp at h)
              refine af  ?_
              repeat intro K hK
              refine wr ?_
              refine awp_planI ([0, 1, 2, 3, 4] : List Nat) ([[], [0], [0, 1], [], [0, 1, 2, 3]] : List (List Nat)) ([(4, ([[], [0], [0, 1], []], [])), (1, ([], []))] : List (Nat × List (List Nat) × List (Nat × Nat))) (by kernel_rfl) (by kernel_rfl) (by kernel_rfl) ?_
              refine af  ?_
              repeat intro K hK
              refine wr ?_
              refine awp_fzA ?_
              refine awp_ret ?_
              simp [hev]
  · have hil' : i = p.lines.length := by omega
    subst hil'
    rw [List.drop_length] at hx
    simp only [encAll] at hx
    have hev : encV p = .tup [.new 22 1 (ints .u32 out), .st [.int .i64 0, .int .i64 0]] := by unfold encV; rw [hx]
    refine awp_cond rfl (fun h => by simp at h) (fun _ => ?_)
    refine af  ?_
    repeat intro K hK
    refine wr ?_
    refine awp_ret ?_
    simp [hev]
end Go.Proofs.YtjlbpkokdlggiaaDoor
