/- Package asm: one line added to a program; parse. (Numbers of seat r2.D.) -/
import Derived.Test.YtjlbpkokdlggiaaDoorAs7
namespace Go.Ab
open Go.RowKit
/-- a box's cells said in another way -/
theorem RelM.cells [Glo] {base : Nat} {Xa : Nat → Prop} {w0 : W0} {st : St} {a : Act} {w : World} {M : Mp} (hM : RelM base Xa w0 st a w M) (id : Nat) {o : Ob} {cs : List V} (cs' : List V) (ho : lookO st.ob id = some o) (hx : o.xs = [cs]) (hlen : cs'.length = cs.length)
    (hc : ∀ (j : Nat) (u : V), cs'[j]? = some u → ∃ u', cs[j]? = some u' ∧ ∀ v, R M w (Xf base Xa w M st.ob) (if o.box then st.nx else 0) u' v → R M w (Xf base Xa w M st.ob) (if o.box then st.nx else 0) u v) :
    RelM base Xa w0 { st with ob := (id, some { o with xs := [cs'] }) :: st.ob } a w M := by
  have hX : ∀ b, Xf base Xa w M st.ob b → Xf base Xa w M ((id, some { o with xs := [cs'] }) :: st.ob) b := fun b hb => ⟨hb.1, fun i o1 ho1 hf => by
    simp only [lookO] at ho1
    split at ho1
    · rename_i e; subst e
      simp only [Option.some.injEq] at ho1
      subst ho1
      exact hb.2 _ o ho hf
    · exact hb.2 i o1 ho1 hf⟩
  refine ⟨hM.below, hM.hbase, hM.xa, fun m n v u hv => (hM.gh m n v u hv).mono (Nat.le_refl _) (fun _ _ => rfl) hX (fun _ _ => rfl), hM.pin, hM.defers, hM.size, fun t => (hM.tmps t).mono (Nat.le_refl _) (fun _ _ => rfl) hX (fun _ _ => rfl), fun i o1 ho1 => ?_, fun i i' o1 o2 g h1 h2 hne hg => ?_⟩
  · simp only [lookO] at ho1
    split at ho1
    · rename_i e; subst e
      simp only [Option.some.injEq] at ho1
      subst ho1
      obtain ⟨q1, q2⟩ := hM.obs _ o ho
      obtain ⟨vals, hrow, hone, hr⟩ := q2.row
      refine ⟨q1, q2.pos, fun x hx' => ?_, vals, by simpa [hx] using hrow, hone, fun j u hu => ?_⟩
      · simp only [List.mem_singleton] at hx'
        subst hx'
        have := q2.len cs (by rw [hx]; simp)
        rw [hlen]; exact this
      · simp only [List.flatten_cons, List.flatten_nil, List.append_nil] at hu
        obtain ⟨u', e, hw'⟩ := hc j u hu
        exact (hw' _ (hr j u' (by rw [hx]; simpa using e))).mono (Nat.le_refl _) (fun _ _ => rfl) hX (fun _ _ => rfl)
    · obtain ⟨q1, q2⟩ := hM.obs i o1 ho1
      exact ⟨q1, q2.mono (Nat.le_refl _) (fun _ _ => rfl) hX (fun _ _ => rfl) (fun _ _ => rfl)⟩
  · have hl : ∀ i o1, lookO ((id, some { o with xs := [cs'] }) :: st.ob) i = some o1 → ∃ o2, lookO st.ob i = some o2 := fun i o1 h1 => by
      simp only [lookO] at h1
      split at h1
      · rename_i e; subst e; exact ⟨o, ho⟩
      · exact ⟨o1, h1⟩
    obtain ⟨p1, r1⟩ := hl i o1 h1
    obtain ⟨p2, r2⟩ := hl i' o2 h2
    exact hM.dist i i' p1 p2 g r1 r2 hne hg
/-- a nil slice in a box's cell as a row of the call's own -/
theorem awp_nilCell [Glo] {P : Program} {c : Code} {Q : Exit → St → Prop} {st : St} (id j e s : Nat) (hs : 0 < s) {o : Ob} {cs : List V} {tt : Bool} (ho : lookO st.ob id = some o) (hx : o.xs = [cs]) (hbox : o.box = true) (hj : cs[j]? = some (.sl 0 tt []))
    (h : awp P c Q { st with nx := st.nx + 1, ob := (id, some { o with xs := [cs.set j (.own st.nx)] }) :: (st.nx, some ⟨e, s, false, false, []⟩) :: st.ob }) : awp P c Q st := fun base Xa w0 a w ⟨M, hM⟩ => by
  obtain ⟨M', hM', hn, hR⟩ := hM.grow (ob1 := st.ob) (fun _ _ h => h) none (fun _ _ h => by cases h) (fun _ _ _ _ _ h => by cases h) (fun _ h => by cases h) (World.grownBy.refl w none) (.slice none 0 0) (fun g h => by cases h)
    ⟨e, s, false, false, []⟩ (fun _ => hs) (by simp) [] (World.ownsG_nil w base e s) (by simp) (fun j u h => by simp at h)
  have hid := (hM.obs _ o ho).1
  refine h base Xa w0 a w ⟨M', hR.cells id (cs.set j (.own st.nx)) (o := o) (cs := cs) (by simp only [lookO]; rw [if_neg (by omega)]; exact ho) hx (by simp) fun i u hu => ?_⟩
  by_cases e' : j = i
  · subst e'
    rw [List.getElem?_set_self (by exact (List.getElem?_eq_some_iff.1 hj).1)] at hu
    simp only [Option.some.injEq] at hu
    subst hu
    refine ⟨_, hj, fun v hv => ?_⟩
    obtain ⟨A, c', f, hu, _, _, _, hnil, _⟩ := R_sl hv
    obtain ⟨rfl, rfl⟩ := hnil rfl
    rw [hu, hbox]
    exact .own _ _ _ _ _ (by simp) hn
  · rw [List.getElem?_set_ne e'] at hu
    exact ⟨u, hu, fun v hv => hv⟩
/-- nothing more is said of a box's cells -/
theorem awp_poiB [Glo] {P : Program} {c : Code} {Q : Exit → St → Prop} {st : St} (id : Nat) {o : Ob} {cs : List V} (ho : lookO st.ob id = some o) (hx : o.xs = [cs])
    (h : awp P c Q { st with ob := (id, some { o with xs := [cs.map fun _ => .poi] }) :: st.ob }) : awp P c Q st := fun base Xa w0 a w ⟨M, hM⟩ =>
  h base Xa w0 a w ⟨M, hM.cells id (cs.map fun _ => .poi) ho hx (by simp) fun j u hu => by
    rw [List.getElem?_map] at hu
    cases e : cs[j]? with
    | none => rw [e] at hu; cases hu
    | some u' =>
      rw [e] at hu
      simp only [Option.map_some, Option.some.injEq] at hu
      subst hu
      exact ⟨u', rfl, fun v _ => .poi _ _⟩⟩
end Go.Ab
namespace Go.Proofs.YtjlbpkokdlggiaaDoor
open Go.Ab Go.RowKit
set_option linter.unusedSimpArgs false
set_option maxRecDepth 100000
structure ProgD where
  lines : List LineD
  syms : List (Str × Int)
  words : Int
  deriving DecidableEq, Inhabited
def linesV (l : List LineD) : List (List V) := l.map LineD.row
def symsV (l : List (Str × Int)) : List (List V) := l.map fun p => [.str p.1, .int .u32 p.2]
@[simp] theorem linesV_nil : linesV [] = [] := rfl
@[simp] theorem symsV_nil : symsV [] = [] := rfl
theorem linesV_one (l : List LineD) (x : LineD) : linesV l ++ [x.row] = linesV (l ++ [x]) := by simp [linesV]
theorem symsV_one (l : List (Str × Int)) (s : Str) (n : Int) : symsV l ++ [[.str s, .int .u32 n]] = symsV (l ++ [(s, n)]) := by simp [symsV]
theorem linesV_len (l : List LineD) : (linesV l).length = l.length := by simp [linesV]
theorem symsV_len (l : List (Str × Int)) : (symsV l).length = l.length := by simp [symsV]
def findL (s : Str) : List (Str × Int) → Option Int
  | [] => none
  | x :: r => if x.1 = s then some x.2 else findL s r
theorem mget_syms (s : Str) : ∀ l : List (Str × Int), mget s (symsV l) = (findL s l).map fun v => [.int .u32 v]
  | [] => rfl
  | x :: r => by
    have h := mget_syms s r
    unfold symsV at h ⊢
    rw [List.map_cons, mget_cons, h]
    simp only [mkey, Option.some.injEq, findL]
    split
    · rfl
    · rfl
theorem midx_syms {s : Str} : ∀ {l : List (Str × Int)}, findL s l = none → midx s (symsV l) = none
  | [], _ => rfl
  | x :: r, h => by
    simp only [findL] at h
    split at h
    · cases h
    · rename_i hx
      have h' := midx_syms h
      unfold symsV at h' ⊢
      simp only [List.map_cons, midx, mkey, Option.some.injEq, if_neg hx, h', Option.map_none]
theorem mput_syms {s : Str} {n : Int} {l : List (Str × Int)} (h : findL s l = none) : mput s [.int .u32 n] (symsV l) = symsV (l ++ [(s, n)]) := by
  unfold mput
  rw [midx_syms h, ← symsV_one]
theorem syms_keys (l : List (Str × Int)) : mkeys (symsV l) := by
  intro x hx
  simp only [symsV, List.mem_map] at hx
  obtain ⟨p, _, rfl⟩ := hx
  rfl
def psOpt (s : Str) : Option LineD :=
  match findS (wordD s) shapes with
  | none => none
  | some h => match patD h.pat (afterD s) 0 (0, 0, 0) (0, []) with
    | none => none
    | some (rest, rg, im) => if h.pat = [110] ∧ (im.1 < 0 ∨ 1024 < im.1) then none else if skipD rest = [] then some (psLine h (if h.pat = [110] then im.1 else h.words) rg im) else none
/-- what a statement's line is good for -/
def okLine (l : LineD) : Prop := 0 ≤ l.words ∧ l.words ≤ 1024 ∧ (l.code = 74 ∨ l.code = 75 ∨ l.code = 76 ∨ l.code = 77)
def badLine : LineD := ⟨0, 0, 0, 0, [], 0, false, 0, 0, 0, 0, 0, []⟩
theorem ps_cases (s : Str) : (psOpt s = none ∧ psRes s = (zeroL, false)) ∨ (∃ l : LineD, psOpt s = none ∧ psRes s = (l.row, false)) ∨ ∃ l : LineD, psOpt s = some l ∧ psRes s = (l.row, true) ∧ okLine l := by
  unfold psOpt psRes
  cases hf : findS (wordD s) shapes with
  | none => exact .inl ⟨rfl, rfl⟩
  | some h =>
    obtain ⟨x0, hx0, rfl⟩ := findS_mem hf
    obtain ⟨q1, q2, q3, q4, q5, q6⟩ := shapes_fact x0 hx0
    generalize x0.2 = h at *
    simp only
    cases hp : patD h.pat (afterD s) 0 (0, 0, 0) (0, []) with
    | none => exact .inl ⟨rfl, rfl⟩
    | some r =>
      obtain ⟨rest, rg, im⟩ := r
      simp only
      by_cases hb : h.pat = [110] ∧ (im.1 < 0 ∨ 1024 < im.1)
      · rw [if_pos hb, if_pos hb]; exact .inl ⟨rfl, rfl⟩
      · rw [if_neg hb, if_neg hb]
        by_cases hs : skipD rest = []
        · rw [if_pos hs, decide_eq_true hs]
          refine .inr (.inr ⟨_, rfl, rfl, ?_, ?_, ?_⟩)
          · simp only [psLine]
            split
            · rename_i e
              have : ¬ (im.1 < 0 ∨ 1024 < im.1) := fun z => hb ⟨e, z⟩
              omega
            · omega
          · simp only [psLine]
            split
            · rename_i e
              have : ¬ (im.1 < 0 ∨ 1024 < im.1) := fun z => hb ⟨e, z⟩
              omega
            · omega
          · exact q4
        · rw [if_neg hs, decide_eq_false hs]
          exact .inr (.inl ⟨_, rfl, rfl⟩)
def finD (lb : Str) (at' : Int) (q : ProgD) : Int × ProgD :=
  if lb ≠ [] ∧ (findL lb q.syms).isSome = true then (303, q)
  else if 1024 < q.words then (305, if lb = [] then q else { q with syms := q.syms ++ [(lb, at')] })
  else (0, if lb = [] then q else { q with syms := q.syms ++ [(lb, at')] })
def addD (p : ProgD) (n : Int) (t : Str) : Int × ProgD :=
  if (clD t).2.2 = false then (301, p) else
  match (if (clD t).2.1 = [] then some p else (psOpt (clD t).2.1).map fun l => { p with lines := p.lines ++ [{ l with number := n, at' := 4 * p.words }], words := p.words + l.words }) with
  | none => (301, p)
  | some q => finD (clD t).1 (4 * p.words) q
theorem cl_ascii {t : Str} (_ : okText t) : okText (clD t).2.1 := trivial
theorem cl_len (t : Str) : (clD t).2.1.length ≤ t.length := by
  have h1 : (skipD t).length ≤ t.length := len_drop _ _
  have h2 : (afterD (skipD t)).length ≤ (skipD t).length := len_drop _ _
  have h3 : (skipD (afterD (skipD t))).length ≤ (afterD (skipD t)).length := len_drop _ _
  simp only [clD]
  split
  · have h4 := trim_len (skipD (afterD (skipD t))) [58]
    have h5 : (skipD (Lib.trimPrefix (skipD (afterD (skipD t))) [58])).length ≤ _ := len_drop _ _
    simp only
    omega
  · exact h1
/-- the objects of parse, a program among them -/
abbrev pOb (L : List Str) (p : ProgD) : List (Nat × Option Ob) := [(0, some ⟨81, 4, true, false, [[.sl 0 true [], .sl 0 true [], .poi, .int .i64 0]]⟩), (1, some ⟨45, 2, true, false, [[.int .i64 0, .int .i64 0]]⟩), (2, some ⟨79, 2, false, false, symsV p.syms⟩), (3, some ⟨81, 4, true, false, [[.own 6, .own 7, .omap 2, .int .i64 p.words]]⟩), (4, some ⟨105, 6, false, true, shapesN 65⟩), (5, some ⟨9, 1, false, false, strs L⟩), (6, some ⟨116, 13, false, false, linesV p.lines⟩), (7, some ⟨53, 2, false, false, symsV p.syms⟩)]
def AddPost (L : List Str) (q : ProgD) (ob : List (Nat × Option Ob)) : Prop := ∃ a b : Nat, 6 ≤ a ∧ 6 ≤ b ∧ a ≠ b ∧
  lookO ob 0 = some ⟨81, 4, true, false, [[.sl 0 true [], .sl 0 true [], .poi, .int .i64 0]]⟩ ∧ lookO ob 1 = some ⟨45, 2, true, false, [[.int .i64 0, .int .i64 0]]⟩ ∧ lookO ob 2 = some ⟨79, 2, false, false, symsV q.syms⟩ ∧ lookO ob 3 = some ⟨81, 4, true, false, [[.own a, .own b, .omap 2, .int .i64 q.words]]⟩ ∧ lookO ob 4 = some ⟨105, 6, false, true, shapesN 65⟩ ∧ lookO ob 5 = some ⟨9, 1, false, false, strs L⟩ ∧ lookO ob a = some ⟨116, 13, false, false, linesV q.lines⟩ ∧ lookO ob b = some ⟨53, 2, false, false, symsV q.syms⟩
set_option maxHeartbeats 16000000 in
theorem add_ok (L : List Str) (p : ProgD) (n : Int) (t : Str) (ha : okText t) (hl : t.length < 4294967281) (hw0 : 0 ≤ p.words) (hw1 : p.words ≤ 1024) (hln : p.lines.length ≤ 10000) (hsn : p.syms.length ≤ 10000) :
    InlC Tryd.prog 63 [.ptr 3 4 0 0, .int .i64 n, .str t, .omap 4] 8 (pOb L p) fun r _ ob => r = .int .i64 (addD p n t).1 ∧ AddPost L (addD p n t).2 ob := by
  have hat : IntKind.u32.wrap (IntKind.i64.wrap (4 * p.words)) = 4 * p.words := by rw [wrap_i64_in (by omega) (by omega), IntKind.wrap_u32]; omega
  have hks := syms_keys p.syms
  have hll := linesV_len p.lines
  have hlm : (linesV p.lines).length + 1 ≤ maxLen := by rw [hll]; simp [maxLen]; omega
  have hsl := symsV_len p.syms
  have hsm : (symsV p.syms).length + 1 ≤ maxLen := by rw [hsl]; simp [maxLen]; omega
  refine InlC.of Tryd.func63 rfl (by kernel_rfl) rfl ?_
  simp only [Tryd.ntmps63, St.startI, argT]
  refine au1 @hat ?_
  repeat intro K hK
  refine wr ?_
  refine ca (cutLabel_ok t ha hl)  ?_
  refine au  ?_
  repeat intro K hK
  refine wr ?_
  cases hc : (clD t).2.2 with
  | false =>
    have hr : addD p n t = (301, p) := by simp [addD, hc]
    refine awp_cond rfl (fun _ => ?_) (fun h => by simp [hc] at h)
    refine au  ?_
    repeat intro K hK
    refine wr ?_
    refine awp_ret ?_
    simp [hr]
    exact ⟨6, 7, by simp [lookO]⟩
  | true =>
    refine awp_cond rfl (fun h => by simp [hc] at h) (fun _ => ?_)
    refine au  ?_
    repeat intro K hK
    refine wr ?_
    by_cases h0 : (clD t).2.1 = []
    · refine awp_cond rfl (fun h => by simp [h0] at h) (fun _ => ?_)
      refine au  ?_
      repeat intro K hK
      refine wr ?_
      have hA : addD p n t = finD (clD t).1 (4 * p.words) p := by simp [addD, hc, h0]
      by_cases h1 : (clD t).1 = []
      · refine awp_cond rfl (fun h => by simp [h1] at h) (fun _ => ?_)
        refine au  ?_
        repeat intro K hK
        refine wr ?_
        refine awp_cond rfl (fun hg => ?_) (fun hg => ?_)
        · simp at hg
          have hr := hA
          simp [finD, h1, hg] at hr
          refine au  ?_
          repeat intro K hK
          refine wr ?_
          refine awp_ret ?_
          simp [hr]
          exact ⟨6, 7, by simp [lookO]⟩
        · simp at hg
          have hr := hA
          simp [finD, h1, Int.not_lt.2 hg] at hr
          refine au  ?_
          repeat intro K hK
          refine wr ?_
          refine awp_ret ?_
          simp [hr]
          exact ⟨6, 7, by simp [lookO]⟩
      · refine awp_cond rfl (fun _ => ?_) (fun h => by simp [h1] at h)
        have hmg := mget_syms (clD t).1 p.syms
        cases hf : findL (clD t).1 p.syms with
        | some v =>
          rw [hf] at hmg
          have hr := hA
          simp [finD, h1, hf] at hr
          refine au3 @hmg @lkV.eq_1 @mkV.eq_1 ?_
          repeat intro K hK
          refine wr ?_
          refine awp_cond rfl (fun _ => ?_) (fun h => by simp at h)
          refine au  ?_
          repeat intro K hK
          refine wr ?_
          refine awp_ret ?_
          simp [hr]
          exact ⟨6, 7, by simp [lookO]⟩
        | none =>
          rw [hf] at hmg
          have hmp := mput_syms (n := 4 * p.words) hf
          have hone := symsV_one p.syms (clD t).1 (4 * p.words)
          refine au3 @hmg @lkV.eq_1 @mkV.eq_1 ?_
          repeat intro K hK
          refine wr ?_
          refine awp_cond rfl (fun h => by simp at h) (fun _ => ?_)
          refine au2 @hmp @hone ?_
          repeat intro K hK
          refine wr ?_
          refine awp_cond rfl (fun hg => ?_) (fun hg => ?_)
          · simp at hg
            have hr := hA
            simp [finD, h1, hf, hg] at hr
            refine au  ?_
            repeat intro K hK
            refine wr ?_
            refine awp_ret ?_
            simp [hr]
            exact ⟨6, 12, by simp [lookO]⟩
          · simp at hg
            have hr := hA
            simp [finD, h1, hf, Int.not_lt.2 hg] at hr
            refine au  ?_
            repeat intro K hK
            refine wr ?_
            refine awp_ret ?_
            simp [hr]
            exact ⟨6, 12, by simp [lookO]⟩
    · refine awp_cond rfl (fun _ => ?_) (fun h => by simp [h0] at h)
      refine au  ?_
      repeat intro K hK
      refine wr ?_
      have hp := ps_ok (clD t).2.1 (cl_ascii ha) (Nat.lt_of_le_of_lt (cl_len t) hl)
      rcases ps_cases (clD t).2.1 with ⟨e1, e2⟩ | ⟨l, e1, e2⟩ | ⟨l, e1, e2, e3⟩
      · have hr : addD p n t = (301, p) := by simp [addD, hc, h0, e1]
        rw [e2, zeroL] at hp
        refine ca (hp)  ?_
        refine au  ?_
        repeat intro K hK
        refine wr ?_
        refine awp_cond rfl (fun _ => ?_) (fun h => by simp at h)
        refine au  ?_
        repeat intro K hK
        refine wr ?_
        refine awp_ret ?_
        simp [hr]
        exact ⟨6, 7, by simp [lookO]⟩
      · have hr : addD p n t = (301, p) := by simp [addD, hc, h0, e1]
        rw [e2] at hp
        refine ca (hp)  ?_
        refine au  ?_
        repeat intro K hK
        refine wr ?_
        refine awp_cond rfl (fun _ => ?_) (fun h => by simp at h)
        refine au  ?_
        repeat intro K hK
        refine wr ?_
        refine awp_ret ?_
        simp [hr]
        exact ⟨6, 7, by simp [lookO]⟩
      · obtain ⟨lw0, lw1, lc⟩ := e3
        rw [e2] at hp
        refine ca (hp)  ?_
        refine au  ?_
        repeat intro K hK
        refine wr ?_
        refine awp_cond rfl (fun h => by simp at h) (fun _ => ?_)
        refine au  ?_
        repeat intro K hK
        refine wr ?_
        have hone := linesV_one p.lines { l with number := n, at' := 4 * p.words }
        simp only [LineD.row] at hone
        have hsum : IntKind.i64.wrap (p.words + l.words) = p.words + l.words := wrap_i64_in (by omega) (by omega)
        refine awp_planI ([0, 1, 2, 3, 4, 5, 6, 7, 8, 9, 10] : List Nat) ([[], [], [1], [1, 2], [1, 2, 3], [], [5], [1, 2, 3, 4, 5, 6], [0, 1, 2, 3, 4, 5, 6, 7], [0, 1, 2, 3, 4, 5, 6, 7, 8], [0, 1, 2, 3, 4, 5, 6, 7, 8, 9]] : List (List Nat)) ([(8, ([[], [], [1], [1, 2], [1, 2, 3], [], [5], [1, 2, 3, 4, 5, 6]], [(4, 6)])), (1, ([], [])), (1, ([], [])), (1, ([], []))] : List (Nat × List (List Nat) × List (Nat × Nat))) (by kernel_rfl) (by kernel_rfl) (by kernel_rfl) ?_
        refine af1 @hone ?_
        repeat intro K hK
        refine wr ?_
        refine awp_planI ([0, 1, 2, 3, 4, 5, 6, 7, 8, 9] : List Nat) ([[], [0], [0, 1], [0, 1, 2], [], [4], [0, 1, 2, 3, 4, 5], [0, 1, 2, 3, 4, 5, 6], [0, 1, 2, 3, 4, 5, 6, 7], [0, 1, 2, 3, 4, 5, 6, 7, 8]] : List (List Nat)) ([(6, ([[], [0], [0, 1], [0, 1, 2], [], [4]], [])), (1, ([], [])), (1, ([], [])), (1, ([], [])), (1, ([], []))] : List (Nat × List (List Nat) × List (Nat × Nat))) (by kernel_rfl) (by kernel_rfl) (by kernel_rfl) ?_
        refine af1 @hsum ?_
        repeat intro K hK
        refine wr ?_
        have hA : addD p n t = finD (clD t).1 (4 * p.words) { p with lines := p.lines ++ [{ l with number := n, at' := 4 * p.words }], words := p.words + l.words } := by simp [addD, hc, h0, e1]
        by_cases h1 : (clD t).1 = []
        · refine awp_cond rfl (fun h => by simp [h1] at h) (fun _ => ?_)
          refine af  ?_
          repeat intro K hK
          refine wr ?_
          refine awp_cond rfl (fun hg => ?_) (fun hg => ?_)
          · simp at hg
            have hr := hA
            simp [finD, h1, hg] at hr
            refine af  ?_
            repeat intro K hK
            refine wr ?_
            refine awp_ret ?_
            simp [hr]
            exact ⟨27, 7, by simp [lookO]⟩
          · simp at hg
            have hr := hA
            simp [finD, h1, Int.not_lt.2 hg] at hr
            refine af  ?_
            repeat intro K hK
            refine wr ?_
            refine awp_ret ?_
            simp [hr]
            exact ⟨27, 7, by simp [lookO]⟩
        · refine awp_cond rfl (fun _ => ?_) (fun h => by simp [h1] at h)
          have hmg := mget_syms (clD t).1 p.syms
          cases hf : findL (clD t).1 p.syms with
          | some v =>
            rw [hf] at hmg
            have hr := hA
            simp [finD, h1, hf] at hr
            refine af3 @hmg @lkV.eq_1 @mkV.eq_1 ?_
            repeat intro K hK
            refine wr ?_
            refine awp_cond rfl (fun _ => ?_) (fun h => by simp at h)
            refine af  ?_
            repeat intro K hK
            refine wr ?_
            refine awp_ret ?_
            simp [hr]
            exact ⟨27, 7, by simp [lookO]⟩
          | none =>
            rw [hf] at hmg
            have hmp := mput_syms (n := 4 * p.words) hf
            have hone := symsV_one p.syms (clD t).1 (4 * p.words)
            refine af3 @hmg @lkV.eq_1 @mkV.eq_1 ?_
            repeat intro K hK
            refine wr ?_
            refine awp_cond rfl (fun h => by simp at h) (fun _ => ?_)
            refine af2 @hmp @hone ?_
            repeat intro K hK
            refine wr ?_
            refine awp_cond rfl (fun hg => ?_) (fun hg => ?_)
            · simp at hg
              have hr := hA
              simp [finD, h1, hf, hg] at hr
              refine af  ?_
              repeat intro K hK
              refine wr ?_
              refine awp_ret ?_
              simp [hr]
              exact ⟨27, 29, by simp [lookO]⟩
            · simp at hg
              have hr := hA
              simp [finD, h1, hf, Int.not_lt.2 hg] at hr
              refine af  ?_
              repeat intro K hK
              refine wr ?_
              refine awp_ret ?_
              simp [hr]
              exact ⟨27, 29, by simp [lookO]⟩
end Go.Proofs.YtjlbpkokdlggiaaDoor
