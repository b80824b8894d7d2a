/- Abstract states for walks, part 25: regions that draw their order, segment by segment. -/
import Derived.Test.YtjlbpkokdlggiaaDoorAbV
namespace Go.Ab
open Go.RowKit

/-- the operations of a region, segment by segment (its length; what each surely comes behind) -/
def segsL [Glo] (P : Program) (ops : List (Option Tmp)) : List (Nat × List (List Nat) × List (Nat × Nat)) → List Oper → (St → Prop) → St → Prop
  | [], _, K, st => K st
  | (1, _) :: r, o :: t, K, st => stepV P ops o (segsL P ops r t K) st
  | (len, prs, prp) :: r, t, K, st => drawV P ops prs st (fun done => rechk P ops prs st (t.take len) done prp ∧ segsL P ops r (t.drop len) K (stS st (fun _ => true) done)) (t.take len) []

def permL (ops : List Oper) (ord : List Nat) : List Oper := ord.map fun i => ops.getD i default

/-- each segment's own facts; c: where it begins -/
def segsOk (t : List Oper) (N : Nat) (pa : List (List Nat)) : Nat → List (Nat × List (List Nat) × List (Nat × Nat)) → Bool
  | c, [] => decide (c = N)
  | c, (len, prs, prp) :: r => decide (1 ≤ len) && decide (prs.length ≤ len) &&
      (List.range len).all (fun i => (List.range c).all (fun j => (pa.getD (c + i) []).contains j) && (prs.getD i []).all (fun j => decide (j < i) && (pa.getD (c + i) []).contains (c + j))) &&
      (decide (len = 1) || ((List.range len).all (fun i => (List.range i).all (fun j => match t[c + i]?, t[c + j]? with | some o, some o' => !(isEff o.op && isEff o'.op) || (prs.getD i []).contains j | _, _ => true)) &&
        (List.range len).all (fun i => (List.range len).all (fun j => match t[c + i]?, t[c + j]? with | some o, some o' => isEff o.op || !(usesOb o.op) || !(isEff o'.op) || (prs.getD i []).contains j || (prs.getD j []).contains i || prp.contains (i, j) | _, _ => true)) &&
        decide (((t.drop c).take len).filterMap (·.dst)).Nodup)) && segsOk t N pa (c + len) r

/-- ex: orders that hold beside the edges -/
def planOk (P : Program) (n : Nat) (ops : List Oper) (m : Region.Mode) (ex : List (Nat × Nat)) (ord : List Nat) (pa : List (List Nat)) (segs : List (Nat × List (List Nat) × List (Nat × Nat))) : Bool :=
  ops.all (okO P n) && decide (ord.length = ops.length) && decide ord.Nodup && ord.all (fun i => decide (i < ops.length)) && (List.range ops.length).all (fun i => ord.contains i) && decide (pa.length ≤ ops.length) &&
  (List.range ops.length).all (fun k => match ops[ord.getD k 0]? with
    | none => false
    | some o => o.after.toList.all (fun e => !(Region.binds m e) || (decide (e.on < ops.length) && decide (ord.idxOf e.on < k))) &&
      (pa.getD k []).all (fun j => decide (j < k) && (o.after.toList.any (fun e => Region.binds m e && (decide (ord.idxOf e.on = j) || (pa.getD (ord.idxOf e.on) []).contains j)) ||
        ex.any (fun q => decide (q.2 = ord.getD k 0) && decide (q.1 < ops.length) && (decide (ord.idxOf q.1 = j) || (pa.getD (ord.idxOf q.1) []).contains j))))) &&
  segsOk (permL ops ord) ops.length pa 0 segs

structure SegsOk (t : List Oper) (N : Nat) (pa : List (List Nat)) (c len : Nat) (prs : List (List Nat)) (prp : List (Nat × Nat)) : Prop where
  pos : 1 ≤ len
  cut : ∀ i, i < len → ∀ j, j < c → j ∈ pa.getD (c + i) []
  sub : ∀ i j, j ∈ prs.getD i [] → j < i ∧ (c + j) ∈ pa.getD (c + i) []
  chain : len ≠ 1 → ∀ i j o o', i < len → t[c + i]? = some o → t[c + j]? = some o' → isEff o.op = true → isEff o'.op = true → j < i → j ∈ prs.getD i []
  more : len ≠ 1 → ∀ i j o o', i < len → j < len → t[c + i]? = some o → t[c + j]? = some o' → isEff o.op = false → usesOb o.op = true → isEff o'.op = true → j ∉ prs.getD i [] → i ∉ prs.getD j [] → (i, j) ∈ prp
  nodup : len ≠ 1 → (((t.drop c).take len).filterMap (·.dst)).Nodup

theorem segsOk_cons {t : List Oper} {N c len : Nat} {pa prs : List (List Nat)} {prp : List (Nat × Nat)} {r : List (Nat × List (List Nat) × List (Nat × Nat))} (h : segsOk t N pa c ((len, prs, prp) :: r) = true) : SegsOk t N pa c len prs prp ∧ segsOk t N pa (c + len) r = true := by
  simp only [segsOk, Bool.and_eq_true, decide_eq_true_eq, List.all_eq_true, List.mem_range, Bool.or_eq_true] at h
  obtain ⟨⟨⟨⟨h1, h2⟩, h3⟩, h4⟩, h5⟩ := h
  refine ⟨⟨h1, fun i hi j hj => by simpa using (h3 i hi).1 j hj, fun i j hj => ?_, fun hne i j o o' hi ho ho' he he' hji => ?_, fun hne i j o o' hi hj ho ho' hE hu hE' hji hij => ?_, fun hne => ?_⟩, h5⟩
  · have hi : i < len := by
      rcases Nat.lt_or_ge i len with hc | hc
      · exact hc
      · rw [List.getD_eq_getElem?_getD, List.getElem?_eq_none (by omega)] at hj; simp at hj
    have := (h3 i hi).2 j hj
    exact ⟨this.1, by simpa using this.2⟩
  · rcases h4 with h4 | h4
    · exact absurd h4 hne
    · have := h4.1.1 i hi j hji
      rw [ho, ho'] at this
      simpa [he, he'] using this
  · rcases h4 with h4 | h4
    · exact absurd h4 hne
    · have := h4.1.2 i hi j hj
      rw [ho, ho'] at this
      simp only [hE, hu, hE', Bool.false_or, Bool.not_true, Bool.or_eq_true, List.contains_iff_mem] at this
      rcases this with (h | h) | h
      · exact absurd h hji
      · exact absurd h hij
      · exact h
  · rcases h4 with h4 | h4
    · exact absurd h4 hne
    · exact h4.2

theorem segsOk_le [Glo] {t : List Oper} {N : Nat} {pa : List (List Nat)} : ∀ {r : List (Nat × List (List Nat) × List (Nat × Nat))} {c : Nat}, segsOk t N pa c r = true → c ≤ N
  | [], c, h => by simp [segsOk] at h; omega
  | (len, prs, prp) :: r, c, h => by have := segsOk_le (segsOk_cons h).2; omega

section
variable {P : Program} {base : Nat} {Xa : Nat → Prop} {w0 : W0} {w w' : World} {st : St} {a : Act} {M M' : Mp}

/-- how far a region has come -/
inductive Run [Glo] (P : Program) (base : Nat) (Xa : Nat → Prop) (w0 : W0) (n : Nat) (ops t : List Oper) (N : Nat) (pa : List (List Nat)) (K : St → Prop) (L : Nat → Bool) (a : Act) (w : World) : Prop where
  | at_ (c : Nat) (r : List (Nat × List (List Nat) × List (Nat × Nat))) (hr : segsOk t N pa c r = true) (h1 : ∀ j, j < c → L j = true) (h2 : ∀ j, c ≤ j → j < N → L j = false) (s : St) (hn : s.n = n) (hK : segsL P (slotsOf ops) r (t.drop c) K s) (hR : Rel base Xa w0 s a w) : Run P base Xa w0 n ops t N pa K L a w
  | in_ (c len : Nat) (prs : List (List Nat)) (prp : List (Nat × Nat)) (r : List (Nat × List (List Nat) × List (Nat × Nat))) (hs : SegsOk t N pa c len prs prp) (hne : len ≠ 1) (hr : segsOk t N pa (c + len) r = true) (h1 : ∀ j, j < c → L j = true) (h2 : ∀ j, c + len ≤ j → j < N → L j = false) (s : St) (hn : s.n = n) (l : List HI) (hl : l.length = len)
      (hF : SegF P (slotsOf ops) ((t.drop c).take len) prs s l)
      (hK : segsL P (slotsOf ops) r (t.drop (c + len)) K (stS s (fun _ => true) l)) (hI : HeadInv base Xa w0 s l prs (fun j => L (c + j)) a w) : Run P base Xa w0 n ops t N pa K L a w

theorem stS_same [Glo] {s : St} {l : List HI} (L L' : Nat → Bool) (h : ∀ i, i < l.length → L i = L' i) : stS s L l = stS s L' l := by
  simp only [stS]
  rw [eT_same L L' l 0 (fun j hj => by rw [Nat.zero_add]; exact h j hj), eO_congr l l L L' 0 _ rfl (fun j x x' hx hx' => by
    rw [hx] at hx'
    simp only [Option.some.injEq] at hx'
    subst hx'
    rw [Nat.zero_add, h j (List.getElem?_eq_some_iff.1 hx).1]
    exact ⟨rfl, fun _ => ⟨rfl, rfl⟩⟩)]

theorem HeadInv.congr [Glo] {s : St} {l : List HI} {prs : List (List Nat)} {L L' : Nat → Bool} (h : HeadInv base Xa w0 s l prs L a w) (hp : ∀ i j, j ∈ prs.getD i [] → j < i) (hL : ∀ i, i < l.length → L i = L' i) : HeadInv base Xa w0 s l prs L' a w := by
  have e := stS_same (s := s) L L' hL
  obtain ⟨h1, h2⟩ := h
  rw [e] at h2
  exact ⟨fun j hj hLj k hk => by have := hp j k hk; rw [← hL k (by omega)]; exact h1 j hj (by rw [hL j hj]; exact hLj) k hk, h2⟩

theorem HeadInv.begin [Glo] {s : St} {l : List HI} {prs : List (List Nat)} {L : Nat → Bool} (hL : ∀ i, i < l.length → L i = false) (hR : Rel base Xa w0 s a w) : HeadInv base Xa w0 s l prs L a w := by
  have e0 : eO L 0 l (s.ob, s.nx) = (s.ob, s.nx) := by
    rcases eO_mem L l 0 (s.ob, s.nx) with e | ⟨j, y, h1, _, h3, _⟩
    · exact e
    · rw [Nat.zero_add, hL j (List.getElem?_eq_some_iff.1 h1).1] at h3; cases h3
  have hob : (stS s L l).ob = s.ob := by simp only [stS, e0]
  have hnx : (stS s L l).nx = s.nx := by simp only [stS, e0]
  refine ⟨fun j hj hLj => (by rw [hL j hj] at hLj; cases hLj), ?_⟩
  obtain ⟨M, hM⟩ := hR
  have hw := hM.weakT (T := eT L 0 l ++ s.tmp) (fun t => eT_poi L s.tmp t l 0 (fun j hj => by rw [Nat.zero_add]; exact hL j hj))
  have e : ({ s with tmp := eT L 0 l ++ s.tmp } : St) = stS s L l := by
    have : stS s L l = ⟨s.n, eT L 0 l ++ s.tmp, (stS s L l).nx, (stS s L l).ob, s.pn⟩ := rfl
    rw [this, hnx, hob]
  rw [e] at hw
  exact ⟨M, hw⟩

variable {ops t : List Oper} {N : Nat} {pa : List (List Nat)} {K : St → Prop} {L : Nat → Bool} {QC : Exit → Act → World → Prop} {n : Nat}

theorem Run.congr [Glo] {L' : Nat → Bool} (h : Run P base Xa w0 n ops t N pa K L a w) (hL : ∀ i, i < N → L i = L' i) : Run P base Xa w0 n ops t N pa K L' a w := by
  cases h with
  | at_ c r hr h1 h2 s hn hK hR =>
    have := segsOk_le hr
    exact .at_ c r hr (fun j hj => by rw [← hL j (by omega)]; exact h1 j hj) (fun j hj hjN => by rw [← hL j hjN]; exact h2 j hj hjN) s hn hK hR
  | in_ c len prs prp r hs hne hr h1 h2 s hn l hl hF hK hI =>
    have := segsOk_le hr
    exact .in_ c len prs prp r hs hne hr (fun j hj => by rw [← hL j (by omega)]; exact h1 j hj) (fun j hj hjN => by rw [← hL j hjN]; exact h2 j hj hjN) s hn l hl hF hK
      (hI.congr (fun i j hj => (hs.sub i j hj).1) fun i hi => hL (c + i) (by omega))

/-- a segment is done -/
theorem Run.norm [Glo] (h : Run P base Xa w0 n ops t N pa K L a w) : (∃ c r, segsOk t N pa c r = true ∧ (∀ j, j < c → L j = true) ∧ (∀ j, c ≤ j → j < N → L j = false) ∧ ∃ s, s.n = n ∧ segsL P (slotsOf ops) r (t.drop c) K s ∧ Rel base Xa w0 s a w) ∨
    ∃ c len prs prp r, SegsOk t N pa c len prs prp ∧ len ≠ 1 ∧ segsOk t N pa (c + len) r = true ∧ (∀ j, j < c → L j = true) ∧ (∀ j, c + len ≤ j → j < N → L j = false) ∧ (∃ j, j < len ∧ L (c + j) = false) ∧ ∃ s, s.n = n ∧ ∃ l : List HI, l.length = len ∧
      SegF P (slotsOf ops) ((t.drop c).take len) prs s l ∧
      segsL P (slotsOf ops) r (t.drop (c + len)) K (stS s (fun _ => true) l) ∧ HeadInv base Xa w0 s l prs (fun j => L (c + j)) a w := by
  cases h with
  | at_ c r hr h1 h2 s hn hK hR => exact .inl ⟨c, r, hr, h1, h2, s, hn, hK, hR⟩
  | in_ c len prs prp r hs hne hr h1 h2 s hn l hl hF hK hI =>
    by_cases hall : ∀ j, j < len → L (c + j) = true
    · refine .inl ⟨c + len, r, hr, fun j hj => ?_, h2, stS s (fun _ => true) l, hn, hK, ?_⟩
      · rcases Nat.lt_or_ge j c with hc | hc
        · exact h1 j hc
        · have := hall (j - c) (by omega)
          rwa [show c + (j - c) = j by omega] at this
      · have e := stS_same (s := s) (l := l) (fun j => L (c + j)) (fun _ => true) (fun j hj => hall j (by omega))
        have := hI.rel
        rwa [e] at this
    · refine .inr ⟨c, len, prs, prp, r, hs, hne, hr, h1, h2, ?_, s, hn, l, hl, hF, hK, hI⟩
      obtain ⟨j, hj⟩ := Classical.not_forall.1 hall
      rw [Classical.not_imp] at hj
      exact ⟨j, hj.1, by simpa using hj.2⟩

theorem segsL_one [Glo] {O : List (Option Tmp)} {o : Oper} {prs : List (List Nat) × List (Nat × Nat)} {r : List (Nat × List (List Nat) × List (Nat × Nat))} {u : List Oper} {s : St} : segsL P O ((1, prs) :: r) (o :: u) K s = stepV P O o (segsL P O r u K) s := rfl
theorem segsL_more [Glo] {O : List (Option Tmp)} {len : Nat} {prs : List (List Nat)} {prp : List (Nat × Nat)} {r : List (Nat × List (List Nat) × List (Nat × Nat))} {u : List Oper} {s : St} (h : len ≠ 1) : segsL P O ((len, prs, prp) :: r) u K s = drawV P O prs s (fun done => rechk P O prs s (u.take len) done prp ∧ segsL P O r (u.drop len) K (stS s (fun _ => true) done)) (u.take len) [] := by
  match len, u, h with
  | 0, [], _ => rfl
  | 0, _ :: _, _ => rfl
  | _ + 2, [], _ => rfl
  | _ + 2, _ :: _, _ => rfl
  | 1, _, h => exact absurd rfl h

/-- One operation inside a segment. -/
theorem Run.inside [Glo] (htN : t.length = N) (hok : ∀ o ∈ t, okO P n o = true) {c len : Nat} {prs : List (List Nat)} {prp : List (Nat × Nat)} {r : List (Nat × List (List Nat) × List (Nat × Nat))} (hs : SegsOk t N pa c len prs prp) (hne : len ≠ 1) (hr : segsOk t N pa (c + len) r = true)
    (h1 : ∀ j, j < c → L j = true) (h2 : ∀ j, c + len ≤ j → j < N → L j = false) {s : St} (hn : s.n = n) {l : List HI} (hl : l.length = len)
    (hF : SegF P (slotsOf ops) ((t.drop c).take len) prs s l)
    (hK : segsL P (slotsOf ops) r (t.drop (c + len)) K (stS s (fun _ => true) l)) (hI : HeadInv base Xa w0 s l prs (fun j => L (c + j)) a w) {k : Nat} {o : Oper} (ho : t[k]? = some o) (hck : c ≤ k) (hkl : k < c + len) (hLk : L k = false) (hpa : ∀ j ∈ pa.getD k [], L j = true) :
    if Region.wanted o (yielded ops.toArray a.tmps) = true then o.wp P a w (Run P base Xa w0 n ops t N pa K fun j => decide (j = k) || L j) QC else Run P base Xa w0 n ops t N pa K (fun j => decide (j = k) || L j) (a.put o.dst undef) w := by
  have hcl := segsOk_le hr
  have hseg : ((t.drop c).take len).length = len := by simp; omega
  have hgo : ((t.drop c).take len)[k - c]? = some o := by
    rw [List.getElem?_take, if_pos (by omega), List.getElem?_drop, show c + (k - c) = k by omega]; exact ho
  have hD : SegOk P s.n ((t.drop c).take len) prs := ⟨fun o ho => by rw [hn]; exact hok o (List.mem_of_mem_drop (List.mem_of_mem_take ho)), fun i j hj => (hs.sub i j hj).1, fun i j o o' ho ho' he he' hji => by
      have hi := (List.getElem?_eq_some_iff.1 ho).1
      rw [hseg] at hi
      rw [List.getElem?_take, if_pos hi, List.getElem?_drop] at ho
      rw [List.getElem?_take, if_pos (by omega), List.getElem?_drop] at ho'
      exact hs.chain hne i j o o' hi ho ho' he he' hji, hs.nodup hne⟩
  have hnd : (l.filterMap (·.dst)).Nodup := by
    have : l.filterMap (·.dst) = ((t.drop c).take len).filterMap (·.dst) := by
      have e : l.map (·.dst) = ((t.drop c).take len).map (·.dst) := by
        apply List.ext_getElem?
        intro i
        rw [List.getElem?_map, List.getElem?_map]
        rcases Nat.lt_or_ge i len with hi | hi
        · have q1 : l[i]? = some (l[i]'(by omega)) := List.getElem?_eq_getElem (by omega)
          have q2 : ((t.drop c).take len)[i]? = some (((t.drop c).take len)[i]'(by omega)) := List.getElem?_eq_getElem _
          rw [q1, q2]
          simp only [Option.map_some]
          rw [(hF.low i _ _ q2 q1).1]
        · rw [List.getElem?_eq_none (by omega), List.getElem?_eq_none (by omega)]
          rfl
      have f : ∀ {α : Type} (l : List α) (g : α → Option Tmp), l.filterMap g = (l.map g).filterMap id := fun l g => by rw [List.filterMap_map]; rfl
      rw [f l, f ((t.drop c).take len), e]
    rw [this]; exact hs.nodup hne
  have hstep := head_step (opsA := ops) (QC := QC) hD (by rw [hseg]; exact hl) hF hnd hI hgo (by show L (c + (k - c)) = false; rw [show c + (k - c) = k by omega]; exact hLk) (fun j hj => hpa (c + j) (by
    have := (hs.sub _ _ hj).2
    rwa [show c + (k - c) = k by omega] at this))
  have next : ∀ a' w', HeadInv base Xa w0 s l prs (fun j => decide (j = k - c) || L (c + j)) a' w' → Run P base Xa w0 n ops t N pa K (fun j => decide (j = k) || L j) a' w' := fun a' w' hI' =>
    .in_ c len prs prp r hs hne hr (fun j hj => by simp [h1 j hj]) (fun j hj hjN => by simp [h2 j hj hjN]; omega) s hn l hl hF hK (hI'.congr (fun i j hj => (hs.sub i j hj).1) fun i _ => by
      congr 1
      exact decide_eq_decide.2 (by omega))
  split
  · rename_i hw; rw [if_pos hw] at hstep; exact oper_mono hstep next
  · rename_i hw; rw [if_neg hw] at hstep; exact next _ _ hstep

theorem rechk_mem [Glo] {prs : List (List Nat)} {s : St} {seg : List Oper} {l : List HI} : ∀ {prp : List (Nat × Nat)} (_ : rechk P (slotsOf ops) prs s seg l prp) {i j : Nat} (_ : (i, j) ∈ prp) {o : Oper} {x y : HI} (_ : seg[i]? = some o) (_ : l[i]? = some x) (_ : l[j]? = some y),
    hstep P (slotsOf ops) o ⟨s.n, eT (fun k => (prs.getD i []).contains k) 0 l ++ s.tmp, y.nx, y.ob, s.pn⟩ (fun eff v _ _ => eff = false ∧ v = x.v)
  | [], _, i, j, hm, _, _, _, _, _, _ => by simp at hm
  | (i', j') :: r, h, i, j, hm, o, x, y, ho, hx, hy => by
    obtain ⟨h1, h2⟩ := h
    rcases List.mem_cons.1 hm with e | hm
    · simp only [Prod.mk.injEq] at e
      obtain ⟨rfl, rfl⟩ := e
      rw [ho, hx, hy] at h1
      exact h1
    · exact rechk_mem h2 hm ho hx hy
theorem Run.step [Glo] (htN : t.length = N) (hok : ∀ o ∈ t, okO P n o = true) (h : Run P base Xa w0 n ops t N pa K L a w) {k : Nat} {o : Oper} (ho : t[k]? = some o) (hLk : L k = false) (hpa : ∀ j ∈ pa.getD k [], L j = true) :
    if Region.wanted o (yielded ops.toArray a.tmps) = true then o.wp P a w (Run P base Xa w0 n ops t N pa K fun j => decide (j = k) || L j) QC else Run P base Xa w0 n ops t N pa K (fun j => decide (j = k) || L j) (a.put o.dst undef) w := by
  have hkN : k < N := by have := (List.getElem?_eq_some_iff.1 ho).1; omega
  -- whoever comes later has everything before its segment behind it
  have cutAll : ∀ (r : List (Nat × List (List Nat) × List (Nat × Nat))) (c : Nat), segsOk t N pa c r = true → c ≤ k → ∀ j, j < c → j ∈ pa.getD k [] := fun r => by
    induction r with
    | nil => intro c hr hck; simp [segsOk] at hr; omega
    | cons x r ih =>
      intro c hr hck j hj
      obtain ⟨len, prs, prp⟩ := x
      obtain ⟨hs, hr'⟩ := segsOk_cons hr
      rcases Nat.lt_or_ge k (c + len) with hc | hc
      · have := hs.cut (k - c) (by omega) j hj
        rwa [show c + (k - c) = k by omega] at this
      · exact ih (c + len) hr' hc j (by omega)
  rcases h.norm with ⟨c, r, hr, h1, h2, s, hn, hK, hR⟩ | ⟨c, len, prs, prp, r, hs, hne, hr, h1, h2, ⟨j0, hj0, hLj0⟩, s, hn, l, hl, hF, hK, hI⟩
  · have hck : c ≤ k := by
      rcases Nat.lt_or_ge k c with hc | hc
      · rw [h1 k hc] at hLk; cases hLk
      · exact hc
    cases r with
    | nil => simp [segsOk] at hr; omega
    | cons x r =>
      obtain ⟨len, prs, prp⟩ := x
      obtain ⟨hs, hr'⟩ := segsOk_cons hr
      have hle := segsOk_le hr'
      have hpos := hs.pos
      have hkl : k < c + len := by
        rcases Nat.lt_or_ge k (c + len) with hc | hc
        · exact hc
        · have := hpa c (cutAll r (c + len) hr' hc c (by omega))
          rw [h2 c (Nat.le_refl _) (by omega)] at this; cases this
      by_cases hne : len = 1
      · subst hne
        have hkc : k = c := by omega
        subst hkc
        have hdrop : t.drop k = o :: t.drop (k + 1) := by
          rw [List.drop_eq_getElem_cons (by omega)]
          congr 1
          exact (List.getElem?_eq_some_iff.1 ho).2
        rw [hdrop, segsL_one] at hK
        obtain ⟨M, hM⟩ := hR
        have hst := step_sound (ops := ops.toArray) (QC := QC) hK (by rw [hn]; exact hok o (List.mem_of_getElem? ho)) hM
        have next : ∀ a' w', Nx base Xa w0 s.n (segsL P (slotsOf ops) r (t.drop (k + 1)) K) a' w' → Run P base Xa w0 n ops t N pa K (fun j => decide (j = k) || L j) a' w' := fun a' w' ⟨s', q1, q2, q3⟩ =>
          .at_ (k + 1) r hr' (fun j hj => by
            simp only [Bool.or_eq_true, decide_eq_true_eq]
            rcases Nat.lt_or_ge j k with hc | hc
            · exact .inr (h1 j hc)
            · exact .inl (by omega)) (fun j hj hjN => by simp [h2 j (by omega) hjN]; omega) s' (q1.trans hn) q2 q3
        split
        · rename_i hw; rw [if_pos hw] at hst; exact oper_mono hst next
        · rename_i hw; rw [if_neg hw] at hst; exact next _ _ hst
      · rw [segsL_more hne] at hK
        obtain ⟨l, hl, hK', hF⟩ := drawV_ex (fun i j hj => (hs.sub i j hj).1) _ _ hK
        simp only [List.nil_append, List.length_nil, Nat.zero_add, List.drop_drop] at hK' hF
        obtain ⟨hre, hK'⟩ := hK'
        have hl' : l.length = len := by rw [hl]; simp; omega
        have hSF : SegF P (slotsOf ops) ((t.drop c).take len) prs s l := ⟨hF, fun i j o o' x y ho ho' hx hy hE hu hE' hji hij => by
          have hi := (List.getElem?_eq_some_iff.1 hx).1
          have hj := (List.getElem?_eq_some_iff.1 hy).1
          have ho1 := ho
          have ho2 := ho'
          rw [List.getElem?_take, if_pos (by omega), List.getElem?_drop] at ho1 ho2
          exact rechk_mem hre (hs.more hne i j o o' (by omega) (by omega) ho1 ho2 hE hu hE' hji hij) ho hx hy⟩
        exact Run.inside htN hok hs hne hr' h1 (fun j hj hjN => h2 j (by omega) hjN) hn hl' hSF hK' (HeadInv.begin (fun i hi => h2 (c + i) (by omega) (by omega)) hR) ho hck hkl hLk hpa
  · have hck : c ≤ k := by
      rcases Nat.lt_or_ge k c with hc | hc
      · rw [h1 k hc] at hLk; cases hLk
      · exact hc
    have hkl : k < c + len := by
      rcases Nat.lt_or_ge k (c + len) with hc | hc
      · exact hc
      · have := hpa (c + j0) (cutAll r (c + len) hr hc (c + j0) (by omega))
        rw [hLj0] at this; cases this
    exact Run.inside htN hok hs hne hr h1 h2 hn hl hF hK hI ho hck hkl hLk hpa

theorem Run.done [Glo] (h : Run P base Xa w0 n ops t N pa K L a w) (hall : ∀ j, j < N → L j = true) : ∃ s, s.n = n ∧ K s ∧ Rel base Xa w0 s a w := by
  rcases h.norm with ⟨c, r, hr, h1, h2, s, hn, hK, hR⟩ | ⟨c, len, prs, prp, r, hs, hne, hr, h1, h2, ⟨j0, hj0, hLj0⟩, _⟩
  · cases r with
    | nil => exact ⟨s, hn, hK, hR⟩
    | cons x r =>
      obtain ⟨len, prs, prp⟩ := x
      obtain ⟨hs, hr'⟩ := segsOk_cons hr
      have := segsOk_le hr'
      have := hs.pos
      have h3 := h2 c (Nat.le_refl _) (by omega)
      rw [hall c (by omega)] at h3; cases h3
  · have := segsOk_le hr
    rw [hall (c + j0) (by omega)] at hLj0; cases hLj0
end
end Go.Ab
