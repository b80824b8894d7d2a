/- Abstract states for walks, part 27: maps, iterators over strings, make. -/
import Derived.Test.YtjlbpkokdlggiaaDoorAbM
import Derived.MapKept
import Derived.Laws.OwnMore
import Derived.Laws.RangeString
import Derived.Lib.OthersKept
namespace Go.Ab
open Go.RowKit

def ecells (e : MapEntry) : List Value := e.key :: e.val.cells.toList
theorem mapVals_cons (e : MapEntry) (es : List MapEntry) : mapVals (e :: es) = ecells e ++ mapVals es := by simp [mapVals, ecells]
theorem mapVals_flat (es : List MapEntry) : mapVals es = (es.map ecells).flatten := by
  induction es with
  | nil => rfl
  | cons e es ih => rw [mapVals_cons, ih]; rfl
theorem mapOk_len {sz : Nat} {e : MapEntry} (h : mapOk sz e) : (ecells e).length = sz := by simp [ecells, h.1]
theorem flat_getA {α : Type} {n : Nat} : ∀ (l : List (List α)) (i j : Nat), (∀ x ∈ l, x.length = n) → j < n → l.flatten[i * n + j]? = (l.getD i [])[j]?
  | [], i, j, _, _ => by simp
  | x :: l, 0, j, h, hj => by
    have hx := h x (List.mem_cons_self ..)
    simp only [List.flatten_cons, Nat.zero_mul, Nat.zero_add, List.getD_cons_zero]
    rw [List.getElem?_append_left (by omega)]
  | x :: l, i + 1, j, h, hj => by
    have hx := h x (List.mem_cons_self ..)
    have ih := flat_getA l i j (fun y hy => h y (List.mem_cons_of_mem _ hy)) hj
    simp only [List.flatten_cons, List.getD_cons_succ]
    rw [List.getElem?_append_right (by rw [hx, Nat.add_mul]; omega), hx, show (i + 1) * n + j - n = i * n + j by rw [Nat.add_mul]; omega]
    exact ih

section
variable {P : Program} {base : Nat} {Xa : Nat → Prop} {w0 : W0} {w w' : World} {st : St} {a : Act} {M M' : Mp} {X X' : Nat → Prop} {n n' : Nat} {K : St → Prop} {Q : Exit → Act → World → Prop}

/-- abstract entries and entries -/
def Ents (M : Mp) (w : World) (X : Nat → Prop) (xs : List (List V)) (es : List MapEntry) : Prop :=
  xs.length = es.length ∧ ∀ (i : Nat) (x : List V) (e : MapEntry), xs[i]? = some x → es[i]? = some e → Cs M w X 0 x (ecells e)
theorem ents_of [Glo] {sz : Nat} {xs : List (List V)} {es : List MapEntry} (hn : xs.length = es.length) (hs : ∀ x ∈ xs, x.length = sz) (hok : ∀ e ∈ es, mapOk sz e) (h1 : ∀ u ∈ mapVals es, u.oneCell' = true)
    (h : ∀ (j : Nat) (u : V), xs.flatten[j]? = some u → R M w X 0 u ((mapVals es).getD j undef)) : Ents M w X xs es := by
  refine ⟨hn, fun i x e hx he => ?_⟩
  have hxl := hs x (List.mem_of_getElem? hx)
  have hel := mapOk_len (hok e (List.mem_of_getElem? he))
  refine ⟨by omega, fun u hu => h1 u ?_, fun j c hc => ?_⟩
  · rw [mapVals_flat]; exact List.mem_flatten.2 ⟨_, List.mem_map.2 ⟨e, List.mem_of_getElem? he, rfl⟩, hu⟩
  · have hj : j < sz := by have := (List.getElem?_eq_some_iff.1 hc).1; omega
    have e1 : xs.getD i [] = x := by rw [List.getD_eq_getElem?_getD, hx]; rfl
    have e2 : (es.map ecells).getD i [] = ecells e := by rw [List.getD_eq_getElem?_getD, List.getElem?_map, he]; rfl
    have := h (i * sz + j) c (by rw [flat_getA xs i j hs hj, e1]; exact hc)
    rw [mapVals_flat, List.getD_eq_getElem?_getD, flat_getA (es.map ecells) i j (fun y hy => by
      obtain ⟨e', he', rfl⟩ := List.mem_map.1 hy
      exact mapOk_len (hok e' he')) hj, e2, ← List.getD_eq_getElem?_getD] at this
    exact this
theorem ents_flat [Glo] : ∀ {xs : List (List V)} {es : List MapEntry} (_ : Ents M w X xs es), Cs M w X 0 xs.flatten (mapVals es)
  | [], [], _ => Cs.nil
  | x :: xs, e :: es, h => by
    rw [List.flatten_cons, mapVals_cons]
    refine Cs.app (h.2 0 x e rfl rfl) (ents_flat ⟨by simpa using h.1, fun i y f hy hf => h.2 (i + 1) y f (by simpa using hy) (by simpa using hf)⟩)
  | [], _ :: _, h => by simp [Ents] at h
  | _ :: _, [], h => by simp [Ents] at h
theorem ents_key [Glo] {xs : List (List V)} {es : List MapEntry} (h : Ents M w X xs es) (hk : mkeys xs) : ∀ (i : Nat) (x : List V) (e : MapEntry), xs[i]? = some x → es[i]? = some e → ∃ s, mkey x = some s ∧ e.key = .string ⟨s.toArray⟩ := by
  intro i x e hx he
  have hc := h.2 i x e hx he
  have := hk x (List.mem_of_getElem? hx)
  unfold mkey at this ⊢
  split
  · rename_i s r
    exact ⟨s, rfl, R_str (by simpa [ecells] using hc.rel 0 (.str s) rfl)⟩
  · rename_i hno
    split at this
    · rename_i s r; exact absurd rfl (hno s r)
    · cases this
theorem findNow_first (s : List UInt8) : ∀ (xs : List (List V)) (es : List MapEntry) (i : Nat), xs.length = es.length → (∀ (j : Nat) (x : List V) (e : MapEntry), xs[j]? = some x → es[j]? = some e → ∃ k, mkey x = some k ∧ e.key = .string ⟨k.toArray⟩) →
    Instr.findNow .string (.string ⟨s.toArray⟩) es i = some (match midx s xs with | none => none | some j => (es[j]?).map fun e => (i + j, e.val))
  | [], [], i, _, _ => rfl
  | x :: xs, e :: es, i, hl, h => by
    obtain ⟨k, hk, hek⟩ := h 0 x e rfl rfl
    have ih := findNow_first s xs es (i + 1) (by simpa using hl) (fun j y f hy hf => h (j + 1) y f (by simpa using hy) (by simpa using hf))
    obtain ⟨r, hs, hiff⟩ := MapKept.sameNow_of_keys (d := .string) (a := .string ⟨s.toArray⟩) (b := .string ⟨k.toArray⟩) trivial trivial
    rw [← hek] at hs
    by_cases hks : k = s
    · subst hks
      have : r = true := hiff.2 rfl
      subst this
      simp only [Instr.findNow, hs, midx, hk, if_true, List.getElem?_cons_zero, Option.map_some, Nat.add_zero]
    · have : r = false := by
        cases r with
        | false => rfl
        | true =>
          have := hiff.1 rfl
          simp only [Value.string.injEq] at this
          have := congrArg (fun b : ByteArray => b.data.toList) this
          exact absurd (by simpa using this.symm) hks
      subst this
      simp only [Instr.findNow, hs, midx, hk, Option.some.injEq, hks, if_false, ih]
      cases midx s xs with
      | none => rfl
      | some j => simp only [Option.map_some, List.getElem?_cons_succ]; congr 2; funext f; congr 1; omega
  | [], _ :: _, _, h, _ => by simp at h
  | _ :: _, [], _, h, _ => by simp at h
theorem midx_lt (s : List UInt8) : ∀ (xs : List (List V)) (i : Nat), midx s xs = some i → i < xs.length ∧ ∃ x, xs[i]? = some x ∧ mkey x = some s
  | [], i, h => by simp [midx] at h
  | x :: xs, i, h => by
    simp only [midx] at h
    split at h
    · rename_i hx
      simp only [Option.some.injEq] at h
      subst h
      exact ⟨by simp, x, rfl, hx⟩
    · obtain ⟨j, hj, rfl⟩ := Option.map_eq_some_iff.1 h
      obtain ⟨h1, h2⟩ := midx_lt s xs j hj
      exact ⟨by simp only [List.length_cons]; omega, by simpa using h2⟩

theorem mp_parts {t : TypeId} {sz : Nat} {ag : Bool} {z : List V} (h : mpE P t = some (sz, ag, z)) :
    ∃ k e m, P.underlying t = some (.map k e) ∧ P.underlying k = some .string ∧ tyE P e = some (m, ag) ∧ zeroE P e = some z ∧ zAg P e = some ag ∧ sz = m + 1 ∧ z.length = m ∧ (ag = true → 2 ≤ m) ∧ (ag = false → m = 1) := by
  unfold mpE at h
  split at h
  · rename_i k e hu
    split at h
    · rename_i m ag' z' hk ht hz
      cases hc : (bif ag' then decide (2 ≤ m) else m == 1) && z'.length == m && zAg P e == some ag' with
      | false => simp [hc] at h
      | true =>
        simp only [hc, cond_true, Option.some.injEq, Prod.mk.injEq] at h
        obtain ⟨rfl, rfl, rfl⟩ := h
        simp only [Bool.and_eq_true, beq_iff_eq] at hc
        refine ⟨k, e, m, hu, hk, ht, hz, hc.2, rfl, hc.1.2, fun h => ?_, fun h => ?_⟩
        · subst h; simpa using hc.1.1
        · subst h; simpa using hc.1.1
    · simp at h
  · simp at h
/-- a value in a map, out of its cells -/
theorem val_R [Glo] {sz m : Nat} {ag : Bool} {cs : List V} {v : Value} (hok : (sz = 2 ∧ v.cells = #[v]) ∨ (2 < sz ∧ ∃ arr, v = .agg arr)) (hsz : sz = m + 1) (h2 : ag = true → 2 ≤ m) (h3 : ag = false → m = 1) (hc : Cs M w X n cs v.cells.toList) :
    R M w X n (mkV ag cs) v := by
  cases ag with
  | true =>
    have := h2 rfl
    rcases hok with ⟨h, _⟩ | ⟨_, arr, rfl⟩
    · omega
    · refine .st _ _ _ (by simpa [Value.cells] using hc.len) (fun u hu => hc.one u (by simpa [Value.cells] using hu)) fun j c hj => ?_
      have := hc.rel j c hj
      simpa [Value.cells, Array.getD_eq_getD_getElem?, List.getD_eq_getElem?_getD] using this
  | false =>
    have := h3 rfl
    rcases hok with ⟨_, h⟩ | ⟨h, _⟩
    · rw [h] at hc
      match cs, hc with
      | [c], hc => simpa [mkV] using hc.rel 0 c rfl
      | [], hc => simpa using hc.len
      | _ :: _ :: _, hc => simpa using hc.len
    · omega
theorem zero_R [Glo] {e : TypeId} {m : Nat} {ag : Bool} {z : List V} (hz : zeroE P e = some z) (ha : zAg P e = some ag) (hl : z.length = m) (h3 : ag = false → m = 1) : ∃ u, (zeroValue e).run P w = .ok u w ∧ R M w X n (mkV ag z) u := by
  obtain ⟨i, u, hi, hiz, hc⟩ := zero_Cs (P := P) (M := M) (w := w) (X := X) (n := n) hz
  refine ⟨u, by simp [zeroValue, typeInfo, hi, hiz], ?_⟩
  unfold zAg at ha
  simp only [hi, hiz] at ha
  cases ag with
  | true =>
    cases u with
    | agg arr =>
      refine .st _ _ _ (by simpa [Value.cells] using hc.len) (fun u hu => hc.one u (by simpa [Value.cells] using hu)) fun j c hj => ?_
      have := hc.rel j c hj
      simpa [Value.cells, Array.getD_eq_getD_getElem?, List.getD_eq_getElem?_getD] using this
    | _ => simp at ha
  | false =>
    have hm := h3 rfl
    have hcl : u.cells = #[u] := by cases u <;> first | rfl | simp at ha
    rw [hcl] at hc
    match z, hl, hc with
    | [c], _, hc => simpa [mkV] using hc.rel 0 c rfl
    | [], hl, _ => simp at hl; omega
    | _ :: _ :: _, hl, _ => simp at hl; omega
theorem lookup_R [Glo] {t : TypeId} {sz : Nat} {ag : Bool} {z : List V} (hm : mpE P t = some (sz, ag, z)) {xs : List (List V)} {es : Array MapEntry} {clk g : Nat} (hg : w.heap[g]? = some (.map es clk)) (hE : Ents M w X xs es.toList) (hok : ∀ e ∈ es.toList, mapOk sz e)
    (hk : mkeys xs) (s : List UInt8) (ok : Bool) : ∃ u, (Instr.lookup t (.map (some g)) (.string ⟨s.toArray⟩) ok).run P w = .ok u w ∧ R M w X 0 (lkV ag ok z (mget s xs)) u := by
  obtain ⟨k, e, m, hu, hks, ht, hz, ha, hsz, hl, h2, h3⟩ := mp_parts hm
  obtain ⟨zu, hzr, hzR⟩ := zero_R (M := M) (w := w) (X := X) (n := 0) hz ha hl h3
  have hfind := findNow_first s xs es.toList 0 hE.1 (ents_key hE hk)
  cases hi : midx s xs with
  | none =>
    rw [hi] at hfind
    have hget : mget s xs = none := by unfold mget; rw [hi]
    refine ⟨if ok then .tuple #[zu, .bool false] else zu, ?_, ?_⟩
    · simp [Instr.lookup, run_underlying hu, MapKept.run_getObj_map hg, MapKept.run_checkKey hks (k := .string ⟨s.toArray⟩) trivial, MapKept.run_findKey hks hfind, hzr, Result.andThen]
    · rw [hget]
      cases ok with
      | true =>
        refine .tup _ _ _ rfl fun j u hu => ?_
        match j, hu with
        | 0, hu => simp at hu; subst hu; simpa using hzR
        | 1, hu => simp at hu; subst hu; exact .bool _ _
      | false => simpa [lkV] using hzR
  | some j =>
    rw [hi] at hfind
    obtain ⟨hj, x, hx, hkx⟩ := midx_lt s xs j hi
    obtain ⟨e0, he0⟩ : ∃ e0, es.toList[j]? = some e0 := ⟨es.toList[j]'(by rw [← hE.1]; exact hj), List.getElem?_eq_getElem _⟩
    simp only [he0, Option.map_some, Nat.zero_add] at hfind
    have hget : mget s xs = some x.tail := by unfold mget; rw [hi]; simp only [hx, Option.map_some]
    have hc := hE.2 j x e0 hx he0
    have hct : Cs M w X 0 x.tail e0.val.cells.toList := by
      cases x with
      | nil => have := hc.len; simp [ecells] at this
      | cons c cs =>
        refine ⟨by simpa [ecells] using hc.len, fun u hu => hc.one u (by simp only [ecells, List.mem_cons]; exact .inr hu), fun i c' hc' => ?_⟩
        have := hc.rel (i + 1) c' (by simpa using hc')
        simpa [ecells] using this
    have hv := val_R (hok e0 (List.mem_of_getElem? he0)).2 hsz h2 h3 hct
    refine ⟨if ok then .tuple #[e0.val, .bool true] else e0.val, ?_, ?_⟩
    · simp [Instr.lookup, run_underlying hu, MapKept.run_getObj_map hg, MapKept.run_checkKey hks (k := .string ⟨s.toArray⟩) trivial, MapKept.run_findKey hks hfind, Result.andThen]
    · rw [hget]
      cases ok with
      | true =>
        refine .tup _ _ _ rfl fun j u hu => ?_
        match j, hu with
        | 0, hu => simp at hu; subst hu; simpa using hv
        | 1, hu => simp at hu; subst hu; exact .bool _ _
      | false => simpa [lkV] using hv

theorem makeMap_sound [Glo] {o : Oper} {t : TypeId} (ho : o.op = .makeMap t none) {sz : Nat} {ag : Bool} {z : List V} (hm : mpE P t = some (sz, ag, z)) (hd : ∀ d, o.dst = some d → d < st.n) (hR : RelM base Xa w0 st a w M)
    (hK : K ({ st with nx := st.nx + 1, ob := (st.nx, some ⟨t, sz, false, false, []⟩) :: st.ob }.put o.dst (.omap st.nx))) : o.wp P a w (Nx base Xa w0 st.n K) Q := by
  obtain ⟨k, e, m, hu, hks, ht, hz, ha, hsz, hl, h2, h3⟩ := mp_parts hm
  have hsz2 : 2 ≤ sz := by
    cases ag with
    | true => have := h2 rfl; omega
    | false => have := h3 rfl; omega
  have hnew : (w.alloc (.map #[] 0)).heap[w.heap.size]? = some (.map #[] 0) := heap_alloc_new w _
  obtain ⟨M', hM, hn, hR'⟩ := hR.grow (ob1 := st.ob) (fun i o' ho' => ho') none (fun b hx' e => by cases e) (fun i o' ho' g hg e => by cases e) (fun g hg => by cases hg) (World.grownBy_alloc w (.map #[] 0) none) (.map (some w.heap.size)) (fun g hg => by
      simp only [Value.ownB, Option.some.injEq] at hg; exact .inr (by omega)) ⟨t, sz, false, false, []⟩ (fun _ => by simp only; omega) (by simp) []
      ⟨by simp, .inr (.inr (.inl ⟨w.heap.size, #[], 0, rfl, hR.hbase, hnew, rfl, hsz2, by simp, rfl⟩))⟩ (by simp) (fun j u hu => by simp at hu)
  refine wp_of_run (u := .map (some w.heap.size)) (w' := w.alloc (.map #[] 0)) ?_ (Nx.of hK (hR'.put hd (v := .omap st.nx) (.omap _ _ _ (by simp) hn)) rfl)
  unfold execOp
  simp [ho, Instr.makeMap, newObj, Sem.run]

/-- what is known of a map of the call's own -/
theorem omap_ents [Glo] (hR : RelM base Xa w0 st a w M) {id : Nat} {b : Ob} (hb : lookO st.ob id = some b) (hbox : b.box = false) {u : Value} (hu : R M w (Xf base Xa w M st.ob) st.nx (.omap id) u) :
    ∃ g es clk, u = .map (some g) ∧ M id = .map (some g) ∧ base ≤ g ∧ w.heap[g]? = some (.map es clk) ∧ 2 ≤ b.sz ∧ (∀ e ∈ es.toList, mapOk b.sz e) ∧ Ents M w (Xf base Xa w M st.ob) b.xs es.toList ∧ ∀ x ∈ b.xs, x.length = b.sz := by
  cases hu with
  | omap _ _ g hid hv =>
    obtain ⟨_, hok⟩ := hR.obs id b hb
    obtain ⟨vals, hrow, h1, hr⟩ := hok.row
    rw [hv] at hrow
    rcases hrow.2 with ⟨h2, _⟩ | ⟨_, _, _, h2, _⟩ | ⟨g', es, clk, h2, hbg, hg, hn, hsz, hmo, rfl⟩ | ⟨_, _, _, h2, _⟩
    · cases h2
    · cases h2
    · simp only [Value.map.injEq, Option.some.injEq] at h2
      subst h2
      simp only [hbox, Bool.false_eq_true, if_false] at hr
      exact ⟨g, es, clk, rfl, hv, hbg, hg, hsz, hmo, ents_of (by simpa using hn) hok.len hmo h1 hr, hok.len⟩
    · cases h2

theorem lookup_sound [Glo] {o : Oper} {t : TypeId} {m k : Operand} {ok : Bool} (ho : o.op = .lookup t m k ok) {sz : Nat} {ag : Bool} {z : List V} (hm : mpE P t = some (sz, ag, z)) {s : List UInt8} (hk : ev st k = .str s) {xs : List (List V)}
    (hcase : (∃ id b, ev st m = .omap id ∧ lookO st.ob id = some b ∧ b.box = false ∧ b.sz = sz ∧ b.xs = xs) ∨ ev st m = .mp sz xs) (hks : mkeys xs) (hd : ∀ d, o.dst = some d → d < st.n) (hR : RelM base Xa w0 st a w M)
    (hK : K (st.put o.dst (lkV ag ok z (mget s xs)))) : o.wp P a w (Nx base Xa w0 st.n K) Q := by
  have hkv := ev_R hR.rx k
  rw [hk] at hkv
  have hke := R_str hkv
  have hmv := ev_R hR.rx m
  have key : ∃ u, (Instr.lookup t (a.eval m) (.string ⟨s.toArray⟩) ok).run P w = .ok u w ∧ R M w (Xf base Xa w M st.ob) 0 (lkV ag ok z (mget s xs)) u := by
    rcases hcase with ⟨id, b, he, hb, hbox, rfl, rfl⟩ | he
    · rw [he] at hmv
      obtain ⟨g, es, clk, hue, _, _, hg, _, hmo, hE, _⟩ := omap_ents hR hb hbox hmv
      rw [hue]
      exact lookup_R hm hg hE hmo hks s ok
    · rw [he] at hmv
      revert hmv
      generalize a.eval m = u
      intro hmv
      cases hmv with
      | mp _ _ _ g es clk hX hg hn hsz hok hs h1 h => exact lookup_R hm hg (ents_of (by simpa using hn) hs hok h1 h) hok hks s ok
  obtain ⟨u, h1, h2⟩ := key
  refine wp_of_run (u := u) (w' := w) ?_ (Nx.of hK (hR.put hd h2.up) rfl)
  unfold execOp
  simp [ho, hke, h1]

theorem range_sound [Glo] {o : Oper} {t : TypeId} {x : Operand} (ho : o.op = .range t x) {s : List UInt8} (hx : ev st x = .str s) (ht : isStr P t = true) (hd : ∀ d, o.dst = some d → d < st.n) (hR : RelM base Xa w0 st a w M)
    (hK : K ({ st with nx := st.nx + 1, ob := (st.nx, some ⟨0, 2, false, false, [[.str s, .int .i64 0]]⟩) :: st.ob }.put o.dst (.itr st.nx))) : o.wp P a w (Nx base Xa w0 st.n K) Q := by
  have hxv := ev_R hR.rx x
  rw [hx] at hxv
  have hxe := R_str hxv
  have hnew : (w.alloc (.stringIter ⟨s.toArray⟩ 0)).heap[w.heap.size]? = some (.stringIter ⟨s.toArray⟩ 0) := heap_alloc_new w _
  obtain ⟨M', hM, hn, hR'⟩ := hR.grow (ob1 := st.ob) (fun i o' ho' => ho') none (fun b hx' e => by cases e) (fun i o' ho' g hg e => by cases e) (fun g hg => by cases hg) (World.grownBy_alloc w (.stringIter ⟨s.toArray⟩ 0) none) (.pointer (some ⟨w.heap.size, 0, none⟩)) (fun g hg => by
      simp only [Value.ownB, Option.some.injEq] at hg; exact .inr (by omega)) ⟨0, 2, false, false, [[.str s, .int .i64 0]]⟩ (fun _ => by simp) (by simp) [.string ⟨s.toArray⟩, .int .i64 0]
      ⟨by simp, .inr (.inr (.inr ⟨w.heap.size, _, 0, rfl, hR.hbase, hnew, rfl, rfl, rfl⟩))⟩ (by simp [Value.oneCell']) (fun j u hu => by
        match j, hu with
        | 0, hu => simp at hu; subst hu; exact .str _ _
        | 1, hu => simp at hu; subst hu; exact .int _ _ _)
  refine wp_of_run (u := .pointer (some ⟨w.heap.size, 0, none⟩)) (w' := w.alloc (.stringIter ⟨s.toArray⟩ 0)) ?_ (Nx.of hK (hR'.put hd (v := .itr st.nx) (.itr _ _ _ (by simp) hn)) rfl)
  have hr := run_range_string (P := P) w t ⟨s.toArray⟩ (isStr_of ht)
  unfold execOp
  simp [ho, hxe, hr, World.iter]

theorem ents_put [Glo] {xs : List (List V)} {es : Array MapEntry} (hE : Ents M w X xs es.toList) {s : List UInt8} {cs : List V} {v : Value} {clk : Nat} (hc : Cs M w X 0 cs v.cells.toList) :
    ∃ es' clk', es' = (match midx s xs with | some j => es.modify j (fun e => { e with key := .string ⟨s.toArray⟩, val := v }) | none => es.push ⟨.string ⟨s.toArray⟩, v, clk⟩) ∧ clk' = (match midx s xs with | some _ => clk | none => clk + 1) ∧
      Ents M w X (mput s cs xs) es'.toList ∧ (∀ e ∈ es'.toList, e ∈ es.toList ∨ e.val = v) ∧ ∀ x ∈ mput s cs xs, x ∈ xs ∨ x = .str s :: cs := by
  refine ⟨_, _, rfl, rfl, ?_⟩
  have hnew : ∀ b, Cs M w X 0 (.str s :: cs) (ecells ⟨.string ⟨s.toArray⟩, v, b⟩) := fun b => by
    have : Cs M w X 0 ([.str s] ++ cs) ([.string ⟨s.toArray⟩] ++ v.cells.toList) := Cs.app (.one_ rfl (.str _ _)) hc
    simpa [ecells] using this
  unfold mput
  cases hi : midx s xs with
  | none =>
    simp only
    refine ⟨⟨by simp [hE.1], fun i x e hx he => ?_⟩, fun e he => ?_, fun x hx => ?_⟩
    · simp only [Array.toList_push] at he
      by_cases hlt : i < xs.length
      · rw [List.getElem?_append_left hlt] at hx
        rw [List.getElem?_append_left (by rw [← hE.1]; exact hlt)] at he
        exact hE.2 i x e hx he
      · rw [List.getElem?_append_right (by omega)] at hx
        rw [List.getElem?_append_right (by rw [← hE.1]; omega), ← hE.1] at he
        have h0 : i - xs.length = 0 := by
          have := (List.getElem?_eq_some_iff.1 hx).1
          simp at this; omega
        rw [h0] at hx he
        simp at hx he
        subst hx; subst he
        exact hnew _
    · simp only [Array.toList_push, List.mem_append, List.mem_singleton] at he
      rcases he with he | rfl
      · exact .inl he
      · exact .inr rfl
    · simp only [List.mem_append, List.mem_singleton] at hx
      exact hx
  | some j =>
    simp only
    obtain ⟨hj, _⟩ := midx_lt s xs j hi
    refine ⟨⟨by simp [hE.1], fun i x e hx he => ?_⟩, fun e he => ?_, fun x hx => ?_⟩
    · rw [Array.toList_modify, List.getElem?_modify] at he
      by_cases hij : j = i
      · subst hij
        rw [List.getElem?_set_self hj] at hx
        simp only [if_pos, Option.some.injEq] at hx
        obtain ⟨e0, he0, rfl⟩ := Option.map_eq_some_iff.1 he
        subst hx
        simp only [if_true]
        exact hnew _
      · rw [List.getElem?_set_ne hij] at hx
        obtain ⟨e0, he0, rfl⟩ := Option.map_eq_some_iff.1 he
        simp only [hij, if_false]
        exact hE.2 i x e0 hx he0
    · rw [Array.toList_modify] at he
      obtain ⟨i, hi'⟩ := List.getElem?_of_mem he
      rw [List.getElem?_modify] at hi'
      obtain ⟨e0, he0, rfl⟩ := Option.map_eq_some_iff.1 hi'
      by_cases hij : j = i
      · right; simp [hij]
      · left; simp only [hij, if_false]; exact List.mem_of_getElem? he0
    · rcases List.mem_or_eq_of_mem_set hx with h | h
      · exact .inl h
      · exact .inr h

theorem update_sound [Glo] {o : Oper} {t : TypeId} {m k x : Operand} (ho : o.op = .mapUpdate t m k x ∨ o.op = .insert t m k x) {sz : Nat} {ag : Bool} {z : List V} (hm : mpE P t = some (sz, ag, z)) {id : Nat} (hem : ev st m = .omap id) {s : List UInt8} (hk : ev st k = .str s)
    {cs : List V} (hcs : boxC (ev st x) = some cs) {b : Ob} (hb : lookO st.ob id = some b) (hbox : b.box = false) (hfz : b.fz = false) (hbs : b.sz = sz) (hcl : cs.length + 1 = sz) (hag : isSt (ev st x) = ag) (hks : mkeys b.xs) (hno : ownIds cs = [])
    (hd : ∀ d, o.dst = some d → d < st.n) (hR : RelM base Xa w0 st a w M) (hK : K ({ st with ob := (id, some { b with xs := mput s (cs.map (pur1 st.ob)) b.xs }) :: st.ob }.put o.dst .poi)) : o.wp P a w (Nx base Xa w0 st.n K) Q := by
  obtain ⟨kt, e, mm, hu, hkt, ht, hz, ha, hsz, hl, h2, h3⟩ := mp_parts hm
  have hkv := ev_R hR.rx k
  rw [hk] at hkv
  have hke := R_str hkv
  have hmv := ev_R hR.rx m
  rw [hem] at hmv
  obtain ⟨g, es, clk, hue, hMg, hbg, hg, hsz2, hmo, hE, hxl⟩ := omap_ents hR hb hbox hmv
  have hxv := ev_R hR.rx x
  have hc := boxC_R hcs hxv
  have hp := Cs.pur hR hc
  rw [hno] at hp
  have hp' : Cs M w (Xf base Xa w M st.ob) 0 (cs.map (pur1 st.ob)) (a.eval x).cells.toList := hp
  have hval : mapOk sz ⟨.string ⟨s.toArray⟩, a.eval x, 0⟩ := by
    have hcsz : (a.eval x).cells.size = cs.length := by rw [hc.len]; simp
    refine ⟨by simp only; omega, ?_⟩
    simp only
    cases ag with
    | true =>
      right
      have := h2 rfl
      refine ⟨by omega, ?_⟩
      revert hag hxv
      generalize ev st x = vx
      generalize a.eval x = ux
      intro hxv hag
      cases hxv <;> simp [isSt] at hag
      exact ⟨_, rfl⟩
    | false =>
      left
      have := h3 rfl
      refine ⟨by omega, ?_⟩
      revert hag hxv hcs
      generalize ev st x = vx
      generalize a.eval x = ux
      intro hcs hxv hag
      cases hxv <;> first | rfl | (simp [boxC] at hcs; done) | (simp [isSt] at hag; done)
  obtain ⟨es', clk', hes', hclk', hE', hev, hxv'⟩ := ents_put (s := s) (clk := clk) hE hp'
  have hlt : g < w.heap.size := (Array.getElem?_eq_some_iff.1 hg).1
  have hfind := findNow_first s b.xs es.toList 0 hE.1 (ents_key hE hks)
  have hrun : (Instr.mapUpdate t (.map (some g)) (.string ⟨s.toArray⟩) (a.eval x)).run P w = .ok () { w with heap := w.heap.setIfInBounds g (.map es' clk') } := by
    cases hi : midx s b.xs with
    | none =>
      rw [hi] at hfind hes' hclk'
      subst hes' hclk'
      simp [Instr.mapUpdate, run_underlying hu, MapKept.run_getObj_map hg, MapKept.run_checkKey hkt (k := .string ⟨s.toArray⟩) trivial, MapKept.run_findKey hkt hfind, MapKept.run_setObj_map _ hg, Result.andThen]
    | some j =>
      rw [hi] at hfind hes' hclk'
      subst hes' hclk'
      obtain ⟨hj, x0, hx0, hkx⟩ := midx_lt s b.xs j hi
      obtain ⟨e0, he0⟩ : ∃ e0, es.toList[j]? = some e0 := ⟨es.toList[j]'(by rw [← hE.1]; exact hj), List.getElem?_eq_getElem _⟩
      simp only [he0, Option.map_some, Nat.zero_add] at hfind
      have he0' : es[j]? = some e0 := by simpa using he0
      obtain ⟨s', hs', hek⟩ := ents_key hE hks j x0 e0 hx0 he0
      rw [hkx] at hs'
      simp only [Option.some.injEq] at hs'
      subst hs'
      simp [Instr.mapUpdate, run_underlying hu, MapKept.run_getObj_map hg, MapKept.run_checkKey hkt (k := .string ⟨s.toArray⟩) trivial, MapKept.run_findKey hkt hfind, he0', hek, MapKept.run_keyThatStays (d := .string) (k := .string ⟨s.toArray⟩) trivial, MapKept.run_setObj_map _ hg, Result.andThen]
  have hgr : w.grownBy { w with heap := w.heap.setIfInBounds g (.map es' clk') } (M id).ownB := ⟨rfl, rfl, rfl, by simp, fun k _ hk => by
    rw [hMg] at hk
    have : g ≠ k := fun e => hk (by rw [e]; rfl)
    simp [this]⟩
  have hX : ∀ q, Xf base Xa w M st.ob q → Xf base Xa { w with heap := w.heap.setIfInBounds g (.map es' clk') } M ((id, some { b with xs := mput s (cs.map (pur1 st.ob)) b.xs }) :: st.ob) q := fun q hx =>
    ⟨hx.1.imp (fun x => x) fun h => ⟨h.1, by simpa using h.2⟩, fun i o1 ho1 hf1 => by
      simp only [lookO] at ho1
      split at ho1
      · rename_i e; subst e; exact hx.2 _ b hb hfz
      · exact hx.2 i o1 ho1 hf1⟩
  have hw : ∀ q, Xf base Xa w M st.ob q → ({ w with heap := w.heap.setIfInBounds g (.map es' clk') } : World).heap[q]? = w.heap[q]? := fun q hx => hgr.block q (hx.lt hR.xa hR.hbase) (fun e => hx.2 id b hb hfz e.symm)
  have hall := ents_flat hE'
  have hok' : ∀ e ∈ es'.toList, mapOk sz e := fun e he => by
    rcases hev e he with h | h
    · rw [← hbs]; exact hmo e h
    · have := hval
      unfold mapOk at this ⊢
      rw [h]; exact this
  have hlen' : ∀ y ∈ mput s (cs.map (pur1 st.ob)) b.xs, y.length = b.sz := fun y hy => by
    rcases hxv' y hy with h | rfl
    · exact hxl y h
    · simp; omega
  have hM := hR.modify (o' := { b with xs := mput s (cs.map (pur1 st.ob)) b.xs }) hb hfz hgr ⟨fun _ => by simp only; omega, hlen', mapVals es'.toList, ⟨by
    rw [← hall.len]; exact flat_len _ hlen', .inr (.inr (.inl ⟨g, es', clk', hMg, hbg, by simp [hlt], by
      have := hE'.1; simpa using this, by simp only; omega, by simp only [hbs]; exact hok', rfl⟩))⟩, hall.one, fun j u hu => by
    have q := (hall.rel j u hu).mono (M' := M) (n' := 0) (Nat.le_refl _) (fun _ h => absurd h (by omega)) hX hw
    have e0 : (if b.box = true then st.nx else 0) = 0 := by rw [hbox]; rfl
    show R M _ _ (if b.box = true then st.nx else 0) u _
    rw [e0]; exact q⟩
  refine wp_of_skip (w' := { w with heap := w.heap.setIfInBounds g (.map es' clk') }) ?_ (Nx.of hK (hM.put hd (.poi _ _)) rfl)
  unfold execOp
  rcases ho with ho | ho <;> simp [ho, hue, hke, hrun]

theorem next_sound [Glo] {o : Oper} {it : Operand} (ho : o.op = .next it true) {id : Nat} (he : ev st it = .itr id) {b : Ob} (hb : lookO st.ob id = some b) {s : List UInt8} {pos : Int} (hx : b.xs = [[.str s, .int .i64 pos]]) (hbox : b.box = false) (hfz : b.fz = false) (hbs : b.sz = 2) (hpos : 0 ≤ pos)
    (hd : ∀ d, o.dst = some d → d < st.n) (hR : RelM base Xa w0 st a w M) (hK : K ({ st with ob := (id, some { b with xs := [[.str s, .int .i64 (nxP s pos.toNat)]] }) :: st.ob }.put o.dst (nxV s pos.toNat))) : o.wp P a w (Nx base Xa w0 st.n K) Q := by
  have hiv := ev_R hR.rx it
  rw [he] at hiv
  obtain ⟨_, hok⟩ := hR.obs id b hb
  obtain ⟨vals, hrow, h1, hr⟩ := hok.row
  revert hiv
  generalize hue : a.eval it = u
  intro hiv
  cases hiv with
  | itr _ _ g hid hv =>
    rw [hv] at hrow
    rcases hrow.2 with ⟨h2, _⟩ | ⟨_, _, _, h2, _⟩ | ⟨_, _, _, h2, _⟩ | ⟨g', s', pos', h2, hbg, hg, hn, _, rfl⟩
    · cases h2
    · cases h2
    · cases h2
    · simp only [Value.pointer.injEq, Option.some.injEq, Addr.mk.injEq, and_true] at h2
      subst h2
      have e1 := hr 0 (.str s) (by rw [hx]; rfl)
      have e2 := hr 1 (.int .i64 pos) (by rw [hx]; rfl)
      have e1 := R_str e1
      have e2 := R_int e2
      simp only [List.getD_cons_zero, Value.string.injEq] at e1
      simp only [List.getD_cons_succ, List.getD_cons_zero, Value.int.injEq, true_and] at e2
      subst e1
      have hp : pos.toNat = pos' := by omega
      rw [hp] at hK
      have hlt : g < w.heap.size := (Array.getElem?_eq_some_iff.1 hg).1
      have hss : (⟨s.toArray⟩ : ByteArray).size = s.length := by simp [ByteArray.size]
      have fin : ∀ w', w.grownBy w' (M id).ownB → w'.heap[g]? = some (.stringIter ⟨s.toArray⟩ (nxP s pos')) → RelM base Xa w0 { st with ob := (id, some { b with xs := [[.str s, .int .i64 (nxP s pos')]] }) :: st.ob } a w' M := fun w' hgr hg' => by
        refine hR.modify (o' := { b with xs := [[.str s, .int .i64 (nxP s pos')]] }) hb hfz hgr ⟨fun _ => by simp only; omega, by simp [hbs], [.string ⟨s.toArray⟩, .int .i64 (nxP s pos')], ⟨by simp [hbs], .inr (.inr (.inr ⟨g, _, _, hv, hbg, hg', rfl, hbs, rfl⟩))⟩, by simp [Value.oneCell'], fun j u hu => ?_⟩
        match j, hu with
        | 0, hu => simp at hu; subst hu; exact .str _ _
        | 1, hu => simp at hu; subst hu; exact .int _ _ _
      by_cases hlt' : pos' < s.length
      · have hrn := Lib.run_next_any_at (P := P) w g ⟨s.toArray⟩ pos' o.type hg (by rw [hss]; exact hlt')
        have hP : nxP s pos' = pos' + (Utf8.decode ⟨s.toArray⟩ pos').2 := by unfold nxP; rw [if_pos hlt']; rfl
        have hV : nxV s pos' = .tup [.bool true, .int .i64 pos', .int .i32 (Utf8.decode ⟨s.toArray⟩ pos').1] := by unfold nxV; rw [if_pos hlt']; rfl
        have hM := fin (w.iterAt g ⟨s.toArray⟩ (pos' + (Utf8.decode ⟨s.toArray⟩ pos').2)) ⟨rfl, rfl, rfl, by simp [World.iterAt], fun k _ hk => by
          rw [hv] at hk
          have : g ≠ k := fun e => hk (by rw [e]; rfl)
          simp [World.iterAt, this]⟩ (by rw [hP]; exact Lib.iterAt_heap w g _ pos' _ hg)
        refine wp_of_run (u := .tuple #[.bool true, .int .i64 pos', .int .i32 (Utf8.decode ⟨s.toArray⟩ pos').1]) (w' := w.iterAt g ⟨s.toArray⟩ (pos' + (Utf8.decode ⟨s.toArray⟩ pos').2)) ?_ (Nx.of hK (hM.put hd ?_) rfl)
        · unfold execOp
          simp [ho, hue, hrn]
        · rw [hV]
          refine .tup _ _ _ rfl fun j u hu => ?_
          match j, hu with
          | 0, hu => simp at hu; subst hu; exact .bool _ _
          | 1, hu => simp at hu; subst hu; exact .int _ _ _
          | 2, hu => simp at hu; subst hu; exact .int _ _ _
      · have hrn := Lib.run_next_end_at (P := P) w g ⟨s.toArray⟩ pos' o.type hg (by rw [hss]; exact hlt')
        have hP : nxP s pos' = pos' := by unfold nxP; rw [if_neg hlt']
        have hV : nxV s pos' = .tup [.bool false] := by unfold nxV; rw [if_neg hlt']
        have hM := fin w (World.grownBy.refl w _) (by rw [hP]; exact hg)
        refine wp_of_run (u := .tuple #[.bool false]) (w' := w) ?_ (Nx.of hK (hM.put hd ?_) rfl)
        · unfold execOp
          simp [ho, hue, hrn]
        · rw [hV]
          refine .tup _ _ _ rfl fun j u hu => ?_
          match j, hu with
          | 0, hu => simp at hu; subst hu; exact .bool _ _

theorem makeSlice_sound [Glo] {o : Oper} {t : TypeId} {l c : Operand} (ho : o.op = .makeSlice t l c) {e sz by_ : Nat} (hs : slE P t = some (e, sz, by_)) {kl kc : IntKind} {N : Int} (hl : ev st l = .int kl N) (hc : ev st c = .int kc N) {z : List V} (hz : zeroE P e = some z)
    (h0 : 0 ≤ N) (h1 : N ≤ maxLen) (h2 : by_ * N.toNat ≤ 281474976710656) (h3 : N.toNat * sz ≤ 16777216) (hd : ∀ d, o.dst = some d → d < st.n) (hR : RelM base Xa w0 st a w M)
    (hK : K ({ st with nx := st.nx + 1, ob := (st.nx, some ⟨e, sz, false, false, List.replicate N.toNat z⟩) :: st.ob }.put o.dst (.own st.nx))) : o.wp P a w (Nx base Xa w0 st.n K) Q := by
  obtain ⟨i, zv, hu, hi, hiz, hzsz, hisz, hby, hpos⟩ := sl_parts hs
  obtain ⟨i', zv', hi', hiz', hcs⟩ := zero_Cs (P := P) (M := M) (w := w) (X := Xf base Xa w M st.ob) (n := 0) hz
  rw [hi] at hi'
  simp only [Option.some.injEq] at hi'
  subst hi'
  rw [hiz] at hiz'
  simp only [Option.some.injEq] at hiz'
  subst hiz'
  have hle := R_int (hl ▸ ev_R hR.rx l)
  have hce := R_int (hc ▸ ev_R hR.rx c)
  obtain ⟨n, rfl⟩ : ∃ n : Nat, N = n := ⟨N.toNat, by omega⟩
  simp only [Int.toNat_natCast] at h2 h3 hK
  obtain ⟨w', hrun, hown, hgr⟩ := run_makeSlice_full (P := P) (w := w) base t e i zv sz hu hi hiz hisz kl kc n h3 (by rw [hby]; exact h2) (by omega) hR.hbase
  have hzl : zv.cells.toList.length = sz := by simpa using hzsz
  have hmc : (madeCells zv.cells (n * sz)).toList = (List.replicate n zv.cells.toList).flatten := by
    have e1 := rep_flat zv.cells.toList n
    rw [← e1, hzl]
    simp only [madeCells, Array.toList_map, Array.toList_range]
    apply List.map_congr_left
    intro j hj
    have : j % sz < zv.cells.size := by rw [hzsz]; exact Nat.mod_lt _ hpos
    rw [hzsz, List.getD_eq_getElem?_getD, Array.getElem?_toList, Array.getElem?_eq_getElem this, getElem!_pos zv.cells (j % sz) this]
    rfl
  have hrep := hcs.rep n
  have hzlen : z.length = sz := by rw [hcs.len]; exact hzl
  obtain ⟨M', hM, hn, hR'⟩ := hR.grow (ob1 := st.ob) (fun i o' ho' => ho') none (fun b hx' e => by cases e) (fun i o' ho' g hg e => by cases e) (fun g hg => by cases hg) hgr (.slice (some ⟨w.heap.size, 0, none⟩) n n) (fun g hg => by
      simp only [Value.ownB, Option.some.injEq] at hg; exact .inr (by omega)) ⟨e, sz, false, false, List.replicate n z⟩ (fun _ => hpos) (fun x hx => by rw [List.eq_of_mem_replicate hx]; exact hzlen) (madeCells zv.cells (n * sz)).toList
      (by simpa using World.ownsG.of hown) (by rw [hmc]; exact hrep.one) (fun j u hu => by
        rw [hmc]; exact hrep.rel j u hu)
  refine wp_of_run (u := .slice (some ⟨w.heap.size, 0, none⟩) n n) (w' := w') ?_ (Nx.of hK (hR'.put hd (v := .own st.nx) (.own _ _ _ _ _ (by simp) hn)) rfl)
  unfold execOp
  simp [ho, hle, hce, hrun]
end
end Go.Ab
