/- Abstract states for walks, part 0: rows of the call's own, whose mark (if any) lies behind their cells. -/
import Derived.WalkKit
import Derived.Below
import Derived.Laws.OwnMore
import Derived.Maps.AppendAt
import Derived.Lib.ConvBytes
namespace Go

/-- A row of cells none of which is frozen. -/
def World.rowAt (w : World) (g : Nat) (cur : Array Value) (e : TypeId) : Prop := ∃ fz : Nat × Nat, w.heap[g]? = some (.cells cur e fz) ∧ (fz.2 = 0 ∨ cur.size ≤ fz.1)
/-- the block of an object of the call's own: a row's, a map's, an iterator's -/
def Value.ownB : Value → Option Nat
  | .slice (some a) _ _ => some a.block
  | .map (some g) => some g
  | .pointer (some a) => some a.block
  | _ => none
theorem Value.ownB_of {v : Value} {g : Nat} (h : v.ownBlock = some g) : v.ownB = some g := by
  unfold Value.ownBlock at h
  split at h
  · simpa [Value.ownB] using h
  · cases h
/-- a map's entries as a row of cells: each key, its value's cells behind it -/
def mapVals (es : List MapEntry) : List Value := es.flatMap fun e => e.key :: e.val.cells.toList
def mapOk (size : Nat) (e : MapEntry) : Prop := e.val.cells.size + 1 = size ∧ ((size = 2 ∧ e.val.cells = #[e.val]) ∨ (2 < size ∧ ∃ arr, e.val = .agg arr))
/-- the other objects: a map; an iterator over a string -/
def World.odd (w : World) (base : Nat) (size : Nat) (v : Value) (n : Nat) (xs : List Value) : Prop :=
  (∃ g es clk, v = .map (some g) ∧ base ≤ g ∧ w.heap[g]? = some (.map es clk) ∧ n = es.size ∧ 2 ≤ size ∧ (∀ e ∈ es.toList, mapOk size e) ∧ xs = mapVals es.toList) ∨
  ∃ g s pos, v = .pointer (some ⟨g, 0, none⟩) ∧ base ≤ g ∧ w.heap[g]? = some (.stringIter s pos) ∧ n = 1 ∧ size = 2 ∧ xs = [.string s, .int .i64 pos]
/-- A slice in a row of the call's own, as the kit's 'ownsRow'; the row may bear the mark of a conversion. Or another object. -/
def World.ownsG (w : World) (base : Nat) (e : TypeId) (size : Nat) (v : Value) (n : Nat) (xs : List Value) : Prop :=
  xs.length = n * size ∧
  ((v = .slice none 0 0 ∧ n = 0) ∨
   (∃ g cap cur, v = .slice (some ⟨g, 0, none⟩) n cap ∧ base ≤ g ∧ w.rowAt g cur e ∧ n ≤ cap ∧ cap ≤ maxLen ∧ cur.size = cap * size ∧ cur.toList.take (n * size) = xs) ∨
   w.odd base size v n xs)

theorem World.rowAt.plain {w : World} {g : Nat} {cur : Array Value} {e : TypeId} (h : w.heap[g]? = some (.cells cur e (0, 0))) : w.rowAt g cur e := ⟨_, h, .inl rfl⟩
theorem World.rowAt.congr {w w' : World} {g : Nat} {cur : Array Value} {e : TypeId} (h : w.rowAt g cur e) (hw : w'.heap[g]? = w.heap[g]?) : w'.rowAt g cur e := by
  obtain ⟨fz, h1, h2⟩ := h
  exact ⟨fz, hw.trans h1, h2⟩
theorem World.rowAt.lt {w : World} {g : Nat} {cur : Array Value} {e : TypeId} (h : w.rowAt g cur e) : g < w.heap.size := by
  obtain ⟨fz, h1, _⟩ := h
  exact (Array.getElem?_eq_some_iff.1 h1).1
theorem World.rowAt.cell {w : World} {g : Nat} {cur : Array Value} {e : TypeId} (h : w.rowAt g cur e) (j : Nat) : w.cell? ⟨g, j, none⟩ = cur[j]? := by
  obtain ⟨fz, h1, _⟩ := h
  exact cell_of_row w g j cur e fz h1
theorem World.rowAt.frozen {w : World} {g : Nat} {cur : Array Value} {e : TypeId} (h : w.rowAt g cur e) (j : Nat) (hj : j < cur.size) : w.frozen? ⟨g, j, none⟩ = false := by
  obtain ⟨⟨lo, hi⟩, h1, h2⟩ := h
  simp only [World.frozen?, h1]
  rcases h2 with h2 | h2
  · simp only at h2; subst h2; simp
  · simp only at h2
    have : ¬ lo ≤ j := by omega
    simp [this]
theorem World.rowAt.setRow {w : World} {g : Nat} {cur cs : Array Value} {e : TypeId} (h : w.rowAt g cur e) (hs : cs.size = cur.size) : (w.setRow g cs).rowAt g cs e := by
  obtain ⟨fz, h1, h2⟩ := h
  exact ⟨fz, setRow_heap w g cur cs e fz h1, by rw [hs]; exact h2⟩
theorem World.rowAt.setCell {w : World} {g j : Nat} {cur : Array Value} {e : TypeId} (h : w.rowAt g cur e) (u : Value) : (w.setCell ⟨g, j, none⟩ u).rowAt g (cur.setIfInBounds j u) e := by
  obtain ⟨fz, h1, h2⟩ := h
  rw [setCell_eq_setRow w g j cur e fz u h1]
  exact ⟨fz, setRow_heap w g cur _ e fz h1, by simpa using h2⟩

section
variable {w : World} {base : Nat} {e : TypeId} {size : Nat} {v : Value} {n : Nat} {xs : List Value}
theorem World.odd.noSl {A : Option Addr} {l c : Nat} (h : w.odd base size (.slice A l c) n xs) : False := by
  rcases h with ⟨g, es, clk, h, _⟩ | ⟨g, s, pos, h, _⟩ <;> cases h
theorem World.odd.noBlk (h : w.odd base size v n xs) : v.ownBlock = none := by
  rcases h with ⟨g, es, clk, rfl, _⟩ | ⟨g, s, pos, rfl, _⟩ <;> rfl
theorem World.odd.lt (h : w.odd base size v n xs) : ∀ k, v.ownB = some k → base ≤ k ∧ k < w.heap.size := by
  intro k hk
  rcases h with ⟨g, es, clk, rfl, hb, hg, _⟩ | ⟨g, s, pos, rfl, hb, hg, _⟩ <;> (simp [Value.ownB] at hk; subst hk; exact ⟨hb, (Array.getElem?_eq_some_iff.1 hg).1⟩)
theorem World.odd.congr {w' : World} {base' : Nat} (h : w.odd base size v n xs) (hw : ∀ g, v.ownB = some g → w'.heap[g]? = w.heap[g]?) (hb : ∀ g, v.ownB = some g → base ≤ g → base' ≤ g) : w'.odd base' size v n xs := by
  rcases h with ⟨g, es, clk, rfl, hbg, hg, rest⟩ | ⟨g, s, pos, rfl, hbg, hg, rest⟩
  · exact .inl ⟨g, es, clk, rfl, hb g rfl hbg, (hw g rfl).trans hg, rest⟩
  · exact .inr ⟨g, s, pos, rfl, hb g rfl hbg, (hw g rfl).trans hg, rest⟩
theorem World.ownsG.sl (h : w.ownsG base e size v n xs) (hs : ∃ A l c, v = .slice A l c) : (v = .slice none 0 0 ∧ n = 0) ∨
   ∃ g cap cur, v = .slice (some ⟨g, 0, none⟩) n cap ∧ base ≤ g ∧ w.rowAt g cur e ∧ n ≤ cap ∧ cap ≤ maxLen ∧ cur.size = cap * size ∧ cur.toList.take (n * size) = xs := by
  obtain ⟨A, l, c, rfl⟩ := hs
  rcases h.2 with h | h | h
  · exact .inl h
  · exact .inr h
  · exact h.noSl.elim
theorem sl_of_blk {v : Value} {g : Nat} (h : v.ownBlock = some g) : ∃ A l c, v = .slice A l c := by
  unfold Value.ownBlock at h
  split at h
  · exact ⟨_, _, _, rfl⟩
  · cases h
theorem ownB_sl {v : Value} (h : ∃ A l c, v = .slice A l c) : v.ownB = v.ownBlock := by
  obtain ⟨A, l, c, rfl⟩ := h
  cases A <;> rfl
theorem World.ownsG_nil (w : World) (base : Nat) (e : TypeId) (size : Nat) : w.ownsG base e size (.slice none 0 0) 0 [] := ⟨by simp, .inl ⟨rfl, rfl⟩⟩
theorem World.ownsG.of (h : w.ownsRow base e size v n xs) : w.ownsG base e size v n xs := by
  refine ⟨h.1, ?_⟩
  rcases h.2 with h2 | ⟨g, cap, cur, h1, hb, hg, rest⟩
  · exact .inl h2
  · exact .inr (.inl ⟨g, cap, cur, h1, hb, .plain hg, rest⟩)
theorem World.ownsG.lt (h : w.ownsG base e size v n xs) : ∀ k, v.ownB = some k → base ≤ k ∧ k < w.heap.size := by
  intro k hk
  rcases h.2 with ⟨rfl, _⟩ | ⟨g, cap, cur, rfl, hb, hg, _⟩ | hodd
  · simp [Value.ownB] at hk
  · simp [Value.ownB] at hk
    subst hk
    exact ⟨hb, hg.lt⟩
  · exact hodd.lt k hk
theorem World.ownsG.cells (h : w.ownsG base e size v n xs) {g : Nat} (hg : v.ownBlock = some g) : ∀ j u, xs[j]? = some u → w.cell? ((⟨g, 0, none⟩ : Addr).add j) = some u := by
  intro j u hu
  rcases h.2 with ⟨rfl, _⟩ | ⟨g', cap, cur, rfl, _, hgg, _, _, _, htake⟩ | hodd
  rotate_left 2
  · rw [hodd.noBlk] at hg; cases hg
  · simp [Value.ownBlock] at hg
  · simp [Value.ownBlock] at hg
    subst hg
    have hadd : (⟨g', 0, none⟩ : Addr).add j = ⟨g', j, none⟩ := by unfold Addr.add; split <;> simp_all
    rw [hadd, hgg.cell]
    rw [← htake, List.getElem?_take] at hu
    split at hu
    · simpa using hu
    · cases hu
variable {g cap : Nat}
theorem World.ownsG.row (h : w.ownsG base e size (.slice (some ⟨g, 0, none⟩) n cap) n xs) : ∃ cur, base ≤ g ∧ w.rowAt g cur e ∧ n ≤ cap ∧ cap ≤ maxLen ∧ cur.size = cap * size ∧ cur.toList.take (n * size) = xs := by
  rcases h.2 with ⟨h', _⟩ | ⟨g', cap', cur, h', rest⟩ | hodd
  rotate_left 2
  · exact hodd.noSl.elim
  · simp at h'
  · simp only [Value.slice.injEq, Option.some.injEq, Addr.mk.injEq, and_true, true_and] at h'
    obtain ⟨rfl, rfl⟩ := h'
    exact ⟨cur, rest⟩
theorem World.ownsG.cellAt (h : w.ownsG base e size (.slice (some ⟨g, 0, none⟩) n cap) n xs) (j : Nat) (hj : j < n * size) : w.cell? ⟨g, j, none⟩ = xs[j]? := by
  obtain ⟨cur, _, hg, _, _, _, htake⟩ := h.row
  rw [hg.cell, ← htake, List.getElem?_take, if_pos hj]
  simp
theorem World.ownsG.frozenAt (h : w.ownsG base e size (.slice (some ⟨g, 0, none⟩) n cap) n xs) (j : Nat) (hj : j < n * size) : w.frozen? ⟨g, j, none⟩ = false := by
  obtain ⟨cur, _, hg, hnc, _, hcs, htake⟩ := h.row
  exact hg.frozen j (by rw [hcs]; exact Nat.lt_of_lt_of_le hj (Nat.mul_le_mul_right _ hnc))
theorem World.ownsG.stored (h : w.ownsG base e size (.slice (some ⟨g, 0, none⟩) n cap) n xs) (j : Nat) (u : Value) :
    (w.setCell ⟨g, j, none⟩ u).ownsG base e size (.slice (some ⟨g, 0, none⟩) n cap) n (xs.set j u) ∧ w.grownBy (w.setCell ⟨g, j, none⟩ u) (some g) := by
  obtain ⟨cur, hb, hg, hnc, hcm, hcs, htake⟩ := h.row
  refine ⟨⟨by simpa using h.1, .inr (.inl ⟨g, cap, cur.setIfInBounds j u, rfl, hb, hg.setCell u, hnc, hcm, by simpa using hcs, ?_⟩)⟩,
    ⟨rfl, rfl, rfl, by simp, fun k _ hk => heap_setCell_other w ⟨g, j, none⟩ k u (fun e => hk (by simp [e]))⟩⟩
  rw [Array.toList_setIfInBounds, ← htake, List.take_set]
end

section
variable {P : Program}
theorem run_storeCells_atG (g o : Nat) (t : TypeId) : ∀ (vs : List Value) (i : Nat) (cur : Array Value) (w : World), w.rowAt g cur t → o + i + vs.length ≤ cur.size → (∀ v ∈ vs, v.oneCell' = true) →
    (storeCells ⟨g, o, none⟩ vs i).run P w = .ok () (w.setRow g (cur.toList.take (o + i) ++ vs ++ cur.toList.drop (o + i + vs.length)).toArray)
  | [], i, cur, w, hg, _, _ => by
    obtain ⟨fz, h1, _⟩ := hg
    simp only [storeCells, List.append_nil, List.length_nil, Nat.add_zero, List.take_append_drop, Array.toArray_toList]
    rw [setRow_self w g cur t fz h1]
    rfl
  | v :: rest, i, cur, w, hg, hl, h1 => by
    have hlt : o + i < cur.size := by simp at hl; omega
    have e : (⟨g, o, none⟩ : Addr).add i = ⟨g, o + i, none⟩ := by unfold Addr.add; split <;> simp_all
    have hc : w.cell? ⟨g, o + i, none⟩ = some cur[o + i] := by rw [hg.cell, Array.getElem?_eq_getElem hlt]
    have hf := hg.frozen (o + i) hlt
    have ih := run_storeCells_atG g o t rest (i + 1) (cur.setIfInBounds (o + i) v) (w.setCell ⟨g, o + i, none⟩ v) (hg.setCell v) (by simp at hl ⊢; omega) (fun u hu => h1 u (List.mem_cons_of_mem _ hu))
    simp only [storeCells, Sem.run_bind, e, run_store P w _ v .plain (h1 v (List.mem_cons_self ..)), hc, hf]
    simp only [Result.andThen, Bool.false_eq_true, if_false]
    rw [ih]
    obtain ⟨fz, hh, _⟩ := hg
    rw [setCell_eq_setRow w g (o + i) cur t fz v hh, setRow_setRow]
    congr 2
    apply congrArg List.toArray
    apply List.ext_getElem?
    intro j
    simp only [Array.toList_setIfInBounds, List.getElem?_append, List.length_append, List.length_take, List.length_set, Array.length_toList, List.length_cons, List.getElem?_take, List.getElem?_drop, List.getElem?_set]
    rcases Nat.lt_trichotomy j (o + i) with hj | hj | hj
    · simp (disch := omega) [hj]
      grind
    · subst hj
      grind
    · grind
theorem run_append_roomG (w : World) (t ty e : TypeId) (i : TypeInfo) (ht : P.underlying t = some (.slice e)) (hi : P.info? e = some i)
    (g sLen sCap : Nat) (cur : Array Value) (hg : w.rowAt g cur e)
    (a : Addr) (m c : Nat) (news : List Value) (hl : news.length = m * i.size) (hnews : ∀ j u, news[j]? = some u → w.cell? (a.add j) = some u) (h1 : ∀ u ∈ news, u.oneCell' = true)
    (hroom : sLen + m ≤ sCap) (hfit : sLen * i.size + news.length ≤ cur.size) :
    (Builtin.append_ #[t, t] ty #[.slice (some ⟨g, 0, none⟩) sLen sCap, .slice (some a) m c]).run P w =
      .ok (.slice (some ⟨g, 0, none⟩) (sLen + m) sCap) (w.setRow g (cur.toList.take (sLen * i.size) ++ news ++ cur.toList.drop (sLen * i.size + news.length)).toArray) := by
  have hf := run_firstCells_some (P := P) w i.size m a m c news hl hnews
  have hst := run_storeCells_atG (P := P) g (sLen * i.size) e news 0 cur w hg (by simpa using hfit) h1
  simp only [Nat.add_zero] at hst
  simp [Builtin.append_, run_underlying ht, sizeOf, typeInfo, hi, Builtin.lenOf, hroom, hf, Addr.add_lit, hst]

/-- append onto a row of the call's own. -/
theorem run_append_G (w : World) (base : Nat) (t ty e : TypeId) (i : TypeInfo) (z : Value) (size bytes : Nat) (ht : P.underlying t = some (.slice e)) (hi : P.info? e = some i) (hz : i.zero = some z)
    (hsize : i.size = size) (hby : i.bytes = bytes) (hzs : z.cells.size = size) (hsz : 0 < size)
    (v : Value) (n : Nat) (xs : List Value) (hown : w.ownsG base e size v n xs) (hslv : ∃ A l c, v = .slice A l c)
    (a : Addr) (m c : Nat) (news : List Value) (hl : news.length = m * size) (hnews : ∀ j u, news[j]? = some u → w.cell? (a.add j) = some u) (h1 : ∀ u ∈ news, u.oneCell' = true)
    (h63 : n + m ≤ maxLen) (hbytes : (n + m) * bytes ≤ 140737488355328) (hbase : base ≤ w.heap.size) :
    ∃ v' w', (Builtin.append_ #[t, t] ty #[v, .slice (some a) m c]).run P w = .ok v' w' ∧ w'.ownsG base e size v' (n + m) (xs ++ news) ∧ w.grownBy w' v.ownBlock ∧
      (v'.ownBlock = v.ownBlock ∨ v'.ownBlock = some w.heap.size) ∧ ∃ A l c, v' = .slice A l c := by
  subst hsize
  subst hby
  have hlen : (xs ++ news).length = (n + m) * i.size := by rw [List.length_append, hown.1, hl, Nat.add_mul]
  rcases hown.2 with ⟨rfl, rfl⟩ | ⟨g, cap, cur, rfl, hbg, hg, hnc, hcm, hcs, htake⟩ | hodd
  rotate_left 2
  · obtain ⟨A, l, c, rfl⟩ := hslv
    exact hodd.noSl.elim
  · have hx : xs = [] := List.eq_nil_of_length_eq_zero (by simpa using hown.1)
    subst hx
    obtain ⟨v', w', h1', h2', h3', _, h5'⟩ := run_append_own_at (P := P) w base t ty e i z i.size i.bytes ht hi hz rfl rfl hzs hsz (.slice none 0 0) 0 [] (World.ownsRow_nil w base e i.size) a m c news hl hnews h1 h63 hbytes hbase
    refine ⟨v', w', h1', .of h2', h3', h5', ?_⟩
    rcases h2'.2 with ⟨h, _⟩ | ⟨g, cap, cur, h, _⟩ <;> exact ⟨_, _, _, h⟩
  · by_cases hroom : n + m ≤ cap
    · have hfit : n * i.size + news.length ≤ cur.size := by rw [hl, hcs, ← Nat.add_mul]; exact Nat.mul_le_mul_right _ hroom
      have hr := run_append_roomG (P := P) w t ty e i ht hi g n cap cur hg a m c news hl hnews h1 hroom hfit
      have hsz' : (cur.toList.take (n * i.size) ++ news ++ cur.toList.drop (n * i.size + news.length)).toArray.size = cur.size := by
        simp only [List.size_toArray, List.length_append, List.length_take, List.length_drop, Array.length_toList]
        omega
      refine ⟨_, _, hr, ⟨hlen, .inr (.inl ⟨g, cap, _, rfl, hbg, hg.setRow hsz', hroom, hcm, by rw [hsz', hcs], ?_⟩)⟩, ⟨rfl, rfl, rfl, by simp, fun k _ hk => setRow_other w g k _ (fun e => hk (by simp [Value.ownBlock, e]))⟩, Or.inl rfl, ⟨_, _, _, rfl⟩⟩
      rw [htake, ← hlen]
      exact List.take_left
    · have holds : ∀ j u, xs[j]? = some u → w.cell? ((⟨g, 0, none⟩ : Addr).add j) = some u := hown.cells (g := g) rfl
      have hr := run_append_grow (P := P) w t ty e i z ht hi hz ⟨g, 0, none⟩ n cap xs hown.1 holds a m c news hl hnews (by omega) (by simp only [maxLen] at h63; omega) (growslice_fits (by omega) hbytes)
      have hge := grownCap_ge w (n + m) cap e
      have hcm' : grownCap w (n + m) cap e ≤ maxLen := grownCap_le_maxLen w (n + m) cap e h63
      refine ⟨_, _, hr, ⟨hlen, .inr (.inl ⟨w.heap.size, _, _, rfl, hbase, .plain (heap_alloc_new w.drew _), hge, hcm', ?_, ?_⟩)⟩, ⟨rfl, rfl, rfl, by simp, fun k hk _ => (World.grownBy_alloc w.drew _ none).block k hk (by simp)⟩, Or.inr rfl, ⟨_, _, _, rfl⟩⟩
      · simp only [Array.size_append, List.size_toArray, size_zeroCells, hzs, hown.1, hl, ← Nat.add_mul]
        congr 1
        omega
      · simp only [Array.toList_append, List.append_assoc]
        rw [← List.append_assoc, ← hlen]
        exact List.take_left

/-- '[]byte(s)': a row of the call's own. -/
theorem run_bytes_G (w : World) (base : Nat) (src dst e : TypeId) (s : List UInt8) {u : TypeDesc} (hs : P.underlying src = some u) (hd : P.underlying dst = some (.slice e)) (he : P.underlying e = some (.int .u8))
    (hl : s.length ≤ maxLen) (hbase : base ≤ w.heap.size) :
    ∃ cap w', (convert src dst (.string ⟨s.toArray⟩)).run P w = .ok (.slice (some ⟨w.heap.size, 0, none⟩) s.length cap) w' ∧
      w'.ownsG base e 1 (.slice (some ⟨w.heap.size, 0, none⟩) s.length cap) s.length (s.map fun b => Value.int .u8 b.toNat) ∧ w.grownBy w' none := by
  have hr := Lib.run_convert_string_bytes (P := P) w src dst e ⟨s.toArray⟩ hs hd he
  have hsz : (⟨s.toArray⟩ : ByteArray).size = s.length := by simp [ByteArray.size]
  rw [hsz] at hr
  have hge := grownCap_ge w s.length 0 e
  have hcm := grownCap_le_maxLen w s.length 0 e hl
  refine ⟨_, _, hr, ⟨by simp, .inr (.inl ⟨w.heap.size, _, _, rfl, hbase, ⟨_, Lib.bytesWorld_at_new w e ⟨s.toArray⟩, .inr (Nat.le_refl _)⟩, hge, hcm, ?_, ?_⟩)⟩, ?_⟩
  · simp [Lib.bytesCells, hsz]; omega
  · simp [Lib.bytesCells]
  · exact ⟨by simp [Lib.bytesWorld, World.freeze, World.alloc, World.drew, -World.alloc_eq, -World.drew_eq], by simp [Lib.bytesWorld, World.freeze, World.alloc, World.drew, -World.alloc_eq, -World.drew_eq], by simp [Lib.bytesWorld, World.freeze, World.alloc, World.drew, -World.alloc_eq, -World.drew_eq], by rw [Lib.bytesWorld_size]; omega, fun k hk _ => Lib.bytesWorld_at_old w e _ k hk⟩
end
end Go
