/- Abstract states for walks, part 11: every operation does what part 10 says: freezing, new rows. -/
import Derived.Test.YtjlbpkokdlggiaaDoorAbJ
namespace Go.Ab
open Go.RowKit

theorem lookO_fz1 (ob : List (Nat × Option Ob)) (id i : Nat) : lookO (fz1 ob id) i = if i = id then (lookO ob id).map (fun o => { o with fz := true }) else lookO ob i := by
  unfold fz1
  split
  · rename_i o h
    simp only [lookO]
    split
    · rw [h]; rfl
    · rfl
  · rename_i h
    split
    · rename_i e; subst e; rw [h]; rfl
    · rfl
theorem lookO_fzs [Glo] : ∀ (ids : List Nat) (ob : List (Nat × Option Ob)) (i : Nat), lookO (fzs ids ob) i = if i ∈ ids then (lookO ob i).map (fun o => { o with fz := true }) else lookO ob i
  | [], ob, i => by simp [fzs]
  | id :: ids, ob, i => by
    have : fzs (id :: ids) ob = fzs ids (fz1 ob id) := rfl
    rw [this, lookO_fzs ids, lookO_fz1]
    by_cases h1 : i = id
    · subst h1
      by_cases h2 : i ∈ ids
      · simp only [h2, if_true, List.mem_cons, or_true, Option.map_map]; congr 1
      · simp [h2]
    · by_cases h2 : i ∈ ids <;> simp [h1, h2]
theorem mem_ownIds : ∀ (cs : List V) (id : Nat), (V.own id ∈ cs ∨ V.omap id ∈ cs) → id ∈ ownIds cs
  | [], id, h => by simp at h
  | c :: r, id, h => by
    have h : (c = .own id ∨ c = .omap id) ∨ (V.own id ∈ r ∨ V.omap id ∈ r) := by
      rcases h with h | h <;> rcases List.mem_cons.1 h with h | h
      · exact .inl (.inl h.symm)
      · exact .inr (.inl h)
      · exact .inl (.inr h.symm)
      · exact .inr (.inr h)
    rcases h with h | h
    · rcases h with h | h <;> (subst h; simp [ownIds])
    · have := mem_ownIds r id h
      cases c <;> simp only [ownIds] <;> first | exact this | exact List.mem_cons_of_mem _ this

section
variable {P : Program} {base : Nat} {Xa : Nat → Prop} {w0 : W0} {w w' : World} {st : St} {a : Act} {M M' : Mp} {X X' : Nat → Prop} {n n' : Nat}

theorem RelM.fz [Glo] (h : RelM base Xa w0 st a w M) (ids : List Nat) : RelM base Xa w0 { st with ob := fzs ids st.ob } a w M := by
  refine h.sub fun id o ho => ?_
  rw [lookO_fzs] at ho
  split at ho
  · obtain ⟨o', h1, h2⟩ := Option.map_eq_some_iff.1 ho
    subst h2
    exact ⟨o'.fz, h1, fun h => by cases h⟩
  · exact ⟨o.fz, ho, fun h => h⟩

/-- Cells handed on for good: what they hold of the call's own is frozen. -/
theorem Cs.pur [Glo] {cs : List V} {us : List Value} (h : RelM base Xa w0 st a w M) (hc : Cs M w (Xf base Xa w M st.ob) st.nx cs us) : Cs M w (Xf base Xa w M (fzs (ownIds cs) st.ob)) 0 (cs.map (pur1 st.ob)) us := by
  have hX : ∀ b, Xf base Xa w M st.ob b → Xf base Xa w M (fzs (ownIds cs) st.ob) b := fun b hx => ⟨hx.1, fun id o ho hf => by
    rw [lookO_fzs] at ho
    split at ho
    · obtain ⟨o', h1, h2⟩ := Option.map_eq_some_iff.1 ho
      subst h2
      cases hf
    · exact hx.2 id o ho hf⟩
  refine ⟨by simpa using hc.len, hc.one, fun j c hj => ?_⟩
  rw [List.getElem?_map] at hj
  obtain ⟨v, hv, rfl⟩ := Option.map_eq_some_iff.1 hj
  refine pur1_R (hc.rel j v hv) (fun id o ho => (h.obs id o ho).2) hX fun id o g hown ho hg => ?_
  have hmem : id ∈ ownIds cs := mem_ownIds cs id (by
    rcases hown with rfl | rfl
    · exact .inl (List.mem_of_getElem? hv)
    · exact .inr (List.mem_of_getElem? hv))
  obtain ⟨vals, hrow, _⟩ := (h.obs id o ho).2.row
  have hb := hrow.lt g hg
  refine ⟨.inr hb, fun id' o' ho' hf' e => ?_⟩
  rw [lookO_fzs] at ho'
  split at ho'
  · obtain ⟨o'', h1, h2⟩ := Option.map_eq_some_iff.1 ho'
    subst h2; cases hf'
  · rename_i hni
    exact h.dist id' id o' o g ho' ho (fun e => hni (e ▸ hmem)) e hg

theorem zero_Cs [Glo] {t : TypeId} {cs : List V} (h : zeroE P t = some cs) : ∃ i z, P.info? t = some i ∧ i.zero = some z ∧ Cs M w X n cs z.cells.toList := by
  unfold zeroE at h
  split at h
  · rename_i i hi
    split at h
    · rename_i z hz
      cases hall : z.cells.all (·.oneCell') with
      | false => simp [hall] at h
      | true =>
        simp only [hall, cond_true, Option.some.injEq] at h
        subst h
        refine ⟨i, z, hi, hz, by simp, fun u hu => ?_, fun j c hc => ?_⟩
        · rw [Array.all_eq_true'] at hall
          exact hall u (by simpa using hu)
        · rw [List.getElem?_map] at hc
          obtain ⟨v, hv, rfl⟩ := Option.map_eq_some_iff.1 hc
          rw [List.getD_eq_getElem?_getD, hv]
          exact of1_R v
    · simp at h
  · simp at h

/-- A new box. -/
theorem RelM.box [Glo] (h : RelM base Xa w0 st a w M) (t : TypeId) {cs : List V} {cur : Array Value} (hc : Cs M w (Xf base Xa w M st.ob) st.nx cs cur.toList) {dst : Option Tmp} (hd : ∀ d, dst = some d → d < st.n) :
    ∃ M', RelM base Xa w0 ({ st with nx := st.nx + 1, ob := (st.nx, some ⟨t, cs.length, true, false, [cs]⟩) :: st.ob }.put dst (.ptr st.nx cs.length 0 0)) (a.put dst (.pointer (some ⟨w.heap.size, 0, none⟩))) (w.alloc (.cells cur t)) M' := by
  have hl : cur.size = cs.length := by rw [hc.len]; simp
  obtain ⟨M', hM, hn, hR⟩ := h.alloc ⟨t, cs.length, true, false, [cs]⟩ cur 1 (fun h => by cases h) (by simp) (by simp) (by simp [maxLen]) (by simp [hl]) (fun u hu => hc.one u (by simpa using hu)) (fun j u hu => by
    have := hc.rel j u (by simpa using hu)
    simpa [Array.getD_eq_getD_getElem?, List.getD_eq_getElem?_getD] using this)
  exact ⟨M', hR.put hd (.ptr _ _ _ _ _ w.heap.size _ (by simp) (by rw [hn]; rfl) (by simp))⟩

theorem R_part {id sz lo len : Nat} {u : Value} {M : Mp} {w : World} {X : Nat → Prop} {n : Nat} (h : R M w X n (.part id sz lo len) u) : ∃ g N cap, M id = .slice (some ⟨g, 0, none⟩) N cap ∧ lo + len ≤ N ∧ u = .slice (some ⟨g, if cap = lo then 0 else lo * sz, none⟩) len (cap - lo) := by
  cases h with
  | part _ _ _ _ _ g N cap hid hv hl => exact ⟨g, N, cap, hv, hl, rfl⟩
theorem flat_part {s : Nat} : ∀ (xs : List (List V)) (_ : ∀ x ∈ xs, x.length = s) {lo len : Nat}, ((xs.drop lo).take len).flatten = (xs.flatten.drop (lo * s)).take (len * s)
  | [], _, lo, len => by simp
  | x :: xs, h, lo, len => by
    have hx := h x (List.mem_cons_self ..)
    have ih := fun lo len => flat_part xs (fun y hy => h y (List.mem_cons_of_mem _ hy)) (lo := lo) (len := len)
    cases lo with
    | succ lo =>
      rw [List.drop_succ_cons, ih, List.flatten_cons, Nat.add_mul, Nat.one_mul, Nat.add_comm (lo * s) s, ← List.drop_drop, List.drop_append_of_le_length (by omega), List.drop_of_length_le (l := x) (by omega), List.nil_append]
    | zero =>
      cases len with
      | zero => simp
      | succ len =>
        have := ih 0 len
        simp only [List.drop_zero, Nat.zero_mul] at this ⊢
        rw [List.take_succ_cons, List.flatten_cons, List.flatten_cons, this, Nat.add_mul, Nat.one_mul, Nat.add_comm (len * s) s, ← hx, List.take_length_add_append]
theorem src_R [Glo] (h : RelM base Xa w0 st a w M) {s : Nat} {x : V} {u : Value} {p : Prop} {ys : List (List V)} (hs : srcV st s x = some (p, ys)) (hp : p) (hx : R M w (Xf base Xa w M st.ob) st.nx x u) :
    ∃ (A : Option Addr) (c : Nat) (news : List Value), u = .slice A ys.length c ∧ news.length = ys.length * s ∧ (∀ x ∈ news, x.oneCell' = true) ∧ (ys ≠ [] → ∀ y ∈ ys, y.length = s) ∧
      (0 < ys.length → ∃ ad, A = some ad ∧ ∀ j v, news[j]? = some v → w.cell? (ad.add j) = some v) ∧ (A = none → ys = []) ∧
      ∀ (j : Nat) (v : V), ys.flatten[j]? = some v → R M w (Xf base Xa w M st.ob) 0 v (news.getD j undef) := by
  unfold srcV at hs
  split at hs
  · rename_i sz tt ys'
    simp only [Option.some.injEq, Prod.mk.injEq] at hs
    obtain ⟨rfl, rfl⟩ := hs
    obtain ⟨A, c, f, hu, hlc, hm, ht, hnil, hl, hA, hr⟩ := R_sl hx
    rcases Nat.eq_zero_or_pos ys'.length with h0 | h0
    · have : ys' = [] := List.eq_nil_of_length_eq_zero h0
      subst this
      exact ⟨A, c, [], hu, by simp, by simp, fun h => absurd rfl h, fun h => absurd h (by simp), fun _ => rfl, fun j v hv => by simp at hv⟩
    · have hsz : s = sz := by
        rcases hp with h | h
        · exact h
        · subst h; simp at h0
      subst hsz
      obtain ⟨ad, rfl, hX, hc⟩ := hA h0
      refine ⟨some ad, c, (List.range (ys'.length * s)).map f, hu, by simp, ?_, fun _ => hl, fun _ => ⟨ad, rfl, fun j v hv => ?_⟩, (fun h => by cases h), fun j v hv => ?_⟩
      · intro x hx'
        simp only [List.mem_map, List.mem_range] at hx'
        obtain ⟨j, hj, rfl⟩ := hx'
        exact (hc j hj).2
      · rw [List.getElem?_map] at hv
        obtain ⟨k, hk, rfl⟩ := Option.map_eq_some_iff.1 hv
        obtain ⟨hk1, hk2⟩ := List.getElem?_eq_some_iff.1 hk
        simp at hk1 hk2
        subst hk2
        exact (hc j hk1).1
      · have := hr j v hv
        have hj : j < ys'.length * s := by
          have := (List.getElem?_eq_some_iff.1 hv).1
          rwa [flat_len _ hl] at this
        simpa [List.getD_eq_getElem?_getD, hj] using this
  · rename_i id
    split at hs
    · rename_i o ho
      cases hb : o.box with
      | true => simp [hb] at hs
      | false =>
        simp only [hb, cond_false, Option.some.injEq, Prod.mk.injEq] at hs
        obtain ⟨rfl, rfl⟩ := hs
        subst hp
        obtain ⟨_, hok⟩ := h.obs id o ho
        obtain ⟨vals, hrow, h1, hr⟩ := hok.row
        obtain ⟨_, hv⟩ := R_own hx
        simp only [hb, Bool.false_eq_true, if_false] at hr
        rcases hrow.sl (R_ownSl hx) with ⟨hnil, h2⟩ | ⟨g, cap, cur, hval, _⟩
        · have : o.xs = [] := List.eq_nil_of_length_eq_zero h2
          refine ⟨none, 0, vals, by rw [← hv, hnil, h2], hrow.1, h1, fun _ => hok.len, fun h => by omega, fun _ => this, hr⟩
        · refine ⟨some ⟨g, 0, none⟩, cap, vals, by rw [← hv, hval], hrow.1, h1, fun _ => hok.len, fun _ => ⟨_, rfl, hrow.cells (by rw [hval]; rfl)⟩, (fun h => by cases h), hr⟩
    · simp at hs
  · rename_i id sz lo len
    split at hs
    · rename_i o ho
      cases hb : o.box with
      | true => simp [hb] at hs
      | false =>
        simp only [hb, cond_false, Option.some.injEq, Prod.mk.injEq] at hs
        obtain ⟨rfl, rfl⟩ := hs
        obtain ⟨rfl, hsz'⟩ := hp
        obtain ⟨_, hok⟩ := h.obs id o ho
        obtain ⟨vals, hrow, h1, hr⟩ := hok.row
        simp only [hb, Bool.false_eq_true, if_false] at hr
        obtain ⟨g, N, cap, hv, hl, rfl⟩ := R_part hx
        have hN : N = o.xs.length ∧ N ≤ cap := by
          rcases hrow.sl ⟨_, _, _, hv⟩ with ⟨hnil, h2⟩ | ⟨g', cap', cur, hval, _, _, hnc, _⟩
          · rw [hv] at hnil; simp at hnil
          · rw [hv] at hval; simp only [Value.slice.injEq] at hval
            exact ⟨hval.2.1, by rw [hval.2.1, hval.2.2]; exact hnc⟩
        obtain ⟨rfl, hNc⟩ := hN
        have hyl : ((o.xs.drop lo).take len).length = len := by rw [List.length_take, List.length_drop]; omega
        have hmul : lo * o.sz + len * o.sz ≤ vals.length := by rw [hrow.1, ← Nat.add_mul]; exact Nat.mul_le_mul_right _ hl
        refine ⟨some ⟨g, if cap = lo then 0 else lo * sz, none⟩, cap - lo, (vals.drop (lo * o.sz)).take (len * o.sz), by rw [hyl], by rw [hyl, List.length_take, List.length_drop]; omega,
          fun u hu => h1 u (List.mem_of_mem_drop (List.mem_of_mem_take hu)), fun _ y hy => hok.len y (List.mem_of_mem_drop (List.mem_of_mem_take hy)), fun h0 => ⟨_, rfl, fun j v hj => ?_⟩, (fun h => by cases h), fun j v hj => ?_⟩
        · rw [hyl] at h0
          rw [if_neg (by omega), ← hsz']
          rw [List.getElem?_take] at hj
          split at hj
          · rw [List.getElem?_drop] at hj
            have := hrow.cells (g := g) (by rw [hv]; rfl) _ _ hj
            have e1 : (⟨g, 0, none⟩ : Addr).add (lo * o.sz + j) = ⟨g, lo * o.sz + j, none⟩ := by unfold Addr.add; split <;> simp_all
            have e2 : (⟨g, lo * o.sz, none⟩ : Addr).add j = ⟨g, lo * o.sz + j, none⟩ := by unfold Addr.add; split <;> simp_all
            rw [e1] at this; rw [e2]; exact this
          · cases hj
        · rw [flat_part o.xs hok.len, List.getElem?_take] at hj
          split at hj
          · rename_i hjl
            rw [List.getElem?_drop] at hj
            have := hr _ _ hj
            rw [List.getD_eq_getElem?_getD, List.getElem?_take, if_pos hjl, List.getElem?_drop, ← List.getD_eq_getElem?_getD]
            exact this
          · cases hj
    · simp at hs
  · simp at hs

theorem run_append_nil {t ty e : TypeId} {i : TypeInfo} {size : Nat} (ht : P.underlying t = some (.slice e)) (hi : P.info? e = some i)
    {v : Value} {len : Nat} {xs : List Value} (hown : w.ownsG base e size v len xs) (hslv : ∃ A l c, v = .slice A l c) (c : Nat) : (Builtin.append_ #[t, t] ty #[v, .slice none 0 c]).run P w = .ok v w := by
  rcases hown.sl hslv with ⟨rfl, rfl⟩ | ⟨g, cap, cur, rfl, _, _, hnc, _⟩
  · simp [Builtin.append_, run_underlying ht, sizeOf, typeInfo, hi, Builtin.lenOf, Builtin.firstCells]
  · simp [Builtin.append_, run_underlying ht, sizeOf, typeInfo, hi, Builtin.lenOf, Builtin.firstCells, hnc, storeCells]

/-- append onto a row of the call's own, whatever the source. -/
theorem run_append_src [Glo] {t ty e : TypeId} {i : TypeInfo} {z : Value} {size bytes : Nat} (ht : P.underlying t = some (.slice e)) (hi : P.info? e = some i) (hz : i.zero = some z)
    (hsize : i.size = size) (hby : i.bytes = bytes) (hzs : z.cells.size = size) (hsz : 0 < size) {v : Value} {len : Nat} {xs : List Value} (hown : w.ownsG base e size v len xs) (hslv : ∃ A l c, v = .slice A l c)
    {A : Option Addr} {m c : Nat} {news : List Value} (hl : news.length = m * size) (hA : 0 < m → ∃ ad, A = some ad ∧ ∀ j v, news[j]? = some v → w.cell? (ad.add j) = some v) (hAn : A = none → m = 0)
    (h1 : ∀ u ∈ news, u.oneCell' = true) (h63 : len + m ≤ maxLen) (hbytes : (len + m) * bytes ≤ 140737488355328) (hbase : base ≤ w.heap.size) :
    ∃ v' w', (Builtin.append_ #[t, t] ty #[v, .slice A m c]).run P w = .ok v' w' ∧ w'.ownsG base e size v' (len + m) (xs ++ news) ∧ w.grownBy w' v.ownBlock ∧ (v'.ownBlock = v.ownBlock ∨ v'.ownBlock = some w.heap.size) ∧ ∃ A l c, v' = .slice A l c := by
  cases A with
  | none =>
    have hm := hAn rfl
    subst hm
    have hn : news = [] := List.eq_nil_of_length_eq_zero (by simpa using hl)
    subst hn
    exact ⟨v, w, run_append_nil ht hi hown hslv c, by simpa using hown, World.grownBy.refl w _, .inl rfl, hslv⟩
  | some ad =>
    obtain ⟨v', w', hrun, h2, h3, h5⟩ := run_append_G (P := P) w base t ty e i z size bytes ht hi hz hsize hby hzs hsz v len xs hown hslv ad m c news hl (fun j u hu => by
      have hm : 0 < m := by
        have := (List.getElem?_eq_some_iff.1 hu).1
        rw [hl] at this
        exact Nat.pos_of_ne_zero (fun h => by subst h; simp at this)
      obtain ⟨ad', he, hc⟩ := hA hm
      simp only [Option.some.injEq] at he
      subst he
      exact hc j u hu) h1 h63 hbytes hbase
    exact ⟨v', w', hrun, h2, h3, h5⟩
end
end Go.Ab
