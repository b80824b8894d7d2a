/- Abstract states for walks, part 4: the operations of part 3 do what it says. -/
import Derived.Test.YtjlbpkokdlggiaaDoorAbC
namespace Go.Ab
open Go.RowKit

theorem block_add (a : Addr) (n : Nat) : (a.add n).block = a.block := by unfold Addr.add; split <;> rfl
theorem add_add (a : Addr) (i j : Nat) : (a.add i).add j = a.add (i + j) := by
  unfold Addr.add
  by_cases hi : i = 0 <;> by_cases hj : j = 0 <;> simp [hi, hj, Nat.add_assoc]
theorem flat_len {n : Nat} : ∀ (l : List (List V)), (∀ x ∈ l, x.length = n) → l.flatten.length = l.length * n
  | [], _ => by simp
  | x :: l, h => by
    rw [List.flatten_cons, List.length_append, flat_len l (fun y hy => h y (List.mem_cons_of_mem _ hy)), h x (List.mem_cons_self ..), List.length_cons, Nat.add_mul]; omega
theorem flat_get {n : Nat} : ∀ (l : List (List V)) (i j : Nat), (∀ x ∈ l, x.length = n) → j < n → l.flatten[i * n + j]? = (l.getD i [])[j]?
  | [], i, j, _, _ => by simp
  | x :: l, 0, j, h, hj => by
    have hx := h x (List.mem_cons_self ..)
    simp only [List.flatten_cons, Nat.zero_mul, Nat.zero_add, List.getD_cons_zero]
    rw [List.getElem?_append_left (by omega)]
  | x :: l, i + 1, j, h, hj => by
    have hx := h x (List.mem_cons_self ..)
    have ih := flat_get l i j (fun y hy => h y (List.mem_cons_of_mem _ hy)) hj
    simp only [List.flatten_cons, List.getD_cons_succ]
    rw [List.getElem?_append_right (by rw [hx, Nat.add_mul]; omega), hx, show (i + 1) * n + j - n = i * n + j by rw [Nat.add_mul]; omega]
    exact ih

section
variable {base : Nat} {w : World} {st : St} {a : Act} {M : Mp} {X : Nat → Prop} {n N : Nat}

theorem of1_R (v : Value) : R M w X n (of1 v) v := by
  unfold of1
  split
  · exact .bool _ _
  · exact .int _ _ _
  · rename_i s
    have : Value.string s = .string ⟨s.data.toList.toArray⟩ := by simp
    rw [this]
    exact .str _ _
  · exact .sl _ 0 true [] none 0 0 (fun _ => undef) rfl (Nat.le_refl _) (by simp) (fun _ => rfl) (fun _ => ⟨rfl, rfl⟩) (fun x hx => by simp at hx) (fun h => absurd h (by omega)) (fun j u h => by simp at h)
  · exact .poi _ _

theorem ofVal_R [Glo] (v : Value) : R M w X n (ofVal v) v := by
  unfold ofVal
  split
  · rename_i cs
    cases h : cs.all (·.oneCell')
    · exact .poi _ _
    · refine .st _ _ _ (by simp) (fun u hu => by
        rw [Array.all_eq_true'] at h
        exact h u hu) (fun j u hu => ?_)
      simp only [List.getElem?_map, Array.getElem?_toList, Option.map_eq_some_iff] at hu
      obtain ⟨v, hv, rfl⟩ := hu
      rw [Array.getD_eq_getD_getElem?, hv]
      exact of1_R v
  · exact of1_R _

theorem ev_R [Glo] (h : RelX base st a w M X N) (x : Operand) : R M w (X) N (ev st x) (a.eval x) := by
  cases x with
  | tmp t => exact h.tmps t
  | const v => exact ofVal_R v
  | global g =>
    simp only [ev, glo]
    split
    · rename_i cs hg; exact h.gl.2 g cs hg M N
    · exact .poi _ _
  | func f => exact .fn _ f

theorem R_bool {b : Bool} {u : Value} (h : R M w X n (.bool b) u) : u = .bool b := by cases h; rfl
theorem R_int {k : IntKind} {i : Int} {u : Value} (h : R M w X n (.int k i) u) : u = .int k i := by cases h; rfl
theorem R_str {s : List UInt8} {u : Value} (h : R M w X n (.str s) u) : u = .string ⟨s.toArray⟩ := by cases h; rfl

theorem unG_R {x : V} {u : Value} (hx : R M w X n x u) (h : okG x) : R M w X n (unG x) u := by
  cases hx with
  | gd _ b v u h' _ => exact h' h
  | _ => constructor <;> assumption

theorem pick_R [Glo] {c x y v : V} {p : Prop} {uc ux uy : Value} (h : pickV c x y = some (p, v)) (hp : p) (hc : R M w X n c uc) (hx : R M w X n x ux) (hy : R M w X n y uy) :
    ∃ b, uc = .bool b ∧ R M w X n v (if b then ux else uy) := by
  unfold pickV at h
  split at h
  · rename_i b
    refine ⟨b, R_bool hc, ?_⟩
    simp only [Option.some.injEq, Prod.mk.injEq] at h
    obtain ⟨rfl, rfl⟩ := h
    have key : R M w X n (bif b then unG x else unG y) (if b then ux else uy) := by
      cases b with
      | true => exact unG_R hx (hp.1 rfl)
      | false => exact unG_R hy (hp.2 rfl)
    revert key
    generalize unG x = x'
    generalize unG y = y'
    intro key
    unfold pickB
    split
    · cases b <;> exact key
    · exact key
  · simp at h

/-- What is read of the cells that are there. -/
theorem load_R {P : Program} {t : TypeId} {m : Nat} {ag : Bool} (ht : tyE P t = some (m, ag)) (hag : (ag || m == 1) = true) (ad : Addr) (cs : List V) (f : Nat → Value) (hm : m ≤ cs.length)
    (hc : ∀ j, j < m → w.cell? (ad.add j) = some (f j) ∧ (f j).oneCell' = true) (hr : ∀ (j : Nat) (u : V), cs[j]? = some u → R M w X n u (f j)) :
    ∃ u, (loadVar t ad).run P w = .ok u w ∧ R M w X n (mkV ag (cs.take m)) u := by
  obtain ⟨i, hi, hsz, hisagg⟩ : ∃ i, P.info? t = some i ∧ i.size = m ∧ (isAgg t).run P w = .ok ag w := by
    unfold tyE at ht
    cases hi : P.info? t with
    | none => simp [hi] at ht
    | some i =>
      cases hu : P.underlying t with
      | none => simp [hi, hu] at ht
      | some d =>
        refine ⟨i, rfl, ?_⟩
        cases d <;> simp [hi, hu] at ht <;> obtain ⟨h1, h2⟩ := ht <;> subst h2 <;> simp [h1, isAgg, run_underlying hu]
  cases ag with
  | true =>
    refine ⟨.agg ((List.range m).map f).toArray, ?_, ?_⟩
    · have := run_loadCells (P := P) (w := w) ad m f (fun j hj => (hc j hj).1)
      simp only [loadVar, Sem.run_bind, hisagg, Result.andThen_ok, if_true, sizeOf, typeInfo, Sem.run_pure]
      simp [hi, hsz, this]
    · refine .st _ _ _ (by simp; omega) (fun u hu => ?_) (fun j u hu => ?_)
      · simp only [List.mem_toArray, List.mem_map, List.mem_range] at hu
        obtain ⟨j, hj, rfl⟩ := hu
        exact (hc j hj).2
      · rw [List.getElem?_take] at hu
        split at hu
        · rename_i hj
          have := hr j u hu
          simpa [Array.getD, hj] using this
        · simp at hu
  | false =>
    have hm1 : m = 1 := by simpa using hag
    subst hm1
    refine ⟨f 0, ?_, ?_⟩
    · have h0 := (hc 0 (by omega)).1
      have e : ad.add 0 = ad := by simp [Addr.add]
      rw [e] at h0
      simp [loadVar, hisagg, load, Sem.run, h0]
    · cases cs with
      | nil => simp at hm
      | cons c cs =>
        have := hr 0 c rfl
        simpa [mkV] using this

theorem R_ptr {id sz i off : Nat} {u : Value} (h : R M w X n (.ptr id sz i off) u) : ∃ g, id < n ∧ (M id).ownBlock = some g ∧ u = .pointer (some ⟨g, i * sz + off, none⟩) := by
  cases h with
  | ptr _ _ _ _ _ g k hid hg hk => exact ⟨g, hid, hg, by rw [hk]⟩

theorem R_ownU {id : Nat} {u : Value} (h : R M w X n (.own id) u) : ∃ A l c, u = .slice A l c := by cases h; exact ⟨_, _, _, rfl⟩
theorem R_ownSl {id : Nat} {u : Value} (h : R M w X n (.own id) u) : ∃ A l c, M id = .slice A l c := by
  cases h with
  | own _ _ A l c hid hv => exact ⟨_, _, _, hv⟩
theorem R_own {id : Nat} {u : Value} (h : R M w X n (.own id) u) : id < n ∧ M id = u := by
  cases h with
  | own _ _ A l c hid hv => exact ⟨hid, hv⟩

theorem R_iptr {cs : List V} {u : Value} (h : R M w X n (.iptr cs) u) : ∃ (ad : Addr) (f : Nat → Value), u = .pointer (some ad) ∧ X ad.block ∧ (∀ j, j < cs.length → w.cell? (ad.add j) = some (f j) ∧ (f j).oneCell' = true) ∧
    ∀ (j : Nat) (u : V), cs[j]? = some u → R M w X 0 u (f j) := by
  cases h with
  | iptr _ _ ad f hX hc h => exact ⟨ad, f, rfl, hX, hc, h⟩

theorem R.up {v : V} {u : Value} (h : R M w X 0 v u) : R M w X n v u := h.mono (Nat.zero_le _) (fun _ hi => absurd hi (by omega)) (fun _ h => h) (fun _ _ => rfl)

/-- The cells of one element of an object. -/
theorem ob_cells [Glo] (h : RelX base st a w M X N) {id : Nat} {o : Ob} (ho : lookO st.ob id = some o) {g : Nat} (hg : (M id).ownBlock = some g) {i : Nat} (hi : i < o.xs.length) :
    ∃ f : Nat → Value, (∀ j, j < o.sz → w.cell? ⟨g, i * o.sz + j, none⟩ = some (f j) ∧ (f j).oneCell' = true) ∧
      ∀ (j : Nat) (u : V), (o.xs.getD i [])[j]? = some u → R M w (X) N u (f j) := by
  obtain ⟨_, hok⟩ := h.obs id o ho
  obtain ⟨vals, hrow, h1, hr⟩ := hok.row
  have hvl : vals.length = o.xs.length * o.sz := hrow.1
  have hin : ∀ j, j < o.sz → i * o.sz + j < vals.length := fun j hj => by
    have : (i + 1) * o.sz ≤ o.xs.length * o.sz := Nat.mul_le_mul_right _ (by omega)
    rw [Nat.add_mul] at this; omega
  refine ⟨fun j => vals.getD (i * o.sz + j) undef, fun j hj => ?_, fun j u hu => ?_⟩
  · have hl := hin j hj
    have hv : vals[i * o.sz + j]? = some (vals.getD (i * o.sz + j) undef) := by
      rw [List.getD_eq_getElem?_getD, List.getElem?_eq_getElem hl]; rfl
    have hc := hrow.cells hg (i * o.sz + j) _ hv
    have e : (⟨g, 0, none⟩ : Addr).add (i * o.sz + j) = ⟨g, i * o.sz + j, none⟩ := by unfold Addr.add; split <;> simp_all
    rw [e] at hc
    exact ⟨hc, h1 _ (List.mem_of_getElem? hv)⟩
  · have hlen : (o.xs.getD i []).length = o.sz := by
      rw [List.getD_eq_getElem?_getD, List.getElem?_eq_getElem hi]
      exact hok.len _ (List.getElem_mem hi)
    have hj : j < o.sz := by
      have := (List.getElem?_eq_some_iff.1 hu).1; omega
    have := hr (i * o.sz + j) u (by rw [flat_get _ _ _ hok.len hj]; exact hu)
    refine this.mono ?_ (fun _ _ => rfl) (fun _ h => h) (fun _ _ => rfl)
    split
    · exact Nat.le_refl _
    · exact Nat.zero_le _

/-- Cells from an offset on. -/
theorem drop_R {cs : List V} {f : Nat → Value} (k : Nat) (hr : ∀ (j : Nat) (u : V), cs[j]? = some u → R M w X n u (f j)) : ∀ (j : Nat) (u : V), (cs.drop k)[j]? = some u → R M w X n u (f (k + j)) :=
  fun j u hu => hr (k + j) u (by rw [← List.getElem?_drop]; exact hu)

theorem iptr_drop [Glo] {cs : List V} {ad : Addr} {f : Nat → Value} (k : Nat) (hX : X ad.block) (hc : ∀ j, j < cs.length → w.cell? (ad.add j) = some (f j) ∧ (f j).oneCell' = true)
    (hr : ∀ (j : Nat) (u : V), cs[j]? = some u → R M w X 0 u (f j)) : R M w X n (.iptr (cs.drop k)) (.pointer (some (ad.add k))) :=
  .iptr _ _ _ (fun j => f (k + j)) (by rw [block_add]; exact hX) (fun j hj => by rw [add_add]; exact hc _ (by rw [List.length_drop] at hj; omega)) (drop_R k hr)

theorem part_R [Glo] {P : Program} {t : TypeId} {m : Nat} {ag : Bool} (ht : tyE P t = some (m, ag)) (hag : (ag || m == 1) = true) {cs : List V} {arr : Array Value} (k : Nat) (hk : k + m ≤ cs.length)
    (hl : cs.length = arr.size) (h1 : ∀ u ∈ arr, u.oneCell' = true) (h : ∀ (j : Nat) (u : V), cs[j]? = some u → R M w X n u (arr.getD j undef)) :
    ∃ u, (part t arr k).run P w = .ok u w ∧ R M w X n (mkV ag ((cs.drop k).take m)) u := by
  obtain ⟨i, hi, hsz, hisagg⟩ : ∃ i, P.info? t = some i ∧ i.size = m ∧ (isAgg t).run P w = .ok ag w := by
    unfold tyE at ht
    cases hi : P.info? t with
    | none => simp [hi] at ht
    | some i =>
      cases hu : P.underlying t with
      | none => simp [hi, hu] at ht
      | some d =>
        refine ⟨i, rfl, ?_⟩
        cases d <;> simp [hi, hu] at ht <;> obtain ⟨h1, h2⟩ := ht <;> subst h2 <;> simp [h1, isAgg, run_underlying hu]
  cases ag with
  | true =>
    refine ⟨.agg (arr.extract k (k + m)), ?_, .st _ _ _ ?_ ?_ ?_⟩
    · simp only [part, Sem.run_bind, hisagg, Result.andThen_ok, if_true, sizeOf, typeInfo, Sem.run_pure]
      simp [hi, hsz]
    · simp; omega
    · intro u hu
      have : u ∈ arr := by
        rw [Array.mem_def] at hu ⊢
        rw [Array.toList_extract, List.extract_eq_take_drop] at hu
        exact List.mem_of_mem_drop (List.mem_of_mem_take hu)
      exact h1 u this
    · intro j u hu
      rw [List.getElem?_take] at hu
      split at hu
      · rename_i hj
        have := drop_R (f := fun j => arr.getD j undef) k h j u hu
        have e : (arr.extract k (k + m)).getD j undef = arr.getD (k + j) undef := by
          simp only [Array.getD_eq_getD_getElem?]
          rw [Array.getElem?_extract_of_lt (by omega), Array.getElem?_eq_getElem (by omega)]
        rw [e]; exact this
      · simp at hu
  | false =>
    have hm1 : m = 1 := by simpa using hag
    subst hm1
    have hlt : k < arr.size := by omega
    refine ⟨arr[k], ?_, ?_⟩
    · simp [part, hisagg, hlt]
    · have hu : cs[k]? = some cs[k] := List.getElem?_eq_getElem (by omega)
      have := h k _ hu
      have e : arr.getD k undef = arr[k] := by simp [Array.getD, hlt]
      rw [e] at this
      have e2 : mkV false ((cs.drop k).take 1) = cs[k] := by
        simp only [mkV, cond_false]
        rw [List.drop_eq_getElem_cons (by omega)]
        rfl
      rw [e2]; exact this

theorem fld_parts {P : Program} {t : TypeId} {f o m : Nat} {ag : Bool} (h : fldE P t f = some (o, m, ag)) :
    ∃ fs fd, P.underlying t = some (.struct fs) ∧ fs[f]? = some fd ∧ fd.offset = o ∧ tyE P fd.type = some (m, ag) ∧ m ≠ 0 := by
  unfold fldE at h
  split at h
  · rename_i fs hu
    split at h
    · rename_i fd hf
      split at h
      · rename_i k ag' ht
        split at h
        · simp at h
        · rename_i hk
          simp only [Option.some.injEq, Prod.mk.injEq] at h
          obtain ⟨rfl, rfl, rfl⟩ := h
          exact ⟨fs, fd, hu, hf, rfl, ht, hk⟩
      · simp at h
    · simp at h
  · simp at h

theorem ty_size {P : Program} {t : TypeId} {m : Nat} {ag : Bool} (ht : tyE P t = some (m, ag)) : ∃ i, P.info? t = some i ∧ i.size = m := by
  unfold tyE at ht
  cases hi : P.info? t with
  | none => simp [hi] at ht
  | some i =>
    cases hu : P.underlying t with
    | none => simp [hi, hu] at ht
    | some d => refine ⟨i, rfl, ?_⟩; cases d <;> simp [hi, hu] at ht <;> exact ht.1

theorem sl_parts {P : Program} {t e s b : Nat} (h : slE P t = some (e, s, b)) : ∃ i z, P.underlying t = some (.slice e) ∧ P.info? e = some i ∧ i.zero = some z ∧ z.cells.size = s ∧ i.size = s ∧ i.bytes = b ∧ 0 < s := by
  unfold slE at h
  split at h
  · rename_i e' hu
    split at h
    · rename_i i hi
      split at h
      · rename_i z hz
        split at h
        · rename_i hc
          simp only [Option.some.injEq, Prod.mk.injEq] at h
          obtain ⟨rfl, rfl, rfl⟩ := h
          exact ⟨i, z, hu, hi, hz, hc.1, rfl, rfl, hc.2⟩
        · simp at h
      · simp at h
    · simp at h
  · simp at h

theorem ar_parts {P : Program} {t len k : Nat} {ag : Bool} (h : arE P t = some (len, k, ag)) : ∃ e, P.underlying t = some (.array len e) ∧ tyE P e = some (k, ag) := by
  unfold arE at h
  split at h
  · rename_i n e hu
    split at h
    · rename_i k' ag' ht
      simp only [Option.some.injEq, Prod.mk.injEq] at h
      obtain ⟨rfl, rfl, rfl⟩ := h
      exact ⟨e, hu, ht⟩
    · simp at h
  · simp at h

theorem run_sizeOf {P : Program} {t : TypeId} {i : TypeInfo} (hi : P.info? t = some i) : (sizeOf t).run P w = .ok i.size w := by simp [sizeOf, typeInfo, hi]

theorem field_run [Glo] {P : Program} {t : TypeId} {f o m : Nat} {ag : Bool} (h : fldE P t f = some (o, m, ag)) (ad : Addr) : (Instr.fieldAt t (.pointer (some ad)) f).run P w = .ok (.pointer (some (ad.add o))) w := by
  obtain ⟨fs, fd, hu, hf, rfl, ht, hm⟩ := fld_parts h
  obtain ⟨i, hi, hs⟩ := ty_size ht
  simp [Instr.fieldAt, run_underlying hu, hf, Instr.sureAddr, fieldPlace, run_sizeOf hi, hs, hm]

theorem R_sl {sz : Nat} {t : Bool} {xs : List (List V)} {u : Value} (h : R M w X n (.sl sz t xs) u) : ∃ (A : Option Addr) (c : Nat) (f : Nat → Value), u = .slice A xs.length c ∧ xs.length ≤ c ∧ c ≤ maxLen ∧ (t = true → c = xs.length) ∧ (sz = 0 → A = none ∧ c = 0) ∧
    (∀ x ∈ xs, x.length = sz) ∧ (0 < xs.length → ∃ ad, A = some ad ∧ X ad.block ∧ ∀ j, j < xs.length * sz → w.cell? (ad.add j) = some (f j) ∧ (f j).oneCell' = true) ∧
    ∀ (j : Nat) (u : V), xs.flatten[j]? = some u → R M w X 0 u (f j) := by
  cases h with
  | sl _ _ _ _ A len c f hlen hc hm ht hnil hs hA h => subst hlen; exact ⟨A, c, f, rfl, hc, hm, ht, hnil, hs, hA, h⟩
end
end Go.Ab
