/- From contracts to rows: whatever is made of truth values, numbers, strings, structs and slices. -/
import Derived.Test.YtnjpakhnaegdgaaBri2
import Derived.DataReads
import Derived.DataElems
import Derived.ChangeArms
namespace Go.Ab
open Go.RowKit
def isFs (rc : TypeId → List V → Prop) : List Field → List V → Prop
  | [], vs => vs = []
  | f :: r, vs => ∃ a b, vs = a ++ b ∧ rc f.type a ∧ isFs rc r b
/-- the cells of a value of a type -/
def isV (P : Program) : Nat → TypeId → List V → Prop
  | 0, _, _ => False
  | d + 1, t, vs => match P.underlying t with
    | some .bool => ∃ b, vs = [.bool b]
    | some (.int k) => ∃ n, (k.min ≤ n ∧ n ≤ k.max) ∧ vs = [.int k n]
    | some .string => ∃ s, vs = [.str s]
    | some (.slice e) => ∃ xs, vs = [.sl (P.cellsOf e) false xs] ∧ ∀ x ∈ xs, isV P d e x
    | some (.struct fs) => isFs (isV P d) fs.toList vs
    | _ => False
def fsOk (P : Program) (rc : TypeId → Bool) (tot : Nat) : List Field → Nat → Bool
  | [], o => decide (o = tot)
  | f :: r, o => decide (f.offset = o) && decide (o + P.cellsOf f.type ≤ tot) && rc f.type && fsOk P rc tot r (o + P.cellsOf f.type)
def openOk (P : Program) : Nat → TypeId → Bool
  | 0, _ => false
  | d + 1, t => match P.underlying t with
    | some .bool => true
    | some (.int _) => true
    | some .string => true
    | some (.slice e) => decide (0 < P.cellsOf e) && openOk P d e
    | some (.struct fs) => fsOk P (openOk P d) (P.cellsOf t) fs.toList 0
    | _ => false
end Go.Ab
namespace Go.Proofs.Ytnjpakhnaegdgaa
open Go.Ab Go.ChangeShapes Go.WideShapes Go.ChangeAt Go.RowKit
variable {P : Program} {w : World} {base : Nat} {spare : Nat → Bool} {held : Bool} {H : Type} {enc : TypeId × Value → H}
theorem Cs_one {v : V} {u : Value} (h : R M0 w (X0 w) 0 v u) (h1 : u.oneCell' = true) : Cs M0 w (X0 w) 0 [v] [u] :=
  ⟨rfl, fun x hx => by rw [List.mem_singleton.1 hx]; exact h1, fun j c hj => by
    match j, hj with
    | 0, hj => simp only [List.getElem?_cons_zero, Option.some.injEq] at hj; subst hj; exact h
    | j + 1, hj => simp at hj⟩
theorem Cs_app {a b : List V} {p q : List Value} (ha : Cs M0 w (X0 w) 0 a p) (hb : Cs M0 w (X0 w) 0 b q) : Cs M0 w (X0 w) 0 (a ++ b) (p ++ q) := by
  refine ⟨by rw [List.length_append, List.length_append, ha.len, hb.len], fun u hu => ?_, fun j c hj => ?_⟩
  · rcases List.mem_append.1 hu with h | h
    · exact ha.one u h
    · exact hb.one u h
  · by_cases hl : j < a.length
    · rw [List.getElem?_append_left hl] at hj
      have := ha.rel j c hj
      rw [List.getD_eq_getElem?_getD] at this ⊢
      rwa [List.getElem?_append_left (by rw [← ha.len]; exact hl)]
    · rw [List.getElem?_append_right (by omega)] at hj
      have := hb.rel _ c hj
      rw [List.getD_eq_getElem?_getD] at this ⊢
      rw [List.getElem?_append_right (by rw [← ha.len]; omega), ← ha.len]
      exact this
theorem flat_len (q : List (List V)) (s : Nat) (h : ∀ y ∈ q, y.length = s) : q.flatten.length = q.length * s := by
  induction q with
  | nil => simp
  | cons y q ih =>
    rw [List.flatten_cons, List.length_append, ih (fun z hz => h z (List.mem_cons_of_mem _ hz)), h y (List.mem_cons_self ..), List.length_cons, Nat.add_mul]; omega
theorem isV_slice {d : Nat} {t e : TypeId} (ht : P.underlying t = some (.slice e)) (hpos : 0 < P.cellsOf e)
    (ih : ∀ n cs x, DataW.trod enc P w base spare held n e cs = some x → ∃ vs, isV P d e vs ∧ Cs M0 w (X0 w) 0 vs cs) {n : Nat} {cs : List Value} {x : DataW H × List MemPlace}
    (h : DataW.trod enc P w base spare held n t cs = some x) : ∃ xs, (∀ y ∈ xs, isV P d e y) ∧ Cs M0 w (X0 w) 0 [.sl (P.cellsOf e) false xs] cs := by
  rcases DataW.trod_slice ht h with ⟨rfl, _⟩ | ⟨a, len, cap, elems, rest, n, _, rfl, rfl, hb, hl, hm, hlen, hel, _, _⟩
  · exact ⟨[], by simp, Cs_one (.sl _ _ false [] none 0 0 (fun _ => undef) rfl (Nat.le_refl _) (by decide) (by simp) (fun h => by omega) (by simp) (fun h => by omega) (by simp)) rfl⟩
  · have each : ∀ i, i < len → ∃ vs cs', isV P d e vs ∧ Cs M0 w (X0 w) 0 vs cs' ∧ cs'.length = P.cellsOf e ∧ ∀ j, j < P.cellsOf e → w.cell? (a.add (i * P.cellsOf e + j)) = cs'[j]? := fun i hi => by
      have hE := hel i hi
      have : elems[i]? = some (elems[i]'(by omega)) := List.getElem?_eq_getElem _
      rw [this, Option.bind_eq_some_iff] at hE
      obtain ⟨c1, hc1, hy1⟩ := hE
      obtain ⟨_, hl1, hcell⟩ := World.cells?_some hc1
      obtain ⟨vs, h1, h2⟩ := ih _ _ _ hy1
      exact ⟨vs, c1, h1, h2, hl1, fun j hj => by rw [← hcell j hj, Addr.add_add]⟩
    let g : Nat → List V := fun i => if hi : i < len then Classical.choose (each i hi) else []
    have hg : ∀ i (hi : i < len), ∃ cs', isV P d e (g i) ∧ Cs M0 w (X0 w) 0 (g i) cs' ∧ cs'.length = P.cellsOf e ∧ ∀ j, j < P.cellsOf e → w.cell? (a.add (i * P.cellsOf e + j)) = cs'[j]? := fun i hi => by
      have := Classical.choose_spec (each i hi)
      simp only [g, hi, dif_pos]
      exact this
    have hgl : ∀ i, i < len → (g i).length = P.cellsOf e := fun i hi => by
      obtain ⟨cs', _, h2, h3, _⟩ := hg i hi
      rw [h2.len, h3]
    have hcl : ∀ k, k < len * P.cellsOf e → ∃ u, w.cell? (a.add k) = some u ∧ u.oneCell' = true ∧ ∀ v, (g (k / P.cellsOf e))[k % P.cellsOf e]? = some v → R M0 w (X0 w) 0 v u := fun k hk => by
      have hi : k / P.cellsOf e < len := Nat.div_lt_of_lt_mul (by rwa [Nat.mul_comm])
      obtain ⟨cs', h1, h2, h3, h4⟩ := hg _ hi
      have hj := Nat.mod_lt k hpos
      have := h4 _ hj
      rw [Nat.div_add_mod' k, List.getElem?_eq_getElem (by omega)] at this
      refine ⟨_, this, h2.one _ (List.getElem_mem _), fun v hv => ?_⟩
      have := h2.rel _ v hv
      rwa [List.getD_eq_getElem?_getD, List.getElem?_eq_getElem (by omega)] at this
    have hxl : ((List.range len).map g).length = len := by simp
    have hxm : ∀ y ∈ (List.range len).map g, ∃ i, i < len ∧ y = g i := fun y hy => by
      obtain ⟨i, hi, rfl⟩ := List.mem_map.1 hy
      exact ⟨i, List.mem_range.1 hi, rfl⟩
    have hflat : ∀ (m : Nat), m ≤ len → ∀ (k : Nat) (v : V), ((List.range m).map g).flatten[k]? = some v → k < m * P.cellsOf e ∧ (g (k / P.cellsOf e))[k % P.cellsOf e]? = some v := by
      intro m
      induction m with
      | zero => intro _ k v hv; simp at hv
      | succ m ihm =>
        intro hm' k v hv
        rw [List.range_succ, List.map_append, List.flatten_append] at hv
        have hfl : ((List.range m).map g).flatten.length = m * P.cellsOf e := by
          rw [flat_len ((List.range m).map g) (P.cellsOf e) fun y hy => ?_]
          · simp
          · obtain ⟨i, hi, rfl⟩ := List.mem_map.1 hy
            exact hgl i (by have := List.mem_range.1 hi; omega)
        by_cases hk : k < m * P.cellsOf e
        · rw [List.getElem?_append_left (by omega)] at hv
          obtain ⟨h1, h2⟩ := ihm (by omega) k v hv
          exact ⟨by rw [Nat.add_mul]; omega, h2⟩
        · rw [List.getElem?_append_right (by omega), hfl] at hv
          simp only [List.map_cons, List.map_nil, List.flatten_cons, List.flatten_nil, List.append_nil] at hv
          have hlt := (List.getElem?_eq_some_iff.1 hv).1
          rw [hgl m (by omega)] at hlt
          have e1 : k / P.cellsOf e = m := Nat.div_eq_of_lt_le (by omega) (by rw [Nat.add_mul]; omega)
          have e2 : k % P.cellsOf e = k - m * P.cellsOf e := by
            have := Nat.div_add_mod' k (P.cellsOf e)
            rw [e1] at this; omega
          exact ⟨by rw [Nat.add_mul]; omega, by rw [e1, e2]; exact hv⟩
    refine ⟨(List.range len).map g, fun y hy => ?_, Cs_one (.sl _ _ false _ (some a) len cap (fun k => (w.cell? (a.add k)).getD undef) hxl.symm hl hm (by simp) (fun h => by omega) (fun y hy => ?_) (fun h0 => ⟨a, rfl, ?_, fun j hj => ?_⟩) fun j u hu => ?_) rfl⟩
    · obtain ⟨i, hi, rfl⟩ := hxm y hy
      obtain ⟨_, h1, _⟩ := hg i hi
      exact h1
    · obtain ⟨i, hi, rfl⟩ := hxm y hy
      exact hgl i hi
    · obtain ⟨u, hu, _⟩ := hcl 0 (Nat.mul_pos h0 hpos)
      have := cell_lt hu
      rwa [add_block] at this
    · obtain ⟨u, hu, h1, _⟩ := hcl j hj
      rw [hu]; exact ⟨rfl, h1⟩
    · obtain ⟨h1, h2⟩ := hflat len (Nat.le_refl _) j u hu
      obtain ⟨u', hu', _, h4⟩ := hcl j h1
      rw [hu']
      exact h4 u h2
theorem isV_fields {d : Nat} {tot : Nat} (ih : ∀ t, openOk P d t = true → ∀ n cs x, DataW.trod enc P w base spare held n t cs = some x → ∃ vs, isV P d t vs ∧ Cs M0 w (X0 w) 0 vs cs) {n : Nat} {cs : List Value} (hl : cs.length = tot) :
    ∀ (fs : List Field) (o : Nat), o ≤ tot → fsOk P (openOk P d) tot fs o = true → (∀ f ∈ fs, ∃ y, DataW.trod enc P w base spare held n f.type ((cs.drop f.offset).take (P.cellsOf f.type)) = some y) →
      ∃ vs, isFs (isV P d) fs vs ∧ Cs M0 w (X0 w) 0 vs (cs.drop o)
  | [], o, _, hok, _ => by
    simp only [fsOk, decide_eq_true_eq] at hok
    refine ⟨[], rfl, ?_⟩
    rw [List.drop_of_length_le (by omega)]
    exact ⟨rfl, by simp, by simp⟩
  | f :: r, o, ho, hok, hf => by
    simp only [fsOk, Bool.and_eq_true, decide_eq_true_eq] at hok
    obtain ⟨⟨⟨h1, hle⟩, h2⟩, h3⟩ := hok
    obtain ⟨y, hy⟩ := hf f (List.mem_cons_self ..)
    obtain ⟨a, ha, hca⟩ := ih _ h2 _ _ _ hy
    obtain ⟨b, hb, hcb⟩ := isV_fields ih hl r _ hle h3 (fun f' hf' => hf f' (List.mem_cons_of_mem _ hf'))
    refine ⟨a ++ b, ⟨a, b, rfl, ha, hb⟩, ?_⟩
    have := Cs_app hca hcb
    rw [h1, ← List.drop_drop, List.take_append_drop] at this
    exact this
theorem opens : ∀ (d : Nat) (t : TypeId), openOk P d t = true → ∀ n cs x, DataW.trod enc P w base spare held n t cs = some x → ∃ vs, isV P d t vs ∧ Cs M0 w (X0 w) 0 vs cs
  | 0, _, h => by simp [openOk] at h
  | d + 1, t, hok => fun n cs x h => by
    unfold openOk at hok
    split at hok
    · rename_i ht
      obtain ⟨b, rfl, _⟩ := DataW.trod_bool ht h
      exact ⟨_, by simp only [isV, ht]; exact ⟨b, rfl⟩, Cs_one (.bool _ _) rfl⟩
    · rename_i k ht
      obtain ⟨z, rfl, _, hw⟩ := DataW.trod_int ht h
      exact ⟨_, by simp only [isV, ht]; exact ⟨z, (Lit.wf_int_iff _ _).1 hw, rfl⟩, Cs_one (.int _ _ _) rfl⟩
    · rename_i ht
      obtain ⟨s, rfl, _, _⟩ := DataW.trod_string ht h
      exact ⟨_, by simp only [isV, ht]; exact ⟨s.data.toList, rfl⟩, Cs_one (R_string s) rfl⟩
    · rename_i e ht
      simp only [Bool.and_eq_true, decide_eq_true_eq] at hok
      obtain ⟨xs, h1, h2⟩ := isV_slice ht hok.1 (opens d e hok.2) h
      exact ⟨_, by simp only [isV, ht]; exact ⟨xs, rfl, h1⟩, h2⟩
    · rename_i fs ht
      obtain ⟨xs, n, _, rfl, hl, hlen, hf⟩ := DataW.trod_struct ht h
      obtain ⟨vs, h1, h2⟩ := isV_fields (tot := P.cellsOf t) (n := n) (opens d) hl fs.toList 0 (Nat.zero_le _) hok (fun f hf' => by
        obtain ⟨i, hi⟩ := List.getElem?_of_mem hf'
        have hi' : i < xs.length := by
          have := (List.getElem?_eq_some_iff.1 hi).1
          rw [hlen]; simpa using this
        exact ⟨xs[i], (hf i f (by simpa using hi)).trans (List.getElem?_eq_getElem hi')⟩)
      exact ⟨vs, by simp only [isV, ht]; exact h1, by simpa using h2⟩
    · simp at hok
theorem R_struct {t : TypeId} {fs : Array Field} {v : Value} {dd : DataW H} {p : List MemPlace} {r : Reach} {b0 : Nat} (d : Nat) (hok : openOk P d t = true) (hs : P.underlying t = some (.struct fs)) (hv : Value.okWide P w r b0 t v) (h : DataW.Trod enc P w base spare held t v dd p) :
    ∃ vs, isV P d t vs ∧ R M0 w (X0 w) 0 (.st vs) v := by
  obtain ⟨cs, rfl, hsz⟩ := okWide_struct hs hv
  obtain ⟨fuel, hf⟩ := h
  obtain ⟨vs, h1, h2⟩ := opens d t hok _ _ _ hf
  refine ⟨vs, h1, .st _ _ _ (by rw [h2.len]; simp [Value.cells]) (fun u hu => h2.one u (by simpa [Value.cells] using hu)) (fun j u hu => ?_)⟩
  have := h2.rel j u hu
  simpa [Value.cells, Array.getD_eq_getD_getElem?, List.getD_eq_getElem?_getD] using this
theorem R_slice {t e : TypeId} {v : Value} {dd : DataW H} {p : List MemPlace} {r : Reach} {b0 : Nat} (d : Nat) (hok : openOk P (d + 1) t = true) (hs : P.underlying t = some (.slice e)) (hv : Value.okWide P w r b0 t v) (h : DataW.Trod enc P w base spare held t v dd p) :
    ∃ xs, (∀ x ∈ xs, isV P d e x) ∧ R M0 w (X0 w) 0 (.sl (P.cellsOf e) false xs) v := by
  obtain ⟨a, len, cap, rfl⟩ := okWide_slice hs hv
  obtain ⟨fuel, hf⟩ := h
  obtain ⟨vs, h1, h2⟩ := opens (d + 1) t hok _ _ _ hf
  unfold isV at h1
  simp only [hs] at h1
  obtain ⟨xs, rfl, hx⟩ := h1
  exact ⟨xs, hx, h2.rel 0 _ rfl⟩
end Go.Proofs.Ytnjpakhnaegdgaa
