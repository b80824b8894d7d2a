/- What every seat needs: loops, joins, lists of strings and numbers, opening what came in (no program in sight). -/
import Derived.Test.YtjlbpkokdlggiaaDoorAbW
import Derived.WalkKit
import Derived.ProofKit
import Derived.OpenShut
import Derived.ShutString
import Derived.ChangeOld
import Derived.Below
import Derived.SliceStrings
import Derived.Lib.SmallJoins
import Derived.ChangeSlices
import Derived.DataShut
import Derived.DataReads
import Derived.DataElems
import Derived.ChangeArms
namespace Go.Ab
open Go.RowKit
def again (I : Nat → St → Prop) (k : Nat) (s' : St) : Prop := ∃ k' s'' ρ, k' < k ∧ Le ρ s' s'' ∧ I k' s''
theorem again_of {I : Nat → St → Prop} {k : Nat} {s' : St} (k' : Nat) (s'' : St) (ρ : Nat → Nat) (h : k' < k) (hI : I k' s'') (hle : Le ρ s' s'') : again I k s' := ⟨k', s'', ρ, h, hle, hI⟩
theorem awp_loopA [Glo] {P : Program} {st : St} {Q : Exit → St → Prop} {c : Code} (I : Nat → St → Prop) {k0 : Nat} {st0 : St} {ρ0 : Nat → Nat} (hle : Le ρ0 st st0) (h0 : I k0 st0)
    (round : ∀ k s, I k s → s.n = st.n → awp P c (thn (again I k) Q) s) : awp P (.loop c) Q st := awp_loop I hle h0 round
theorem awp_ownSl [Glo] {P : Program} {c : Code} {Q : Exit → St → Prop} {st : St} (t id : Nat) {o : Ob} (ht : lkT st.tmp t = .own id) (ho : lookO st.ob id = some o) (hb : o.box = false)
    (h : awp P c Q { st with tmp := (t, .sl o.sz false o.xs) :: st.tmp, ob := fzs [id] st.ob }) : awp P c Q st := fun base Xa w0 a w ⟨M, hM⟩ => by
  have hv := hM.tmps t
  rw [ht] at hv
  have hone : (a.tmps.getD t undef).oneCell' = true := by
    generalize a.tmps.getD t undef = u at hv ⊢
    cases hv with
    | own _ _ A l c hid hv => rfl
  have hC : Cs M w (Xf base Xa w M st.ob) st.nx [.own id] [a.tmps.getD t undef] := ⟨rfl, fun u hu => by rw [List.mem_singleton.1 hu]; exact hone, fun j c hc => by
    match j, hc with
    | 0, hc => simp only [List.getElem?_cons_zero, Option.some.injEq] at hc; subst hc; exact hv
    | j + 1, hc => simp at hc⟩
  have hp := (Cs.pur hM hC).rel 0 (pur1 st.ob (.own id)) rfl
  have he : pur1 st.ob (.own id) = .sl o.sz false o.xs := by simp only [pur1, ho, hb, cond_false]
  rw [he] at hp
  have hF := hM.fz [id]
  refine h base Xa w0 a w ⟨M, hF.below, hF.hbase, hF.xa, hF.gh, hF.pin, hF.defers, hF.size, fun t' => ?_, hF.obs, hF.dist⟩
  simp only [lkT]
  split
  · rename_i e; subst e
    exact hp.mono (Nat.zero_le _) (fun _ h => absurd h (by omega)) (fun _ h => h) (fun _ _ => rfl)
  · exact hF.tmps t'
theorem InlC.mono [Glo] {P : Program} {f : FuncId} {args : List V} {nx : Nat} {ob : List (Nat × Option Ob)} {Post Post' : V → Nat → List (Nat × Option Ob) → Prop} (h : InlC P f args nx ob Post) (hp : ∀ r nx' ob', Post r nx' ob' → Post' r nx' ob') : InlC P f args nx ob Post' :=
  ⟨h.1, fun base Xa w0 w M vals h0 hs hr => (h.2 base Xa w0 w M vals h0 hs hr).mono fun e w' ⟨val, r, nx', ob', M', h1, h2, h3, h4⟩ => ⟨val, r, nx', ob', M', h1, hp r nx' ob' h2, h3, h4⟩⟩
/-- What lies behind is walked once. -/
theorem join_of [Glo] {P : Program} {y : Code} {Q : Exit → St → Prop} {K : St → Prop} {G : Prop} {α : Type} (f : α → St) (pre : α → Prop) (hK : ∀ s, awp P y Q s → K s) (h1 : ∀ x, pre x → awp P y Q (f x))
    (h2 : (∀ (x : α) (s : St) (ρ : Nat → Nat), pre x → Le ρ s (f x) → K s) → G) : G := h2 fun x s _ hp hle => hK s (awp_le hle (h1 x hp))
def isFs (rc : TypeId → List V → Prop) : List Field → List V → Prop
  | [], vs => vs = []
  | f :: r, vs => ∃ a b, vs = a ++ b ∧ rc f.type a ∧ isFs rc r b
/-- the cells of a value of a type -/
def isV (P : Program) : Nat → TypeId → List V → Prop
  | 0, _, _ => False
  | d + 1, t, vs => match P.underlying t with
    | some .bool => ∃ b, vs = [.bool b]
    | some (.int k) => ∃ n, (k.min ≤ n ∧ n ≤ k.max) ∧ vs = [.int k n]
    | some .string => ∃ s, vs = [.str s]
    | some (.slice e) => ∃ xs, vs = [.sl (P.cellsOf e) false xs] ∧ ∀ x ∈ xs, isV P d e x
    | some (.struct fs) => isFs (isV P d) fs.toList vs
    | _ => False
def fsOk (P : Program) (rc : TypeId → Bool) (tot : Nat) : List Field → Nat → Bool
  | [], o => decide (o = tot)
  | f :: r, o => decide (f.offset = o) && decide (o + P.cellsOf f.type ≤ tot) && rc f.type && fsOk P rc tot r (o + P.cellsOf f.type)
def openOk (P : Program) : Nat → TypeId → Bool
  | 0, _ => false
  | d + 1, t => match P.underlying t with
    | some .bool => true
    | some (.int _) => true
    | some .string => true
    | some (.slice e) => decide (0 < P.cellsOf e) && openOk P d e
    | some (.struct fs) => fsOk P (openOk P d) (P.cellsOf t) fs.toList 0
    | _ => false
end Go.Ab
namespace Go.Proofs.YtjlbpkokdlggiaaDoor
open Go.Ab Go.ChangeShapes Go.WideShapes Go.ChangeAt Go.RowKit
set_option linter.unusedSimpArgs false
section
theorem wrap_i64_in {n : Int} (h1 : -9223372036854775808 ≤ n) (h2 : n ≤ 9223372036854775807) : IntKind.i64.wrap n = n := by rw [IntKind.wrap_i64]; omega
def strs (l : List (List UInt8)) : List (List V) := l.map fun s => [.str s]
theorem strs_at (l : List (List UInt8)) (i : Nat) (h : i < l.length) : (strs l)[i]? = some [.str l[i]] := by simp [strs, h]
theorem all_take (l : List (List UInt8)) (i : Nat) (h : i < l.length) (p : List UInt8 → Bool) : (l.take (i + 1)).all p = ((l.take i).all p && p l[i]) := by
  rw [List.take_succ_eq_append_getElem h, List.all_append]; simp
theorem sstr_len (l : List (List UInt8)) : (strs l).length = l.length := by simp [strs]
theorem sstr_get (l : List (List UInt8)) (i : Nat) (h : i < l.length) : (strs l)[i]?.getD [] = [.str (l.getD i [])] := by simp [strs, h]
theorem strs_take (l : List (List UInt8)) (k : Nat) : (strs l).take k = strs (l.take k) := by simp [strs, List.map_take]
theorem strs_drop (l : List (List UInt8)) (k : Nat) : (strs l).drop k = strs (l.drop k) := by simp [strs, List.map_drop]
theorem strs_app (l m : List (List UInt8)) : strs l ++ strs m = strs (l ++ m) := by simp [strs]
theorem strs_one (l : List (List UInt8)) (s : List UInt8) : strs l ++ [[.str s]] = strs (l ++ [s]) := by simp [strs]
theorem sstr_any [Glo] (l : List (List UInt8)) (i : Nat) : (strs l)[i]?.getD [] = [] ∨ ∃ y, (strs l)[i]?.getD [] = [.str y] := by
  by_cases h : i < l.length
  · exact .inr ⟨_, sstr_get l i h⟩
  · left; simp [strs, List.getElem?_eq_none (Nat.le_of_not_lt h)]
theorem bytesX_len (y : List UInt8) : (bytesX y).length = y.length := by simp [bytesX]
theorem bytesX_at (y : List UInt8) (i : Nat) (h : i < y.length) : (bytesX y)[i]?.getD [] = [.int .u8 ((y.getD i 0).toNat : Int)] := by simp [bytesX, h]
theorem bytesX_at' (y : List UInt8) (i : Nat) (h : i < y.length) : (bytesX y)[i]? = some [.int .u8 ((y.getD i 0).toNat : Int)] := by simp [bytesX, h]
theorem bytesX_set (y : List UInt8) (i : Nat) (c : UInt8) : (bytesX y).set i [.int .u8 (c.toNat : Int)] = bytesX (y.set i c) := by simp [bytesX, List.map_set]
theorem bytesX_str (y : List UInt8) : (bytesX y).map byteV = y := by
  induction y with
  | nil => rfl
  | cons c y ih => simp only [bytesX, List.map_cons] at ih ⊢; rw [ih]; simp [byteV]
theorem bytesX_isB (y : List UInt8) : ∀ z ∈ bytesX y, isByteV z := by
  intro z hz
  simp only [bytesX, List.mem_map] at hz
  obtain ⟨c, _, rfl⟩ := hz
  exact ⟨c, rfl⟩
theorem strs_set (l : List (List UInt8)) (i : Nat) (z : List UInt8) : (strs l).set i [.str z] = strs (l.set i z) := by simp [strs, List.map_set]
theorem byte_wrap (z : Int) : isByteV [.int .u8 (IntKind.u8.wrap z)] := by
  refine ⟨UInt8.ofNat (IntKind.u8.wrap z).toNat, ?_⟩
  have h : 0 ≤ IntKind.u8.wrap z ∧ IntKind.u8.wrap z < 256 := by rw [IntKind.wrap_u8]; omega
  have : ((UInt8.ofNat (IntKind.u8.wrap z).toNat).toNat : Int) = IntKind.u8.wrap z := by
    rw [UInt8.toNat_ofNat']; omega
  rw [this]
def ints (k : IntKind) (l : List Int) : List (List V) := l.map fun n => [.int k n]
theorem ints_len (k : IntKind) (l : List Int) : (ints k l).length = l.length := by simp [ints]
theorem ints_flat (k : IntKind) (l : List Int) : (ints k l).flatten = l.map (.int k) := by
  induction l with
  | nil => rfl
  | cons a r ih => simp only [ints, List.map_cons, List.flatten_cons] at ih ⊢; rw [ih]; rfl
theorem iint_at (k : IntKind) (l : List Int) (i : Nat) (h : i < l.length) : (ints k l)[i]? = some [.int k l[i]] := by simp [ints, h]
abbrev M0 : Mp := fun _ => undef
abbrev X0 (w : World) : Nat → Prop := fun b => b < w.heap.size
theorem says [Glo] {P : Program} {f : FuncId} {args : List V} {w : World} {vals : Array Value} (h : Meets P f args (.bool true)) (hg : GIn w (X0 w)) (hs : vals.size = args.length)
    (hr : ∀ (j : Nat) (u : V), args[j]? = some u → R M0 w (X0 w) 0 u (vals.getD j undef)) :
    Calls P f vals w fun e w' => e = .returned (.bool true) ∧ Below w.heap.size w w' :=
  (h.2 w (X0 w) vals M0 ⟨fun _ h => h, hg, rfl⟩ hs hr).mono fun e w' ⟨val, he, hb, hres⟩ => by
    have := (hres (fun j => (vcells val).getD j undef) 0 (fun j _ => by simp)).1
    have := R_bool (b := true) this
    subst this
    exact ⟨he, hb⟩
theorem cell_lt {w : World} {ad : Addr} {v : Value} (h : w.cell? ad = some v) : ad.block < w.heap.size := by
  rcases Nat.lt_or_ge ad.block w.heap.size with h' | h'
  · exact h'
  · unfold World.cell? at h
    simp [Array.getElem?_eq_none h'] at h
theorem add_block (ad : Addr) (j : Nat) : (ad.add j).block = ad.block := by unfold Addr.add; split <;> rfl
variable {P : Program} {w : World} {base : Nat} {spare : Nat → Bool} {held : Bool} {H : Type} {enc : TypeId × Value → H}
theorem R_string (s : ByteArray) : R M0 w (X0 w) 0 (.str s.data.toList) (.string s) := by
  have : s = ⟨s.data.toList.toArray⟩ := by cases s; simp
  conv => rhs; rw [this]
  exact .str _ _
theorem R_list {M : Mp} {X : Nat → Prop} {n : Nat} : ∀ {cs : List V} {us : List Value}, cs.length = us.length → (∀ p ∈ cs.zip us, R M w X n p.1 p.2 ∧ p.2.oneCell' = true) → R M w X n (.st cs) (.agg us.toArray) := fun {cs us} hl h => by
  refine .st _ _ _ (by simpa using hl) (fun u hu => ?_) (fun j u hu => ?_)
  · obtain ⟨j, hj, rfl⟩ := List.getElem_of_mem (by simpa using hu : u ∈ us)
    have := h (cs[j]'(by omega), us[j]) (List.mem_of_getElem? (i := j) (by rw [List.getElem?_zip_eq_some]; exact ⟨List.getElem?_eq_getElem _, List.getElem?_eq_getElem _⟩))
    exact this.2
  · have hj := (List.getElem?_eq_some_iff.1 hu).1
    have := h (u, us[j]'(by omega)) (List.mem_of_getElem? (i := j) (by rw [List.getElem?_zip_eq_some]; exact ⟨hu, List.getElem?_eq_getElem _⟩))
    simpa [Array.getD, show j < us.length by omega] using this.1
theorem Cs_one {v : V} {u : Value} (h : R M0 w (X0 w) 0 v u) (h1 : u.oneCell' = true) : Cs M0 w (X0 w) 0 [v] [u] :=
  ⟨rfl, fun x hx => by rw [List.mem_singleton.1 hx]; exact h1, fun j c hj => by
    match j, hj with
    | 0, hj => simp only [List.getElem?_cons_zero, Option.some.injEq] at hj; subst hj; exact h
    | j + 1, hj => simp at hj⟩
theorem Cs_app {a b : List V} {p q : List Value} (ha : Cs M0 w (X0 w) 0 a p) (hb : Cs M0 w (X0 w) 0 b q) : Cs M0 w (X0 w) 0 (a ++ b) (p ++ q) := by
  refine ⟨by rw [List.length_append, List.length_append, ha.len, hb.len], fun u hu => ?_, fun j c hj => ?_⟩
  · rcases List.mem_append.1 hu with h | h
    · exact ha.one u h
    · exact hb.one u h
  · by_cases hl : j < a.length
    · rw [List.getElem?_append_left hl] at hj
      have := ha.rel j c hj
      rw [List.getD_eq_getElem?_getD] at this ⊢
      rwa [List.getElem?_append_left (by rw [← ha.len]; exact hl)]
    · rw [List.getElem?_append_right (by omega)] at hj
      have := hb.rel _ c hj
      rw [List.getD_eq_getElem?_getD] at this ⊢
      rw [List.getElem?_append_right (by rw [← ha.len]; omega), ← ha.len]
      exact this
theorem flat_len (q : List (List V)) (s : Nat) (h : ∀ y ∈ q, y.length = s) : q.flatten.length = q.length * s := by
  induction q with
  | nil => simp
  | cons y q ih =>
    rw [List.flatten_cons, List.length_append, ih (fun z hz => h z (List.mem_cons_of_mem _ hz)), h y (List.mem_cons_self ..), List.length_cons, Nat.add_mul]; omega
theorem isV_slice [Glo] {d : Nat} {t e : TypeId} (ht : P.underlying t = some (.slice e)) (hpos : 0 < P.cellsOf e)
    (ih : ∀ n cs x, DataW.trod enc P w base spare held n e cs = some x → ∃ vs, isV P d e vs ∧ Cs M0 w (X0 w) 0 vs cs) {n : Nat} {cs : List Value} {x : DataW H × List MemPlace}
    (h : DataW.trod enc P w base spare held n t cs = some x) : ∃ xs, (∀ y ∈ xs, isV P d e y) ∧ Cs M0 w (X0 w) 0 [.sl (P.cellsOf e) false xs] cs := by
  rcases DataW.trod_slice ht h with ⟨rfl, _⟩ | ⟨a, len, cap, elems, rest, n, _, rfl, rfl, hb, hl, hm, hlen, hel, _, _⟩
  · exact ⟨[], by simp, Cs_one (.sl _ _ false [] none 0 0 (fun _ => undef) rfl (Nat.le_refl _) (by decide) (by simp) (fun h => by omega) (by simp) (fun h => by omega) (by simp)) rfl⟩
  · have each : ∀ i, i < len → ∃ vs cs', isV P d e vs ∧ Cs M0 w (X0 w) 0 vs cs' ∧ cs'.length = P.cellsOf e ∧ ∀ j, j < P.cellsOf e → w.cell? (a.add (i * P.cellsOf e + j)) = cs'[j]? := fun i hi => by
      have hE := hel i hi
      have : elems[i]? = some (elems[i]'(by omega)) := List.getElem?_eq_getElem _
      rw [this, Option.bind_eq_some_iff] at hE
      obtain ⟨c1, hc1, hy1⟩ := hE
      obtain ⟨_, hl1, hcell⟩ := World.cells?_some hc1
      obtain ⟨vs, h1, h2⟩ := ih _ _ _ hy1
      exact ⟨vs, c1, h1, h2, hl1, fun j hj => by rw [← hcell j hj, Addr.add_add]⟩
    let g : Nat → List V := fun i => if hi : i < len then Classical.choose (each i hi) else []
    have hg : ∀ i (hi : i < len), ∃ cs', isV P d e (g i) ∧ Cs M0 w (X0 w) 0 (g i) cs' ∧ cs'.length = P.cellsOf e ∧ ∀ j, j < P.cellsOf e → w.cell? (a.add (i * P.cellsOf e + j)) = cs'[j]? := fun i hi => by
      have := Classical.choose_spec (each i hi)
      simp only [g, hi, dif_pos]
      exact this
    have hgl : ∀ i, i < len → (g i).length = P.cellsOf e := fun i hi => by
      obtain ⟨cs', _, h2, h3, _⟩ := hg i hi
      rw [h2.len, h3]
    have hcl : ∀ k, k < len * P.cellsOf e → ∃ u, w.cell? (a.add k) = some u ∧ u.oneCell' = true ∧ ∀ v, (g (k / P.cellsOf e))[k % P.cellsOf e]? = some v → R M0 w (X0 w) 0 v u := fun k hk => by
      have hi : k / P.cellsOf e < len := Nat.div_lt_of_lt_mul (by rwa [Nat.mul_comm])
      obtain ⟨cs', h1, h2, h3, h4⟩ := hg _ hi
      have hj := Nat.mod_lt k hpos
      have := h4 _ hj
      rw [Nat.div_add_mod' k, List.getElem?_eq_getElem (by omega)] at this
      refine ⟨_, this, h2.one _ (List.getElem_mem _), fun v hv => ?_⟩
      have := h2.rel _ v hv
      rwa [List.getD_eq_getElem?_getD, List.getElem?_eq_getElem (by omega)] at this
    have hxl : ((List.range len).map g).length = len := by simp
    have hxm : ∀ y ∈ (List.range len).map g, ∃ i, i < len ∧ y = g i := fun y hy => by
      obtain ⟨i, hi, rfl⟩ := List.mem_map.1 hy
      exact ⟨i, List.mem_range.1 hi, rfl⟩
    have hflat : ∀ (m : Nat), m ≤ len → ∀ (k : Nat) (v : V), ((List.range m).map g).flatten[k]? = some v → k < m * P.cellsOf e ∧ (g (k / P.cellsOf e))[k % P.cellsOf e]? = some v := by
      intro m
      induction m with
      | zero => intro _ k v hv; simp at hv
      | succ m ihm =>
        intro hm' k v hv
        rw [List.range_succ, List.map_append, List.flatten_append] at hv
        have hfl : ((List.range m).map g).flatten.length = m * P.cellsOf e := by
          rw [flat_len ((List.range m).map g) (P.cellsOf e) fun y hy => ?_]
          · simp
          · obtain ⟨i, hi, rfl⟩ := List.mem_map.1 hy
            exact hgl i (by have := List.mem_range.1 hi; omega)
        by_cases hk : k < m * P.cellsOf e
        · rw [List.getElem?_append_left (by omega)] at hv
          obtain ⟨h1, h2⟩ := ihm (by omega) k v hv
          exact ⟨by rw [Nat.add_mul]; omega, h2⟩
        · rw [List.getElem?_append_right (by omega), hfl] at hv
          simp only [List.map_cons, List.map_nil, List.flatten_cons, List.flatten_nil, List.append_nil] at hv
          have hlt := (List.getElem?_eq_some_iff.1 hv).1
          rw [hgl m (by omega)] at hlt
          have e1 : k / P.cellsOf e = m := Nat.div_eq_of_lt_le (by omega) (by rw [Nat.add_mul]; omega)
          have e2 : k % P.cellsOf e = k - m * P.cellsOf e := by
            have := Nat.div_add_mod' k (P.cellsOf e)
            rw [e1] at this; omega
          exact ⟨by rw [Nat.add_mul]; omega, by rw [e1, e2]; exact hv⟩
    refine ⟨(List.range len).map g, fun y hy => ?_, Cs_one (.sl _ _ false _ (some a) len cap (fun k => (w.cell? (a.add k)).getD undef) hxl.symm hl hm (by simp) (fun h => by omega) (fun y hy => ?_) (fun h0 => ⟨a, rfl, ?_, fun j hj => ?_⟩) fun j u hu => ?_) rfl⟩
    · obtain ⟨i, hi, rfl⟩ := hxm y hy
      obtain ⟨_, h1, _⟩ := hg i hi
      exact h1
    · obtain ⟨i, hi, rfl⟩ := hxm y hy
      exact hgl i hi
    · obtain ⟨u, hu, _⟩ := hcl 0 (Nat.mul_pos h0 hpos)
      have := cell_lt hu
      rwa [add_block] at this
    · obtain ⟨u, hu, h1, _⟩ := hcl j hj
      rw [hu]; exact ⟨rfl, h1⟩
    · obtain ⟨h1, h2⟩ := hflat len (Nat.le_refl _) j u hu
      obtain ⟨u', hu', _, h4⟩ := hcl j h1
      rw [hu']
      exact h4 u h2
theorem isV_fields [Glo] {d : Nat} {tot : Nat} (ih : ∀ t, openOk P d t = true → ∀ n cs x, DataW.trod enc P w base spare held n t cs = some x → ∃ vs, isV P d t vs ∧ Cs M0 w (X0 w) 0 vs cs) {n : Nat} {cs : List Value} (hl : cs.length = tot) :
    ∀ (fs : List Field) (o : Nat), o ≤ tot → fsOk P (openOk P d) tot fs o = true → (∀ f ∈ fs, ∃ y, DataW.trod enc P w base spare held n f.type ((cs.drop f.offset).take (P.cellsOf f.type)) = some y) →
      ∃ vs, isFs (isV P d) fs vs ∧ Cs M0 w (X0 w) 0 vs (cs.drop o)
  | [], o, _, hok, _ => by
    simp only [fsOk, decide_eq_true_eq] at hok
    refine ⟨[], rfl, ?_⟩
    rw [List.drop_of_length_le (by omega)]
    exact ⟨rfl, by simp, by simp⟩
  | f :: r, o, ho, hok, hf => by
    simp only [fsOk, Bool.and_eq_true, decide_eq_true_eq] at hok
    obtain ⟨⟨⟨h1, hle⟩, h2⟩, h3⟩ := hok
    obtain ⟨y, hy⟩ := hf f (List.mem_cons_self ..)
    obtain ⟨a, ha, hca⟩ := ih _ h2 _ _ _ hy
    obtain ⟨b, hb, hcb⟩ := isV_fields ih hl r _ hle h3 (fun f' hf' => hf f' (List.mem_cons_of_mem _ hf'))
    refine ⟨a ++ b, ⟨a, b, rfl, ha, hb⟩, ?_⟩
    have := Cs_app hca hcb
    rw [h1, ← List.drop_drop, List.take_append_drop] at this
    exact this
theorem opens [Glo] : ∀ (d : Nat) (t : TypeId), openOk P d t = true → ∀ n cs x, DataW.trod enc P w base spare held n t cs = some x → ∃ vs, isV P d t vs ∧ Cs M0 w (X0 w) 0 vs cs
  | 0, _, h => by simp [openOk] at h
  | d + 1, t, hok => fun n cs x h => by
    unfold openOk at hok
    split at hok
    · rename_i ht
      obtain ⟨b, rfl, _⟩ := DataW.trod_bool ht h
      exact ⟨_, by simp only [isV, ht]; exact ⟨b, rfl⟩, Cs_one (.bool _ _) rfl⟩
    · rename_i k ht
      obtain ⟨z, rfl, _, hw⟩ := DataW.trod_int ht h
      exact ⟨_, by simp only [isV, ht]; exact ⟨z, (Lit.wf_int_iff _ _).1 hw, rfl⟩, Cs_one (.int _ _ _) rfl⟩
    · rename_i ht
      obtain ⟨s, rfl, _, _⟩ := DataW.trod_string ht h
      exact ⟨_, by simp only [isV, ht]; exact ⟨s.data.toList, rfl⟩, Cs_one (R_string s) rfl⟩
    · rename_i e ht
      simp only [Bool.and_eq_true, decide_eq_true_eq] at hok
      obtain ⟨xs, h1, h2⟩ := isV_slice ht hok.1 (opens d e hok.2) h
      exact ⟨_, by simp only [isV, ht]; exact ⟨xs, rfl, h1⟩, h2⟩
    · rename_i fs ht
      obtain ⟨xs, n, _, rfl, hl, hlen, hf⟩ := DataW.trod_struct ht h
      obtain ⟨vs, h1, h2⟩ := isV_fields (tot := P.cellsOf t) (n := n) (opens d) hl fs.toList 0 (Nat.zero_le _) hok (fun f hf' => by
        obtain ⟨i, hi⟩ := List.getElem?_of_mem hf'
        have hi' : i < xs.length := by
          have := (List.getElem?_eq_some_iff.1 hi).1
          rw [hlen]; simpa using this
        exact ⟨xs[i], (hf i f (by simpa using hi)).trans (List.getElem?_eq_getElem hi')⟩)
      exact ⟨vs, by simp only [isV, ht]; exact h1, by simpa using h2⟩
    · simp at hok
theorem R_struct [Glo] {t : TypeId} {fs : Array Field} {v : Value} {dd : DataW H} {p : List MemPlace} {r : Reach} {b0 : Nat} (d : Nat) (hok : openOk P d t = true) (hs : P.underlying t = some (.struct fs)) (hv : Value.okWide P w r b0 t v) (h : DataW.Trod enc P w base spare held t v dd p) :
    ∃ vs, isV P d t vs ∧ R M0 w (X0 w) 0 (.st vs) v := by
  obtain ⟨cs, rfl, hsz⟩ := okWide_struct hs hv
  obtain ⟨fuel, hf⟩ := h
  obtain ⟨vs, h1, h2⟩ := opens d t hok _ _ _ hf
  refine ⟨vs, h1, .st _ _ _ (by rw [h2.len]; simp [Value.cells]) (fun u hu => h2.one u (by simpa [Value.cells] using hu)) (fun j u hu => ?_)⟩
  have := h2.rel j u hu
  simpa [Value.cells, Array.getD_eq_getD_getElem?, List.getD_eq_getElem?_getD] using this
theorem R_slice [Glo] {t e : TypeId} {v : Value} {dd : DataW H} {p : List MemPlace} {r : Reach} {b0 : Nat} (d : Nat) (hok : openOk P (d + 1) t = true) (hs : P.underlying t = some (.slice e)) (hv : Value.okWide P w r b0 t v) (h : DataW.Trod enc P w base spare held t v dd p) :
    ∃ xs, (∀ x ∈ xs, isV P d e x) ∧ R M0 w (X0 w) 0 (.sl (P.cellsOf e) false xs) v := by
  obtain ⟨a, len, cap, rfl⟩ := okWide_slice hs hv
  obtain ⟨fuel, hf⟩ := h
  obtain ⟨vs, h1, h2⟩ := opens (d + 1) t hok _ _ _ hf
  unfold isV at h1
  simp only [hs] at h1
  obtain ⟨xs, rfl, hx⟩ := h1
  exact ⟨xs, hx, h2.rel 0 _ rfl⟩
end
end Go.Proofs.YtjlbpkokdlggiaaDoor
