/- Abstract states for walks, part 6: the operations that lay no memory, together. -/
import Derived.Test.YtjlbpkokdlggiaaDoorAbE
import Derived.Laws.BytesString
import Derived.Laws.BytesArg
namespace Go.Ab
open Go.RowKit
section
variable {P : Program} {base : Nat} {w : World} {st : St} {a : Act} {M : Mp} {p : Prop} {v : V} {X : Nat → Prop} {N : Nat}

theorem pv_indexAddr [Glo] {t : TypeId} {x ix : Operand} (h : pv P st (.indexAddr t x ix) = some (p, v)) (hp : p) (hR : RelX base st a w M X N) :
    ∃ u, (Instr.indexAt t (a.eval x) (a.eval ix)).run P w = .ok u w ∧ R M w (X) N v u := by
  have hx := ev_R hR x
  have hi := ev_R hR ix
  simp only [pv] at h
  split at h
  · rename_i k z hez
    rw [hez] at hi
    rw [R_int hi]
    split at h
    · rename_i sz tt xs he
      split at h
      · rename_i e s b hs
        simp only [Option.some.injEq, Prod.mk.injEq] at h
        obtain ⟨rfl, rfl⟩ := h
        obtain ⟨hsz, h0, h1⟩ := hp
        rw [he] at hx
        obtain ⟨A, c, f, hu, hlc, hm, ht, hnil, hl, hA, hr⟩ := R_sl hx
        obtain ⟨ad, rfl, hX, hc⟩ := hA (by omega)
        obtain ⟨inf, zz, hund, hinf, _, _, hisz, _, _⟩ := sl_parts hs
        have hsz' : s = sz := by
          rcases hsz with h | h
          · exact h
          · subst h; simp at h1; omega
        subst hsz'
        have hlt : z.toNat < xs.length := by omega
        rw [hu]
        refine ⟨.pointer (some (ad.add (z.toNat * s))), ?_, ?_⟩
        · simp [Instr.indexAt, asIntOf, run_underlying hund, run_sizeOf hinf, hisz, h0, h1]
        · have hel : (xs.getD z.toNat []).length = s := by
            rw [List.getD_eq_getElem?_getD, List.getElem?_eq_getElem hlt]
            exact hl _ (List.getElem_mem hlt)
          refine .iptr _ _ _ (fun j => f (z.toNat * s + j)) (by rw [block_add]; exact hX) (fun j hj => ?_) (fun j u hu => ?_)
          · rw [add_add]
            refine hc _ ?_
            have : (z.toNat + 1) * s ≤ xs.length * s := Nat.mul_le_mul_right _ (by omega)
            rw [Nat.add_mul] at this; omega
          · have hj : j < s := by have := (List.getElem?_eq_some_iff.1 hu).1; omega
            exact hr _ u (by rw [flat_get _ _ _ hl hj]; exact hu)
      · simp at h
    · rename_i id he
      split at h
      · rename_i e s b o hs ho
        simp only [Option.some.injEq, Prod.mk.injEq] at h
        obtain ⟨rfl, rfl⟩ := h
        obtain ⟨rfl, h0, h1⟩ := hp
        rw [he] at hx
        obtain ⟨inf, zz, hund, hinf, _, _, hisz, _, _⟩ := sl_parts hs
        obtain ⟨hid, hok⟩ := hR.obs id o ho
        obtain ⟨vals, hrow, _⟩ := hok.row
        obtain ⟨_, hv⟩ := R_own hx
        · rcases hrow.sl (R_ownSl hx) with ⟨hnil, h2⟩ | ⟨g, cap, cur, hval, _⟩
          · simp at h2; simp [h2] at h1; omega
          · rw [← hv, hval]
            have e : (⟨g, 0, none⟩ : Addr).add (z.toNat * o.sz) = ⟨g, z.toNat * o.sz + 0, none⟩ := by unfold Addr.add; split <;> simp_all
            refine ⟨.pointer (some ((⟨g, 0, none⟩ : Addr).add (z.toNat * o.sz))), ?_, ?_⟩
            · simp [Instr.indexAt, asIntOf, run_underlying hund, run_sizeOf hinf, hisz, h0, h1]
            · rw [e]; exact .ptr _ id o.sz z.toNat 0 g _ hid (by rw [hval]; rfl) rfl
      · simp at h
    · rename_i id sz i off he
      split at h
      · rename_i len es ag har
        simp only [Option.some.injEq, Prod.mk.injEq] at h
        obtain ⟨rfl, rfl⟩ := h
        obtain ⟨h0, h1⟩ := hp
        rw [he] at hx
        obtain ⟨g, hid, hg, hu⟩ := R_ptr hx
        obtain ⟨e, hund, hty⟩ := ar_parts har
        obtain ⟨inf, hinf, hisz⟩ := ty_size hty
        rw [hu]
        have e : (⟨g, i * sz + off, none⟩ : Addr).add (z.toNat * es) = ⟨g, i * sz + (off + z.toNat * es), none⟩ := by unfold Addr.add; split <;> simp_all [Nat.add_assoc]
        refine ⟨.pointer (some ((⟨g, i * sz + off, none⟩ : Addr).add (z.toNat * es))), ?_, ?_⟩
        · simp [Instr.indexAt, asIntOf, run_underlying hund, run_sizeOf hinf, hisz, Instr.sureAddr, h0, h1]
        · rw [e]; exact .ptr _ id sz i _ g _ hid hg rfl
      · simp at h
    · rename_i cs he
      split at h
      · rename_i len es ag har
        simp only [Option.some.injEq, Prod.mk.injEq] at h
        obtain ⟨rfl, rfl⟩ := h
        obtain ⟨h0, h1⟩ := hp
        rw [he] at hx
        obtain ⟨ad, f, hu, hX, hc, hr⟩ := R_iptr hx
        obtain ⟨e, hund, hty⟩ := ar_parts har
        obtain ⟨inf, hinf, hisz⟩ := ty_size hty
        rw [hu]
        refine ⟨.pointer (some (ad.add (z.toNat * es))), ?_, iptr_drop _ hX hc hr⟩
        simp [Instr.indexAt, asIntOf, run_underlying hund, run_sizeOf hinf, hisz, Instr.sureAddr, h0, h1]
      · simp at h
    · simp at h
  · simp at h

theorem pv_index [Glo] {t : TypeId} {x ix : Operand} (h : pv P st (.index t x ix) = some (p, v)) (hp : p) (hR : RelX base st a w M X N) :
    ∃ u, (Instr.index t (a.eval x) (a.eval ix)).run P w = .ok u w ∧ R M w (X) N v u := by
  have hx := ev_R hR x
  have hi := ev_R hR ix
  simp only [pv] at h
  split at h
  · rename_i k z hez
    rw [hez] at hi
    rw [R_int hi]
    split at h
    · rename_i s he
      cases hs : isStr P t with
      | false => simp [hs] at h
      | true =>
        simp only [hs, cond_true, Option.some.injEq, Prod.mk.injEq] at h
        obtain ⟨rfl, rfl⟩ := h
        obtain ⟨h0, h1⟩ := hp
        rw [he] at hx
        rw [R_str hx]
        have hu : P.underlying t = some .string := by
          unfold isStr at hs
          split at hs
          · assumption
          · simp at hs
        have hlt : z.toNat < s.length := by omega
        refine ⟨.int .u8 (s.getD z.toNat 0).toNat, ?_, .int _ _ _⟩
        have e : (ByteArray.mk s.toArray)[z.toNat]? = some (s.getD z.toNat 0) := by
          have hsz : z.toNat < (ByteArray.mk s.toArray).size := by simpa [ByteArray.size] using hlt
          rw [getElem?_pos (ByteArray.mk s.toArray) z.toNat hsz]
          simp [ByteArray.getElem_eq_getElem_data, hlt]
        simp [Instr.index, asIntOf, run_underlying hu, h0, e]
    · rename_i cs he
      split at h
      · rename_i len es ag har
        cases hag : (ag || es == 1) with
        | false => simp [hag] at h
        | true =>
          simp only [hag, cond_true, Option.some.injEq, Prod.mk.injEq] at h
          obtain ⟨rfl, rfl⟩ := h
          obtain ⟨h0, h1, h2⟩ := hp
          rw [he] at hx
          obtain ⟨e, hund, hty⟩ := ar_parts har
          obtain ⟨inf, hinf, hisz⟩ := ty_size hty
          cases hv : a.eval x with
          | agg arr =>
            rw [hv] at hx
            cases hx with
            | st _ _ _ hl h1' hh =>
              obtain ⟨u, hrun, hr⟩ := part_R (P := P) hty hag (z.toNat * es) h2 hl h1' hh
              exact ⟨u, by simpa [Instr.index, asIntOf, run_underlying hund, run_sizeOf hinf, hisz, h0, h1] using hrun, hr⟩
          | _ => rw [hv] at hx; cases hx
      · simp at h
    · simp at h
  · simp at h

theorem byteV_of {y : List V} (h : isByteV y) : y = [.int .u8 (byteV y).toNat] := by
  obtain ⟨b, rfl⟩ := h
  simp [byteV]
theorem bytes_flat [Glo] : ∀ (xs : List (List V)), (∀ y ∈ xs, isByteV y) → xs.flatten = xs.map fun y => .int .u8 (byteV y).toNat
  | [], _ => rfl
  | y :: xs, h => by
    rw [List.flatten_cons, bytes_flat xs fun z hz => h z (List.mem_cons_of_mem _ hz), List.map_cons]
    conv => lhs; arg 1; rw [byteV_of (h y (List.mem_cons_self ..))]
    rfl
theorem b2s [Glo] {ad : Addr} {c n : Nat} {xs : List (List V)} (hb : ∀ y ∈ xs, isByteV y) (f : Nat → Value) (hc : ∀ j, j < xs.length → w.cell? (ad.add j) = some (f j))
    (hr : ∀ (j : Nat) (u : V), xs.flatten[j]? = some u → R M w X n u (f j)) :
    (Conv.bytesToString (.slice (some ad) xs.length c)).run P w = .ok (.string ⟨(xs.map byteV).toArray⟩) w := by
  have hl := run_loadCells_list (P := P) (w := w) ad ((xs.map fun y => ((byteV y).toNat : Int)).map (Value.int .u8)) (fun j v hv => by
    simp only [List.map_map, List.getElem?_map, Option.map_eq_some_iff] at hv
    obtain ⟨y, hy, rfl⟩ := hv
    have hj : j < xs.length := (List.getElem?_eq_some_iff.1 hy).1
    rw [hc j hj]
    have := hr j (.int .u8 (byteV y).toNat) (by rw [bytes_flat xs hb, List.getElem?_map, hy]; rfl)
    rw [R_int this]; rfl)
  simp only [List.length_map] at hl
  rw [run_bytesToString w ad xs.length c _ hl, foldl_push_bytes]
  have e : (ByteArray.empty).data = #[] := rfl
  rw [e]
  simp only [List.map_map, Function.comp_def, Int.toNat_natCast, UInt8.ofNat_toNat, List.append_toArray, List.nil_append]
theorem isStr_of {t : TypeId} (h : isStr P t = true) : P.underlying t = some .string := by
  unfold isStr at h
  split at h
  · assumption
  · simp at h
theorem R_agg {n : Nat} {cs : List V} {u : Value} (h : R M w X n (.st cs) u) : ∃ A, u = .agg A := by cases h; exact ⟨_, rfl⟩
theorem bs_parts {t : TypeId} (h : bsE P t = true) : ∃ e, P.underlying t = some (.slice e) ∧ P.underlying e = some (.int .u8) := by
  unfold bsE at h
  split at h
  · rename_i e he
    split at h
    · rename_i h2; exact ⟨e, he, h2⟩
    · simp at h
  · simp at h
theorem pv_convert [Glo] {s d : TypeId} {x : Operand} (h : pv P st (.convert s d x) = some (p, v)) (hp : p) (hs : (P.underlying s).isSome = true) (hR : RelX base st a w M X N) :
    ∃ u, (convert s d (a.eval x)).run P w = .ok u w ∧ R M w (X) N v u := by
  have hx := ev_R hR x
  simp only [pv] at h
  split at h
  · rename_i k n he
    rw [he] at hx
    rw [R_int hx]
    split at h
    · rename_i k' hk
      simp only [Option.some.injEq, Prod.mk.injEq] at h
      obtain ⟨rfl, rfl⟩ := h
      have hu : P.underlying d = some (.int k') := by
        unfold isInt at hk
        split at hk
        · simp at hk; subst hk; assumption
        · simp at hk
      obtain ⟨ds, hds⟩ := Option.isSome_iff_exists.1 hs
      refine ⟨.int k' (k'.wrap n), ?_, .int _ _ _⟩
      simp [convert, run_underlying hds, run_underlying hu, Conv.intToInt]
    · simp at h
  · rename_i sz tt xs he
    rw [he] at hx
    cases hb : (bsE P s && isStr P d) with
    | false => simp [hb] at h
    | true =>
      simp only [hb, cond_true, Option.some.injEq, Prod.mk.injEq] at h
      obtain ⟨rfl, rfl⟩ := h
      simp only [Bool.and_eq_true] at hb
      obtain ⟨e, hu, he8⟩ := bs_parts hb.1
      have hd := isStr_of hb.2
      obtain ⟨A, c, f, hv, _, _, _, _, hsz, hA, hr⟩ := R_sl hx
      refine ⟨.string ⟨(xs.map byteV).toArray⟩, ?_, .str _ _⟩
      rw [hv, run_convert_bytes_string w s d e A xs.length c hu he8 hd]
      cases A with
      | none =>
        have : xs = [] := by
          rcases xs with _ | ⟨y, xs⟩
          · rfl
          · obtain ⟨_, h0, _⟩ := hA (by simp); cases h0
        subst this
        simp [Conv.bytesToString]; rfl
      | some ad =>
        refine b2s hp f (fun j hj => ?_) hr
        obtain ⟨ad', h0, _, hcell⟩ := hA (by omega)
        cases h0
        refine (hcell j ?_).1
        have h1 : sz = 1 := by
          obtain ⟨b, hb'⟩ := hp _ (List.getElem_mem hj)
          have := hsz _ (List.getElem_mem hj)
          rw [hb'] at this; simpa using this.symm
        rw [h1]; omega
  · rename_i id he
    rw [he] at hx
    split at h
    · rename_i o ho
      cases hb : (bsE P s && isStr P d && !o.box) with
      | false => simp [hb] at h
      | true =>
        simp only [hb, cond_true, Option.some.injEq, Prod.mk.injEq] at h
        obtain ⟨rfl, rfl⟩ := h
        simp only [Bool.and_eq_true, Bool.not_eq_true'] at hb
        obtain ⟨e, hu, he8⟩ := bs_parts hb.1.1
        have hd := isStr_of hb.1.2
        obtain ⟨_, hM⟩ := R_own hx
        obtain ⟨_, hok⟩ := hR.obs id o ho
        obtain ⟨vals, hrow, _, hr⟩ := hok.row
        refine ⟨.string ⟨(o.xs.map byteV).toArray⟩, ?_, .str _ _⟩
        rw [hM] at hrow
        rcases hrow.sl (R_ownU hx) with ⟨hv, hn⟩ | ⟨g, cap, cur, hv, hrest⟩
        · rw [hv, run_convert_bytes_string w s d e none 0 0 hu he8 hd]
          rw [List.length_eq_zero_iff.1 hn]
          simp [Conv.bytesToString]; rfl
        · rw [hv, run_convert_bytes_string w s d e _ _ cap hu he8 hd]
          refine b2s hp (fun j => vals.getD j undef) (fun j hj => ?_) hr
          have h1 : o.sz = 1 := by
            obtain ⟨b, hb'⟩ := hp _ (List.getElem_mem hj)
            have := hok.len _ (List.getElem_mem hj)
            rw [hb'] at this; simpa using this.symm
          have hl : vals.length = o.xs.length * o.sz := hrow.1
          rw [h1] at hl
          refine hrow.cells (by rw [hv]; rfl) j _ ?_
          rw [List.getD_eq_getElem?_getD, List.getElem?_eq_getElem (by omega)]; rfl
    · simp at h
  · simp at h

theorem pv_extract [Glo] {x : Operand} {i : Nat} (h : pv P st (.extract x i) = some (p, v)) (hp : p) (hR : RelX base st a w M X N) :
    ∃ u, (Instr.extract (a.eval x) i).run P w = .ok u w ∧ R M w (X) N v u := by
  have hx := ev_R hR x
  simp only [pv] at h
  split at h
  · rename_i vs he
    simp only [Option.some.injEq, Prod.mk.injEq] at h
    obtain ⟨rfl, rfl⟩ := h
    rw [he] at hx
    cases hv : a.eval x with
    | tuple arr =>
      rw [hv] at hx
      cases hx with
      | tup _ _ _ hl hh =>
        have hlt : i < arr.size := by omega
        have hu : vs[i]? = some (vs.getD i .poi) := by rw [List.getD_eq_getElem?_getD, List.getElem?_eq_getElem hp]; rfl
        have := hh i _ hu
        refine ⟨arr[i], by simp [Instr.extract, hlt], ?_⟩
        simpa [Array.getD, hlt] using this
    | _ => rw [hv] at hx; cases hx
  · simp at h

theorem bound_R [Glo] {x : Option Operand} {r : Option Int} (h : boundV st x = some r) (hR : RelX base st a w M X N) : (r = none ∧ x.map a.eval = none) ∨ ∃ k i, r = some i ∧ x.map a.eval = some (.int k i) := by
  unfold boundV at h
  split at h
  · simp at h; exact .inl ⟨h.symm, rfl⟩
  · rename_i x
    split at h
    · rename_i k i he
      simp at h
      have hx := ev_R hR x
      rw [he] at hx
      exact .inr ⟨k, i, h.symm, by simp [R_int hx]⟩
    · simp at h

theorem pv_slice [Glo] {t : TypeId} {vx : V} {ux : Value} {X' : Nat → Prop} {n : Nat} {lo hi mx : Option Operand} (h : slcV P t vx (boundV st lo) (boundV st hi) (boundV st mx) = some (p, v)) (hp : p) (hR : RelX base st a w M X N)
    (hx : R M w X' n vx ux) :
    ∃ u, (Instr.sliceAt t ux (lo.map a.eval) (hi.map a.eval) (mx.map a.eval)).run P w = .ok u w ∧ R M w X' n v u := by
  simp only [slcV] at h
  split at h
  · rename_i s l hh hlo hhi hmx
    cases hs : isStr P t with
    | false => simp [hs] at h
    | true =>
      simp only [hs, cond_true, Option.some.injEq, Prod.mk.injEq] at h
      obtain ⟨rfl, rfl⟩ := h
      have hu : P.underlying t = some .string := by
        unfold isStr at hs
        split at hs
        · assumption
        · simp at hs
      rw [R_str hx]
      obtain ⟨p0, p1, p2⟩ := hp
      refine ⟨.string ⟨((s.take (hh.getD s.length).toNat).drop (l.getD 0).toNat).toArray⟩, ?_, .str _ _⟩
      have e : ∀ i j : Nat, ByteArray.extract ⟨s.toArray⟩ i j = ⟨((s.take j).drop i).toArray⟩ := fun i j => by
        apply ByteArray.ext
        simp [List.extract_eq_take_drop, List.drop_take]
      have sb : ∀ (k : IntKind) (i : Int) (y : Nat) (code : BoundsCode), 0 ≤ i → i ≤ y → (Instr.sliceBound (.int k i) y code).run P w = .ok i.toNat w := fun k i y code h1 h2 => by
        simp [Instr.sliceBound, asIntOf, h1, h2]
      have hsz : (ByteArray.mk s.toArray).size = s.length := by simp [ByteArray.size]
      have key : ∀ (o1 o2 : Option Value) (l h : Nat), (Instr.sliceBounds false s.length s.length o1 o2 none).run P w = .ok (l, h, s.length) w → (Instr.sliceAt t (.string ⟨s.toArray⟩) o1 o2 none).run P w = .ok (.string ⟨((s.take h).drop l).toArray⟩) w := fun o1 o2 l h hb => by
        simp only [Instr.sliceAt, Instr.slice, Sem.run_bind, run_underlying hu, Result.andThen_ok, hsz]
        simp [hb, e]
      rcases bound_R hmx hR with ⟨_, e3⟩ | ⟨k3, i3, h3, _⟩
      · rw [e3]
        rcases bound_R hlo hR with ⟨rfl, e1⟩ | ⟨k1, i1, rfl, e1⟩ <;> rcases bound_R hhi hR with ⟨rfl, e2⟩ | ⟨k2, i2, rfl, e2⟩ <;> rw [e1, e2] <;> simp only [Option.getD_none, Option.getD_some] at p0 p1 p2 ⊢ <;> refine key _ _ _ _ ?_
        · simp [Instr.sliceBounds]
        · have := sb k2 i2 s.length .sliceAlen (by omega) (by omega)
          simp [Instr.sliceBounds, this]
        · have := sb k1 i1 s.length .sliceB (by omega) (by omega)
          simp [Instr.sliceBounds, this]
        · have h2 := sb k2 i2 s.length .sliceAlen (by omega) (by omega)
          have h1 := sb k1 i1 i2.toNat .sliceB (by omega) (by omega)
          simp [Instr.sliceBounds, h1, h2]
      · simp at h3
  · rename_i sz tt xs l hh m hlo hhi hmx
    split at h
    · rename_i e s b hs
      simp only [Option.some.injEq, Prod.mk.injEq] at h
      obtain ⟨rfl, rfl⟩ := h
      obtain ⟨hsz, p0, p1, p2, p3⟩ := hp
      obtain ⟨inf, zz, hund, hinf, _, _, hisz, _, hpos⟩ := sl_parts hs
      obtain ⟨A, c, f, hu, hlc, hm, ht, hnil, hl, hA, hr⟩ := R_sl hx
      have sb : ∀ (k : IntKind) (i : Int) (y : Nat) (code : BoundsCode), 0 ≤ i → i ≤ y → (Instr.sliceBound (.int k i) y code).run P w = .ok i.toNat w := fun k i y code h1 h2 => by
        simp [Instr.sliceBound, asIntOf, h1, h2]
      rw [hu]
      generalize hhl : hh.getD xs.length = H at *
      generalize hll : l.getD 0 = L at *
      have hbd : ∃ m' : Nat, H ≤ m' ∧ m' ≤ c ∧ ((m.isSome || (tt && hh.isNone)) = true → (m' : Int) = H) ∧
          (Instr.sliceBounds true xs.length c (lo.map a.eval) (hi.map a.eval) (mx.map a.eval)).run P w = .ok (L.toNat, H.toNat, m') w := by
        rcases bound_R hmx hR with ⟨rfl, e3⟩ | ⟨k3, i3, rfl, e3⟩
        · refine ⟨c, by omega, Nat.le_refl _, ?_, ?_⟩
          · intro h
            simp only [Option.isSome_none, Bool.false_or, Bool.and_eq_true] at h
            have := ht h.1
            cases hh with
            | none => simp at hhl; omega
            | some => simp at h
          · rw [e3]
            rcases bound_R hlo hR with ⟨rfl, e1⟩ | ⟨k1, i1, rfl, e1⟩ <;> rcases bound_R hhi hR with ⟨rfl, e2⟩ | ⟨k2, i2, rfl, e2⟩ <;> rw [e1, e2] <;> simp only [Option.getD_none, Option.getD_some] at hhl hll <;> subst hhl <;> subst hll
            · simp [Instr.sliceBounds]
            · have := sb k2 i2 c .sliceAcap (by omega) (by omega)
              simp [Instr.sliceBounds, this]
            · have := sb k1 i1 xs.length .sliceB (by omega) (by omega)
              simp [Instr.sliceBounds, this]
            · have h2 := sb k2 i2 c .sliceAcap (by omega) (by omega)
              have h1 := sb k1 i1 i2.toNat .sliceB (by omega) (by omega)
              simp [Instr.sliceBounds, h1, h2]
        · obtain ⟨q1, q2⟩ := p3 i3 rfl
          subst q1
          refine ⟨i3.toNat, by omega, by omega, fun _ => by omega, ?_⟩
          rw [e3]
          rcases bound_R hhi hR with ⟨rfl, e2⟩ | ⟨k2, i2, rfl, e2⟩
          · simp at q2
          · simp only [Option.getD_some] at hhl
            subst hhl
            have h3 := sb k3 i2 c .slice3Acap (by omega) (by omega)
            have h2 := sb k2 i2 i2.toNat .slice3B (by omega) (by omega)
            rcases bound_R hlo hR with ⟨rfl, e1⟩ | ⟨k1, i1, rfl, e1⟩ <;> rw [e1, e2] <;> simp only [Option.getD_none, Option.getD_some] at hll <;> subst hll
            · simp [Instr.sliceBounds, h2, h3]
            · have h1 := sb k1 i1 i2.toNat .slice3C (by omega) (by omega)
              simp [Instr.sliceBounds, h1, h2, h3]
      obtain ⟨m', hHm, hmc, htight, hrun⟩ := hbd
      refine ⟨.slice (if m' = L.toNat then A else A.map (·.add (L.toNat * s))) (H.toNat - L.toNat) (m' - L.toNat), ?_, ?_⟩
      · simp only [Instr.sliceAt, Instr.slice, Sem.run_bind, run_underlying hund, Result.andThen_ok, hrun, run_sizeOf hinf, hisz, Sem.run_pure]
      · have hlen : ((xs.take H.toNat).drop L.toNat).length = H.toNat - L.toNat := by simp; omega
        refine .sl _ _ _ _ _ _ _ (fun j => f (L.toNat * s + j)) hlen.symm (by omega) (by omega) (fun h => by have := htight h; omega) (fun h => by obtain ⟨q1, q2⟩ := hnil h; subst q1; exact ⟨by split <;> rfl, by omega⟩) (fun x hx => hl x (List.mem_of_mem_take (List.mem_of_mem_drop hx))) (fun h0 => ?_) (fun j u hu => ?_)
        · obtain ⟨ad, rfl, hX, hc⟩ := hA (by omega)
          have hss : s = sz := by
            rcases hsz with h | h
            · exact h
            · subst h; simp at p2; omega
          subst hss
          rw [if_neg (by omega)]
          refine ⟨ad.add (L.toNat * s), rfl, by rw [block_add]; exact hX, fun j hj => ?_⟩
          rw [add_add]
          refine hc _ ?_
          have h1 : H.toNat * s ≤ xs.length * s := Nat.mul_le_mul_right _ (by omega)
          rw [Nat.sub_mul] at hj
          omega
        · have hss : s = sz := by
            rcases hsz with h | h
            · exact h
            · subst h; simp at hu
          subst hss
          refine hr (L.toNat * s + j) u ?_
          have hjs : j < (H.toNat - L.toNat) * s := by
            have := (List.getElem?_eq_some_iff.1 hu).1
            rwa [flat_len _ (fun x hx => hl x (List.mem_of_mem_take (List.mem_of_mem_drop hx))), hlen] at this
          have hq : j = (j / s) * s + j % s := by rw [Nat.mul_comm]; exact (Nat.div_add_mod j s).symm
          have hqlt : j / s < H.toNat - L.toNat := (Nat.div_lt_iff_lt_mul hpos).2 hjs
          have hr' := Nat.mod_lt j hpos
          rw [hq, flat_get _ _ _ (fun x hx => hl x (List.mem_of_mem_take (List.mem_of_mem_drop hx))) hr'] at hu
          rw [show L.toNat * s + j = (L.toNat + j / s) * s + j % s by rw [Nat.add_mul]; omega, flat_get _ _ _ hl hr', ← hu]
          congr 1
          simp only [List.getD_eq_getElem?_getD]
          rw [List.getElem?_drop, List.getElem?_take, if_pos (by omega)]
    · simp at h
  · simp at h

theorem pv_len [Glo] {x : Operand} {t ty : TypeId} (h : bv P st .len [x] [t] = some (p, v)) (hR : RelX base st a w M X N) :
    ∃ u, (Builtin.len_ #[t] ty #[a.eval x]).run P w = .ok u w ∧ R M w (X) N v u := by
  have hx := ev_R hR x
  simp only [bv] at h
  split at h
  · rename_i s he
    cases hs : isStr P t with
    | false => simp [hs] at h
    | true =>
      simp only [hs, cond_true, Option.some.injEq, Prod.mk.injEq] at h
      obtain ⟨rfl, rfl⟩ := h
      have hu : P.underlying t = some .string := by
        unfold isStr at hs
        split at hs
        · assumption
        · simp at hs
      rw [he] at hx
      rw [R_str hx]
      have hsz : (ByteArray.mk s.toArray).size = s.length := by simp [ByteArray.size]
      exact ⟨.int .i64 s.length, by simp [Builtin.len_, run_underlying hu, goInt, hsz], .int _ _ _⟩
  · rename_i sz tt xs he
    split at h
    · rename_i q hs
      obtain ⟨e, s, b⟩ := q
      simp only [Option.some.injEq, Prod.mk.injEq] at h
      obtain ⟨rfl, rfl⟩ := h
      obtain ⟨_, _, hu, _⟩ := sl_parts hs
      rw [he] at hx
      obtain ⟨A, c, f, hv, _⟩ := R_sl hx
      rw [hv]
      exact ⟨.int .i64 xs.length, by simp [Builtin.len_, run_underlying hu, goInt], .int _ _ _⟩
    · simp at h
  · rename_i id he
    split at h
    · rename_i q o hs ho
      obtain ⟨e, s, b⟩ := q
      simp only [Option.some.injEq, Prod.mk.injEq] at h
      obtain ⟨rfl, rfl⟩ := h
      obtain ⟨_, _, hu, _⟩ := sl_parts hs
      rw [he] at hx
      obtain ⟨vals, hrow, _⟩ := (hR.obs id o ho).2.row
      obtain ⟨_, hv⟩ := R_own hx
      · rcases hrow.sl (R_ownSl hx) with ⟨hnil, h2⟩ | ⟨g, cap, cur, hval, _⟩
        · rw [← hv, hnil, h2]
          exact ⟨.int .i64 0, by simp [Builtin.len_, run_underlying hu, goInt], .int _ _ _⟩
        · rw [← hv, hval]
          exact ⟨.int .i64 o.xs.length, by simp [Builtin.len_, run_underlying hu, goInt], .int _ _ _⟩
    · simp at h
  · simp at h

theorem run_call_builtin (b : Builtin) (args : Array Operand) (tys : Array TypeId) (o : Oper) (ho : o.op = .call { callee := .builtin b, args := args, argTypes := tys }) :
    ∃ cs, (execOp a.eval o).run P w = (invoke (.builtin b tys o.type cs) (args.map a.eval)).run P w := by
  unfold execOp
  simp only [ho, resolve, Sem.run_bind, Sem.run_pure, Result.andThen_ok]
  exact ⟨_, rfl⟩

/-- WHAT PART 3 SAYS OF AN OPERATION IS WHAT IT DOES. -/
theorem pv_sound [Glo] {o : Oper} (h : pv P st o.op = some (p, v)) (hp : p) (hR : RelX base st a w M X N) (hcv : ∀ s d x, o.op = .convert s d x → (P.underlying s).isSome = true) :
    ∃ u, (execOp a.eval o).run P w = .ok (.value u) w ∧ R M w (X) N v u := by
  have wrap : ∀ {s : Sem Value}, (∃ u, s.run P w = .ok u w ∧ R M w (X) N v u) → ∃ u, (s >>= fun x => pure (Next.value x) : Sem Next).run P w = .ok (.value u) w ∧ R M w (X) N v u := by
    rintro s ⟨u, h1, h2⟩
    exact ⟨u, by simp only [Sem.run_bind, h1, Result.andThen_ok, Sem.run_pure], h2⟩
  obtain ⟨dst, op, ty, pos, aft, gd⟩ := o
  cases op with
  | move x => simp only [pv, Option.some.injEq, Prod.mk.injEq] at h; obtain ⟨rfl, rfl⟩ := h; exact ⟨_, by simp [execOp], ev_R hR x⟩
  | assign x => simp only [pv, Option.some.injEq, Prod.mk.injEq] at h; obtain ⟨rfl, rfl⟩ := h; exact ⟨_, by simp [execOp], ev_R hR x⟩
  | pick c x y =>
    simp only [pv] at h
    obtain ⟨b, hb, hr⟩ := pick_R h hp (ev_R hR c) (ev_R hR x) (ev_R hR y)
    exact ⟨_, by simp [execOp, hb, asBool], hr⟩
  | load t x => exact wrap (pv_load h hp hR)
  | fieldAddr t x f => exact wrap (pv_fieldAddr h hR)
  | field t x f => exact wrap (pv_field h hp hR)
  | indexAddr t x i => exact wrap (pv_indexAddr h hp hR)
  | index t x i => exact wrap (pv_index h hp hR)
  | binOp op t x y yt =>
    simp only [pv] at h
    obtain ⟨u, h1, h2⟩ := bin_run (P := P) h hp (ev_R hR x) (ev_R hR y)
    have hg : (eqGuard op t x y (a.eval x) (a.eval y)).run P w = .ok () w := by
      have e1 := ev_R hR x
      have e2 := ev_R hR y
      revert h e1 e2
      generalize ev st x = vx
      generalize ev st y = vy
      intro h e1 e2
      unfold binV at h
      split at h
      · rw [R_int e1, R_int e2]; unfold eqGuard; split <;> simp
      · rw [R_str e1, R_str e2]; unfold eqGuard; split <;> simp
      · rw [R_bool e1, R_bool e2]; unfold eqGuard; split <;> simp
      · split at h
        · rename_i ts hts
          unfold eqE at hts
          split at hts
          · cases hgt : P.eqGuardType P.depth t with
            | true => simp [hgt] at hts
            | false =>
              obtain ⟨A, hA⟩ := R_agg e1
              obtain ⟨B, hB⟩ := R_agg e2
              rw [hA, hB]
              unfold eqGuard; split <;> simp [hgt]
          · simp at hts
        · simp at h
      · simp at h
    refine ⟨u, ?_, h2⟩
    simp only [execOp, Sem.run_bind, hg, Result.andThen_ok, h1, Sem.run_pure]
  | unOp op t x => exact wrap (un_run h (ev_R hR x))
  | convert s d x => exact wrap (pv_convert h hp (hcv s d x rfl) hR)
  | extract x i => exact wrap (pv_extract h hp hR)
  | slice t x lo hi mx => simp only [pv] at h; exact wrap (pv_slice h hp hR (ev_R hR x))
  | nilCheck x =>
    have hx := ev_R hR x
    simp only [pv] at h
    split at h
    · rename_i id sz i off he
      simp only [Option.some.injEq, Prod.mk.injEq] at h; obtain ⟨rfl, rfl⟩ := h
      rw [he] at hx
      obtain ⟨g, hid, hg, hu⟩ := R_ptr hx
      exact ⟨a.eval x, by simp [execOp, hu], hx⟩
    · rename_i cs he
      simp only [Option.some.injEq, Prod.mk.injEq] at h; obtain ⟨rfl, rfl⟩ := h
      rw [he] at hx
      obtain ⟨ad, f, hu, _⟩ := R_iptr hx
      exact ⟨a.eval x, by simp [execOp, hu], hx⟩
    · simp at h
  | call c =>
    obtain ⟨callee, args, tys⟩ := c
    simp only [pv] at h
    cases callee with
    | value f => simp at h
    | invoke r m => simp at h
    | builtin b =>
      simp only at h
      obtain ⟨cs, hcs⟩ := run_call_builtin (P := P) (w := w) (a := a) b args tys ⟨dst, _, ty, pos, aft, gd⟩ rfl
      rw [hcs]
      unfold bv at h
      split at h
      · rename_i x t hargs htys
        have e1 : args = #[x] := by cases args; simp at hargs; simp [hargs]
        have e2 : tys = #[t] := by cases tys; simp at htys; simp [htys]
        subst e1 e2
        obtain ⟨u, h1, h2⟩ := pv_len (P := P) (ty := ty) h hR
        exact ⟨u, by simp [invoke, builtin, h1], h2⟩
      · rename_i x y hargs
        have e1 : args = #[x, y] := by cases args; simp at hargs; simp [hargs]
        subst e1
        have hx := ev_R hR x
        have hy := ev_R hR y
        split at h
        · rename_i k i k' j he1 he2
          simp only [Option.some.injEq, Prod.mk.injEq] at h; obtain ⟨rfl, rfl⟩ := h
          rw [he1] at hx; rw [he2] at hy
          have hx := R_int hx
          have hy := R_int hy
          exact ⟨_, by simp [invoke, builtin, hx, hy, Builtin.min_, Builtin.min2], .int _ _ _⟩
        · simp at h
      · rename_i x y hargs
        have e1 : args = #[x, y] := by cases args; simp at hargs; simp [hargs]
        subst e1
        have hx := ev_R hR x
        have hy := ev_R hR y
        split at h
        · rename_i k i k' j he1 he2
          simp only [Option.some.injEq, Prod.mk.injEq] at h; obtain ⟨rfl, rfl⟩ := h
          rw [he1] at hx; rw [he2] at hy
          have hx := R_int hx
          have hy := R_int hy
          exact ⟨_, by simp [invoke, builtin, hx, hy, Builtin.max_, Builtin.max2], .int _ _ _⟩
        · simp at h
      · simp at h
  | _ => simp [pv] at h
end
end Go.Ab
