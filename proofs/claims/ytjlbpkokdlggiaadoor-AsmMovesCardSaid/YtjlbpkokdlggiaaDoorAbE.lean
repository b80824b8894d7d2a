/- Abstract states for walks, part 5: the operations that lay no memory, each. -/
import Derived.Test.YtjlbpkokdlggiaaDoorAbD
import Derived.Laws.StructEq
namespace Go.Ab
open Go.RowKit
section
variable {P : Program} {base : Nat} {w : World} {st : St} {a : Act} {M : Mp} {p : Prop} {v : V} {X : Nat → Prop} {N : Nat}

theorem eqCs_len : ∀ {ts : List Tg} {xs ys : List V} {r : Bool}, eqCs ts xs ys = some r → xs.length = ts.length ∧ ys.length = ts.length
  | [], xs, ys, r, h => by
    cases xs <;> cases ys <;> simp [eqCs] at h ⊢
  | t :: ts, xs, ys, r, h => by
    cases t <;> cases xs <;> cases ys <;> try (simp [eqCs] at h; done)
    all_goals
      rename_i x xs y ys
      cases x <;> cases y <;> try (simp [eqCs] at h; done)
      simp only [eqCs] at h
      try (rename_i k _ k' _; cases hk : decide (k = k') <;> simp only [hk, cond_true, cond_false, reduceCtorEq] at h)
      split at h
      · rename_i r' hr
        have := eqCs_len hr
        simp [this.1, this.2]
      · simp at h
theorem eqCs_app : ∀ {t1 t2 : List Tg} {xs ys : List V} {r : Bool}, eqCs (t1 ++ t2) xs ys = some r →
    ∃ r1 r2, eqCs t1 (xs.take t1.length) (ys.take t1.length) = some r1 ∧ eqCs t2 (xs.drop t1.length) (ys.drop t1.length) = some r2 ∧ r = (r1 && r2)
  | [], t2, xs, ys, r, h => ⟨true, r, by simp [eqCs], by simpa using h, by simp⟩
  | t :: t1, t2, xs, ys, r, h => by
    cases t <;> cases xs <;> cases ys <;> try (simp [eqCs] at h; done)
    all_goals
      rename_i x xs y ys
      cases x <;> cases y <;> try (simp [eqCs] at h; done)
      simp only [List.cons_append, eqCs] at h
      try (rename_i k _ k' _; cases hk : decide (k = k') <;> simp only [hk, cond_true, cond_false, reduceCtorEq] at h)
      split at h
      · rename_i r' hr
        obtain ⟨r1, r2, h1, h2, h3⟩ := eqCs_app hr
        simp only [Option.some.injEq] at h
        refine ⟨_, r2, ?_, by simpa using h2, by rw [← h, h3, ← Bool.and_assoc]⟩
        simp only [List.length_cons, List.take_succ_cons, eqCs, h1]
        try simp only [hk, cond_true]
      · simp at h
theorem eqf_sound [Glo] {d D : Nat} (ih : ∀ (t : TypeId) (ts : List Tg) (as bs : List V) (x y : Value) (r : Bool) (m : Nat) (ag : Bool), eqTs P d t = some ts → eqCs ts as bs = some r → tyE P t = some (m, ag) →
      R M w X N (mkV ag as) x → R M w X N (mkV ag bs) y → (Op.equalIn D t x y).run P w = .ok r w) {as bs : List V} {A B : Array Value}
    (la : as.length = A.size) (lb : bs.length = B.size) (oa : ∀ u ∈ A, u.oneCell' = true) (ob : ∀ u ∈ B, u.oneCell' = true)
    (ha : ∀ (j : Nat) (u : V), as[j]? = some u → R M w X N u (A.getD j undef)) (hb : ∀ (j : Nat) (u : V), bs[j]? = some u → R M w X N u (B.getD j undef)) :
    ∀ (fs : List Field) (o : Nat) (ts : List Tg) (r : Bool), eqFs P (eqTs P d) fs o = some ts → eqCs ts (as.drop o) (bs.drop o) = some r → (Op.eqFields D A B fs).run P w = .ok r w
  | [], o, ts, r, h, hc => by
    simp only [eqFs, Option.some.injEq] at h
    subst h
    have : r = true := by
      revert hc
      generalize as.drop o = xs
      generalize bs.drop o = ys
      intro hc
      cases xs <;> cases ys <;> simp [eqCs] at hc
      exact hc
    subst this
    simp [Op.eqFields]
  | f :: fs, o, ts, r, h, hc => by
    simp only [eqFs] at h
    split at h
    · rename_i t1 m ag h1 hty
      cases hcond : ((f.name != "_") && f.offset == o && m == t1.length && (ag || m == 1) && m != 0) with
      | false => simp [hcond] at h
      | true =>
        simp only [hcond, cond_true] at h
        simp only [Bool.and_eq_true, bne_iff_ne, ne_eq, beq_iff_eq] at hcond
        obtain ⟨⟨⟨⟨hn, ho⟩, hm⟩, hag⟩, hm0⟩ := hcond
        split at h
        · rename_i t2 h2
          simp only [Option.some.injEq] at h
          subst h
          obtain ⟨r1, r2, c1, c2, rfl⟩ := eqCs_app hc
          have l1 := eqCs_len c1
          have lens := eqCs_len hc
          simp only [List.length_drop, List.length_append] at lens
          obtain ⟨u1, p1, q1⟩ := part_R (w := w) hty hag f.offset (by omega) la oa ha
          obtain ⟨u2, p2, q2⟩ := part_R (w := w) hty hag f.offset (by omega) lb ob hb
          have e := ih f.type t1 _ _ u1 u2 r1 m ag h1 c1 hty (by rw [ho, hm] at q1; exact q1) (by rw [ho, hm] at q2; exact q2)
          have rest := eqf_sound ih la lb oa ob ha hb fs (o + m) t2 r2 h2 (by rw [hm]; simpa [List.drop_drop] using c2)
          simp only [Op.eqFields, Sem.run_ite, hn, ne_eq, not_false_eq_true, if_true, Sem.run_bind, p1, p2, e, Result.andThen_ok]
          cases r1 with
          | false => simp
          | true => simpa using rest
        · simp at h
    · simp at h
theorem eq_sound [Glo] : ∀ (d D : Nat) (_ : d ≤ D) (t : TypeId) (ts : List Tg) (as bs : List V) (x y : Value) (r : Bool) (m : Nat) (ag : Bool), eqTs P d t = some ts → eqCs ts as bs = some r → tyE P t = some (m, ag) →
      R M w X N (mkV ag as) x → R M w X N (mkV ag bs) y → (Op.equalIn D t x y).run P w = .ok r w
  | 0, _, _, t, ts, as, bs, x, y, r, m, ag, h, _, _, _, _ => by simp [eqTs] at h
  | d + 1, D, hD, t, ts, as, bs, x, y, r, m, ag, h, hc, hty, hx, hy => by
    obtain ⟨D, rfl⟩ : ∃ D', D = D' + 1 := ⟨D - 1, by omega⟩
    simp only [eqTs] at h
    split at h
    · rename_i k hu
      simp only [Option.some.injEq] at h; subst h
      have hag : ag = false := by unfold tyE at hty; rw [hu] at hty; cases hi : P.info? t <;> simp [hi] at hty; exact hty.2
      subst hag
      match as, bs, hc with
      | .int k1 a :: xs, .int k2 b :: ys, hc =>
        simp only [eqCs] at hc
        cases hk : decide (k1 = k2) with
        | false => simp [hk] at hc
        | true =>
          simp only [decide_eq_true_eq] at hk
          subst hk
          have hr : r = (a == b) := by cases xs <;> cases ys <;> simp [eqCs] at hc; rw [← hc]
          have h1 := R_int (show R M w X N (.int k1 a) x from hx)
          have h2 := R_int (show R M w X N (.int k1 b) y from hy)
          rw [h1, h2, hr]
          exact run_equalIn_int w D t k1 k a b hu
    · rename_i hu
      simp only [Option.some.injEq] at h; subst h
      have hag : ag = false := by unfold tyE at hty; rw [hu] at hty; cases hi : P.info? t <;> simp [hi] at hty; exact hty.2
      subst hag
      match as, bs, hc with
      | .bool a :: xs, .bool b :: ys, hc =>
        simp only [eqCs] at hc
        have hr : r = (a == b) := by cases xs <;> cases ys <;> simp [eqCs] at hc; rw [← hc]
        have h1 := R_bool (show R M w X N (.bool a) x from hx)
        have h2 := R_bool (show R M w X N (.bool b) y from hy)
        rw [h1, h2, hr]
        exact run_equalIn_bool w D t a b hu
    · rename_i hu
      simp only [Option.some.injEq] at h; subst h
      have hag : ag = false := by unfold tyE at hty; rw [hu] at hty; cases hi : P.info? t <;> simp [hi] at hty; exact hty.2
      subst hag
      match as, bs, hc with
      | .str a :: xs, .str b :: ys, hc =>
        simp only [eqCs] at hc
        have hr : r = (a == b) := by cases xs <;> cases ys <;> simp [eqCs] at hc; rw [← hc]
        have h1 := R_str (show R M w X N (.str a) x from hx)
        have h2 := R_str (show R M w X N (.str b) y from hy)
        rw [h1, h2, hr]
        have := run_equalIn_string (P := P) w D t ⟨a.toArray⟩ ⟨b.toArray⟩ hu
        simpa [ByteArray.toList_eq] using this
    · rename_i fs hu
      cases hst : P.stoodInHeld t with
      | true => simp [hst] at h
      | false =>
        simp only [hst, cond_false] at h
        have hag : ag = true := by unfold tyE at hty; rw [hu] at hty; cases hi : P.info? t <;> simp [hi] at hty; exact hty.2
        subst hag
        have hf : P.fieldsOf t = fs := by simp [Program.fieldsOf, hu]
        cases (show R M w X N (.st as) x from hx) with
        | st _ _ A la oa ha =>
        cases (show R M w X N (.st bs) y from hy) with
        | st _ _ B lb ob hb =>
        rw [run_equalIn_struct w D t A B (by rw [hf]; exact hu) hst, hf]
        exact eqf_sound (fun t ts as bs x y r m ag h1 h2 h3 h4 h5 => eq_sound d D (by omega) t ts as bs x y r m ag h1 h2 h3 h4 h5) la lb oa ob ha hb fs.toList 0 ts r h (by simpa using hc)
    · simp at h
theorem eqTs_struct {d : Nat} {t : TypeId} {fs : Array Field} (hu : P.underlying t = some (.struct fs)) : eqTs P (d + 1) t = bif P.stoodInHeld t then none else eqFs P (eqTs P d) fs.toList 0 := by simp only [eqTs, hu]
theorem bin_run [Glo] {op : BinOp} {t : TypeId} {x y : V} {ux uy : Value} {n : Nat} (h : binV P op t x y = some (p, v)) (hp : p) (hx : R M w X n x ux) (hy : R M w X n y uy) :
    ∃ u, (binOp op t ux uy).run P w = .ok u w ∧ R M w X n v u := by
  unfold binV at h
  split at h
  · rename_i k i k' j
    rw [R_int hx, R_int hy]
    cases hs : isSh op with
    | true =>
      simp only [hs, cond_true] at h
      cases op <;> simp [isSh] at hs <;> simp only [shI, Option.some.injEq, Prod.mk.injEq] at h <;> obtain ⟨rfl, rfl⟩ := h
      · exact ⟨_, by simp [binOp, Op.shift, show ¬ j < 0 by omega], .int _ _ _⟩
      · exact ⟨_, by simp [binOp, Op.shift, show ¬ j < 0 by omega], .int _ _ _⟩
    | false =>
      simp only [hs, cond_false] at h
      by_cases hk : k = k'
      · subst hk
        simp only [decide_true, cond_true] at h
        cases op <;> simp only [binI, Option.some.injEq, Prod.mk.injEq, reduceCtorEq] at h <;> obtain ⟨rfl, rfl⟩ := h
        all_goals first
          | (refine ⟨_, ?_, .bool _ _⟩; simp only [binOp, Op.intCmp, ne_eq, not_true_eq_false, if_false, Sem.run_pure]; done)
          | (refine ⟨_, ?_, .int _ _ _⟩; simp only [binOp, Op.intArith, Op.intBits, ne_eq, not_true_eq_false, if_false, Sem.run_pure]; done)
          | (refine ⟨_, ?_, .int _ _ _⟩; simp only [binOp, Op.intDiv, ne_eq, not_true_eq_false, if_false, if_neg hp, Sem.run_pure]; done)
      · simp [hk] at h
  · rename_i s1 s2
    rw [R_str hx, R_str hy]
    have e1 : ∀ s : List UInt8, (ByteArray.mk s.toArray).toList = s := fun s => ByteArray.toList_mk s
    have e2 : ∀ s : List UInt8, (ByteArray.mk s.toArray).size = s.length := fun s => by simp [ByteArray.size]
    cases op <;> simp only [binS, Option.some.injEq, Prod.mk.injEq, reduceCtorEq] at h <;> obtain ⟨rfl, rfl⟩ := h
    all_goals first
      | (refine ⟨_, ?_, .bool _ _⟩; simp only [binOp, Op.stringOp, e1, Sem.run_pure, bne]; done)
      | skip
    refine ⟨_, ?_, .str _ _⟩
    have : ¬ ((s1.length : Int) + s2.length > IntKind.i64.max) := by
      have : IntKind.i64.max = 9223372036854775807 := by decide
      omega
    have e3 : ByteArray.mk s1.toArray ++ ByteArray.mk s2.toArray = ByteArray.mk (s1 ++ s2).toArray := by
      apply ByteArray.ext; simp
    simp [binOp, Op.stringOp, e2, e3]
    omega
  · rename_i b1 b2
    rw [R_bool hx, R_bool hy]
    split at h
    · rename_i hu
      simp only [Option.some.injEq, Prod.mk.injEq] at h; obtain ⟨rfl, rfl⟩ := h
      exact ⟨_, run_eql_bool _ t b1 b2 hu, .bool _ _⟩
    · rename_i hu
      simp only [Option.some.injEq, Prod.mk.injEq] at h; obtain ⟨rfl, rfl⟩ := h
      exact ⟨_, run_neq_bool _ t b1 b2 hu, .bool _ _⟩
    · simp at h
  · rename_i as bs
    split at h
    · rename_i ts hts
      unfold eqE at hts
      split at hts
      · rename_i fs hu
        have hts : eqTs P 20 t = some ts := by
          cases hgt : P.eqGuardType P.depth t with
          | true => simp [hgt] at hts
          | false => simpa only [hgt, cond_false] using hts
        cases hx with
        | st _ _ A la oa ha =>
        cases hy with
        | st _ _ B lb ob hb =>
        have htags : ∀ r, eqCs ts as bs = some r → (Op.equal t (.agg A) (.agg B)).run P w = .ok r w := fun r hr => by
          have hst : P.stoodInHeld t = false ∧ eqFs P (eqTs P 19) fs.toList 0 = some ts := by
            have hts := (eqTs_struct (d := 19) hu).symm.trans hts
            cases hst : P.stoodInHeld t with
            | true => simp [hst] at hts
            | false => exact ⟨rfl, by simpa [hst] using hts⟩
          have hf : P.fieldsOf t = fs := by simp [Program.fieldsOf, hu]
          have e : Op.equal t (.agg A) (.agg B) = Op.equalIn (9999 + 1) t (.agg A) (.agg B) := rfl
          rw [e, run_equalIn_struct w 9999 t A B (by rw [hf]; exact hu) hst.1, hf]
          exact eqf_sound (fun t ts as bs x y r m ag h1 h2 h3 h4 h5 => eq_sound 19 9999 (by omega) t ts as bs x y r m ag h1 h2 h3 h4 h5) la lb oa ob ha hb fs.toList 0 ts r hst.2 (by simpa using hr)
        split at h
        · rename_i r hr
          simp only [Option.some.injEq, Prod.mk.injEq] at h; obtain ⟨rfl, rfl⟩ := h
          exact ⟨.bool r, by simp [binOp, htags r hr], .bool _ _⟩
        · rename_i r hr
          simp only [Option.some.injEq, Prod.mk.injEq] at h; obtain ⟨rfl, rfl⟩ := h
          exact ⟨.bool !r, by simp [binOp, htags r hr], .bool _ _⟩
        · simp at h
      · simp at hts
    · simp at h
  · simp at h

theorem un_run [Glo] {op : UnOp} {x : V} {ux : Value} {n : Nat} (h : unV op x = some (p, v)) (hx : R M w X n x ux) :
    ∃ u, (Op.unary op ux).run P w = .ok u w ∧ R M w X n v u := by
  unfold unV at h
  split at h <;> simp only [Option.some.injEq, Prod.mk.injEq, reduceCtorEq] at h
  · obtain ⟨rfl, rfl⟩ := h; rw [R_bool hx]; exact ⟨_, by simp [Op.unary], .bool _ _⟩
  · obtain ⟨rfl, rfl⟩ := h; rw [R_int hx]; exact ⟨_, by simp [Op.unary, Op.intArith], .int _ _ _⟩
  · obtain ⟨rfl, rfl⟩ := h; rw [R_int hx]; exact ⟨_, by simp [Op.unary, Op.intBits], .int _ _ _⟩

theorem pv_load [Glo] {t : TypeId} {x : Operand} (h : pv P st (.load t x) = some (p, v)) (hp : p) (hR : RelX base st a w M X N) :
    ∃ u, (Instr.loadAt t (a.eval x)).run P w = .ok u w ∧ R M w (X) N v u := by
  have hx := ev_R hR x
  simp only [pv] at h
  split at h
  · simp at h
  · rename_i m ag ht
    cases hag : (ag || m == 1) with
    | false => simp [hag] at h
    | true =>
      simp only [hag, cond_true] at h
      split at h
      · rename_i id sz i off he
        split at h
        · rename_i o ho
          simp only [Option.some.injEq, Prod.mk.injEq] at h
          obtain ⟨rfl, rfl⟩ := h
          obtain ⟨rfl, hi, hoff⟩ := hp
          rw [he] at hx
          obtain ⟨g, _, hg, hu⟩ := R_ptr hx
          obtain ⟨f, hc, hr⟩ := ob_cells hR ho hg hi
          have hlen : (o.xs.getD i []).length = o.sz := by
            rw [List.getD_eq_getElem?_getD, List.getElem?_eq_getElem hi]
            exact (hR.obs id o ho).2.len _ (List.getElem_mem hi)
          obtain ⟨u, hrun, hru⟩ := load_R (P := P) ht hag ⟨g, i * o.sz + off, none⟩ ((o.xs.getD i []).drop off) (fun j => f (off + j)) (by rw [List.length_drop]; omega) (fun j hj => by
            have := hc (off + j) (by omega)
            have e : (⟨g, i * o.sz + off, none⟩ : Addr).add j = ⟨g, i * o.sz + (off + j), none⟩ := by unfold Addr.add; split <;> simp_all [Nat.add_assoc]
            rw [e]; exact this) (drop_R off hr)
          exact ⟨u, by rw [hu]; simpa [Instr.loadAt, Instr.sureAddr] using hrun, hru⟩
        · simp at h
      · rename_i cs he
        simp only [Option.some.injEq, Prod.mk.injEq] at h
        obtain ⟨rfl, rfl⟩ := h
        rw [he] at hx
        obtain ⟨ad, f, hu, _, hc, hr⟩ := R_iptr hx
        obtain ⟨u, hrun, hru⟩ := load_R (P := P) ht hag ad cs f hp (fun j hj => hc j (by omega)) (fun j u hu => (hr j u hu).up)
        exact ⟨u, by rw [hu]; simpa [Instr.loadAt, Instr.sureAddr] using hrun, hru⟩
      · simp at h

theorem pv_fieldAddr [Glo] {t : TypeId} {x : Operand} {f : Nat} (h : pv P st (.fieldAddr t x f) = some (p, v)) (hR : RelX base st a w M X N) :
    ∃ u, (Instr.fieldAt t (a.eval x) f).run P w = .ok u w ∧ R M w (X) N v u := by
  have hx := ev_R hR x
  simp only [pv] at h
  split at h
  · simp at h
  · rename_i o m ag hf
    split at h
    · rename_i id sz i off he
      simp only [Option.some.injEq, Prod.mk.injEq] at h
      obtain ⟨rfl, rfl⟩ := h
      rw [he] at hx
      obtain ⟨g, hid, hg, hu⟩ := R_ptr hx
      rw [hu, field_run hf]
      refine ⟨_, rfl, ?_⟩
      have e : (⟨g, i * sz + off, none⟩ : Addr).add o = ⟨g, i * sz + (off + o), none⟩ := by unfold Addr.add; split <;> simp_all [Nat.add_assoc]
      rw [e]
      exact .ptr _ id sz i (off + o) g _ hid hg rfl
    · rename_i cs he
      simp only [Option.some.injEq, Prod.mk.injEq] at h
      obtain ⟨rfl, rfl⟩ := h
      rw [he] at hx
      obtain ⟨ad, g, hu, hX, hc, hr⟩ := R_iptr hx
      rw [hu, field_run hf]
      exact ⟨_, rfl, iptr_drop o hX hc hr⟩
    · simp at h

theorem pv_field [Glo] {t : TypeId} {x : Operand} {f : Nat} (h : pv P st (.field t x f) = some (p, v)) (hp : p) (hR : RelX base st a w M X N) :
    ∃ u, (Instr.field t (a.eval x) f).run P w = .ok u w ∧ R M w (X) N v u := by
  have hx := ev_R hR x
  simp only [pv] at h
  split at h
  · simp at h
  · rename_i o m ag hf
    cases hag : (ag || m == 1) with
    | false => simp [hag] at h
    | true =>
      simp only [hag, cond_true] at h
      split at h
      · rename_i cs he
        simp only [Option.some.injEq, Prod.mk.injEq] at h
        obtain ⟨rfl, rfl⟩ := h
        rw [he] at hx
        obtain ⟨fs, fd, hu, hfd, rfl, ht, _⟩ := fld_parts hf
        cases hv : a.eval x with
        | agg arr =>
          rw [hv] at hx
          cases hx with
          | st _ _ _ hl h1 hh =>
            obtain ⟨u, hrun, hr⟩ := part_R (P := P) ht hag fd.offset hp hl h1 hh
            exact ⟨u, by simpa [Instr.field, run_underlying hu, hfd, asAgg] using hrun, hr⟩
        | _ => rw [hv] at hx; cases hx
      · simp at h
end
end Go.Ab
