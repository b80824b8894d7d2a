/- Abstract states for walks, part 5: the operations that lay no memory, each. -/
import Derived.Test.YtnjpakhnaegdgaaAbD
namespace Go.Ab
open Go.RowKit
section
variable {P : Program} {base : Nat} {w : World} {st : St} {a : Act} {M : Mp} {p : Prop} {v : V} {X : Nat → Prop} {N : Nat}

theorem bin_run {op : BinOp} {t : TypeId} {x y : V} {ux uy : Value} {n : Nat} (h : binV P op t x y = some (p, v)) (hp : p) (hx : R M w X n x ux) (hy : R M w X n y uy) :
    ∃ u, (binOp op t ux uy).run P w = .ok u w ∧ R M w X n v u := by
  unfold binV at h
  split at h
  · rename_i k i k' j
    rw [R_int hx, R_int hy]
    cases hs : isSh op with
    | true =>
      simp only [hs, cond_true] at h
      cases op <;> simp [isSh] at hs <;> simp only [shI, Option.some.injEq, Prod.mk.injEq] at h <;> obtain ⟨rfl, rfl⟩ := h
      · exact ⟨_, by simp [binOp, Op.shift, show ¬ j < 0 by omega], .int _ _ _⟩
      · exact ⟨_, by simp [binOp, Op.shift, show ¬ j < 0 by omega], .int _ _ _⟩
    | false =>
      simp only [hs, cond_false] at h
      by_cases hk : k = k'
      · subst hk
        simp only [decide_true, cond_true] at h
        cases op <;> simp only [binI, Option.some.injEq, Prod.mk.injEq, reduceCtorEq] at h <;> obtain ⟨rfl, rfl⟩ := h
        all_goals first
          | (refine ⟨_, ?_, .bool _ _⟩; simp only [binOp, Op.intCmp, ne_eq, not_true_eq_false, if_false, Sem.run_pure]; done)
          | (refine ⟨_, ?_, .int _ _ _⟩; simp only [binOp, Op.intArith, Op.intBits, ne_eq, not_true_eq_false, if_false, Sem.run_pure]; done)
          | (refine ⟨_, ?_, .int _ _ _⟩; simp only [binOp, Op.intDiv, ne_eq, not_true_eq_false, if_false, if_neg hp, Sem.run_pure]; done)
      · simp [hk] at h
  · rename_i s1 s2
    rw [R_str hx, R_str hy]
    have e1 : ∀ s : List UInt8, (ByteArray.mk s.toArray).toList = s := fun s => ByteArray.toList_mk s
    have e2 : ∀ s : List UInt8, (ByteArray.mk s.toArray).size = s.length := fun s => by simp [ByteArray.size]
    cases op <;> simp only [binS, Option.some.injEq, Prod.mk.injEq, reduceCtorEq] at h <;> obtain ⟨rfl, rfl⟩ := h
    all_goals first
      | (refine ⟨_, ?_, .bool _ _⟩; simp only [binOp, Op.stringOp, e1, Sem.run_pure, bne]; done)
      | skip
    refine ⟨_, ?_, .str _ _⟩
    have : ¬ ((s1.length : Int) + s2.length > IntKind.i64.max) := by
      have : IntKind.i64.max = 9223372036854775807 := by decide
      omega
    have e3 : ByteArray.mk s1.toArray ++ ByteArray.mk s2.toArray = ByteArray.mk (s1 ++ s2).toArray := by
      apply ByteArray.ext; simp
    simp [binOp, Op.stringOp, e2, e3]
    omega
  · rename_i b1 b2
    rw [R_bool hx, R_bool hy]
    split at h
    · rename_i hu
      simp only [Option.some.injEq, Prod.mk.injEq] at h; obtain ⟨rfl, rfl⟩ := h
      exact ⟨_, run_eql_bool _ t b1 b2 hu, .bool _ _⟩
    · rename_i hu
      simp only [Option.some.injEq, Prod.mk.injEq] at h; obtain ⟨rfl, rfl⟩ := h
      exact ⟨_, run_neq_bool _ t b1 b2 hu, .bool _ _⟩
    · simp at h
  · simp at h

theorem un_run {op : UnOp} {x : V} {ux : Value} {n : Nat} (h : unV op x = some (p, v)) (hx : R M w X n x ux) :
    ∃ u, (Op.unary op ux).run P w = .ok u w ∧ R M w X n v u := by
  unfold unV at h
  split at h <;> simp only [Option.some.injEq, Prod.mk.injEq, reduceCtorEq] at h
  · obtain ⟨rfl, rfl⟩ := h; rw [R_bool hx]; exact ⟨_, by simp [Op.unary], .bool _ _⟩
  · obtain ⟨rfl, rfl⟩ := h; rw [R_int hx]; exact ⟨_, by simp [Op.unary, Op.intArith], .int _ _ _⟩
  · obtain ⟨rfl, rfl⟩ := h; rw [R_int hx]; exact ⟨_, by simp [Op.unary, Op.intBits], .int _ _ _⟩

theorem pv_load {t : TypeId} {x : Operand} (h : pv P st (.load t x) = some (p, v)) (hp : p) (hR : RelX base st a w M X N) :
    ∃ u, (Instr.loadAt t (a.eval x)).run P w = .ok u w ∧ R M w (X) N v u := by
  have hx := ev_R hR x
  simp only [pv] at h
  split at h
  · simp at h
  · rename_i m ag ht
    cases hag : (ag || m == 1) with
    | false => simp [hag] at h
    | true =>
      simp only [hag, cond_true] at h
      split at h
      · rename_i id sz i off he
        split at h
        · rename_i o ho
          simp only [Option.some.injEq, Prod.mk.injEq] at h
          obtain ⟨rfl, rfl⟩ := h
          obtain ⟨rfl, hi, hoff⟩ := hp
          rw [he] at hx
          obtain ⟨g, _, hg, hu⟩ := R_ptr hx
          obtain ⟨f, hc, hr⟩ := ob_cells hR ho hg hi
          have hlen : (o.xs.getD i []).length = o.sz := by
            rw [List.getD_eq_getElem?_getD, List.getElem?_eq_getElem hi]
            exact (hR.obs id o ho).2.len _ (List.getElem_mem hi)
          obtain ⟨u, hrun, hru⟩ := load_R (P := P) ht hag ⟨g, i * o.sz + off, none⟩ ((o.xs.getD i []).drop off) (fun j => f (off + j)) (by rw [List.length_drop]; omega) (fun j hj => by
            have := hc (off + j) (by omega)
            have e : (⟨g, i * o.sz + off, none⟩ : Addr).add j = ⟨g, i * o.sz + (off + j), none⟩ := by unfold Addr.add; split <;> simp_all [Nat.add_assoc]
            rw [e]; exact this) (drop_R off hr)
          exact ⟨u, by rw [hu]; simpa [Instr.loadAt, Instr.sureAddr] using hrun, hru⟩
        · simp at h
      · rename_i cs he
        simp only [Option.some.injEq, Prod.mk.injEq] at h
        obtain ⟨rfl, rfl⟩ := h
        rw [he] at hx
        obtain ⟨ad, f, hu, _, hc, hr⟩ := R_iptr hx
        obtain ⟨u, hrun, hru⟩ := load_R (P := P) ht hag ad cs f hp (fun j hj => hc j (by omega)) (fun j u hu => (hr j u hu).up)
        exact ⟨u, by rw [hu]; simpa [Instr.loadAt, Instr.sureAddr] using hrun, hru⟩
      · simp at h

theorem pv_fieldAddr {t : TypeId} {x : Operand} {f : Nat} (h : pv P st (.fieldAddr t x f) = some (p, v)) (hR : RelX base st a w M X N) :
    ∃ u, (Instr.fieldAt t (a.eval x) f).run P w = .ok u w ∧ R M w (X) N v u := by
  have hx := ev_R hR x
  simp only [pv] at h
  split at h
  · simp at h
  · rename_i o m ag hf
    split at h
    · rename_i id sz i off he
      simp only [Option.some.injEq, Prod.mk.injEq] at h
      obtain ⟨rfl, rfl⟩ := h
      rw [he] at hx
      obtain ⟨g, hid, hg, hu⟩ := R_ptr hx
      rw [hu, field_run hf]
      refine ⟨_, rfl, ?_⟩
      have e : (⟨g, i * sz + off, none⟩ : Addr).add o = ⟨g, i * sz + (off + o), none⟩ := by unfold Addr.add; split <;> simp_all [Nat.add_assoc]
      rw [e]
      exact .ptr _ id sz i (off + o) g _ hid hg rfl
    · rename_i cs he
      simp only [Option.some.injEq, Prod.mk.injEq] at h
      obtain ⟨rfl, rfl⟩ := h
      rw [he] at hx
      obtain ⟨ad, g, hu, hX, hc, hr⟩ := R_iptr hx
      rw [hu, field_run hf]
      exact ⟨_, rfl, iptr_drop o hX hc hr⟩
    · simp at h

theorem pv_field {t : TypeId} {x : Operand} {f : Nat} (h : pv P st (.field t x f) = some (p, v)) (hp : p) (hR : RelX base st a w M X N) :
    ∃ u, (Instr.field t (a.eval x) f).run P w = .ok u w ∧ R M w (X) N v u := by
  have hx := ev_R hR x
  simp only [pv] at h
  split at h
  · simp at h
  · rename_i o m ag hf
    cases hag : (ag || m == 1) with
    | false => simp [hag] at h
    | true =>
      simp only [hag, cond_true] at h
      split at h
      · rename_i cs he
        simp only [Option.some.injEq, Prod.mk.injEq] at h
        obtain ⟨rfl, rfl⟩ := h
        rw [he] at hx
        obtain ⟨fs, fd, hu, hfd, rfl, ht, _⟩ := fld_parts hf
        cases hv : a.eval x with
        | agg arr =>
          rw [hv] at hx
          cases hx with
          | st _ _ _ hl h1 hh =>
            obtain ⟨u, hrun, hr⟩ := part_R (P := P) ht hag fd.offset hp hl h1 hh
            exact ⟨u, by simpa [Instr.field, run_underlying hu, hfd, asAgg] using hrun, hr⟩
        | _ => rw [hv] at hx; cases hx
      · simp at h
end
end Go.Ab
