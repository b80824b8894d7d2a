/- Abstract states for walks, part 21: one operation of a segment. -/
import Derived.Test.YtjlbpkokdlggiaaDoorAbT
namespace Go.Ab
open Go.RowKit

section
variable {P : Program} {base : Nat} {Xa : Nat → Prop} {w0 : W0} {w w' : World} {st : St} {a : Act} {M M' : Mp} {X X' : Nat → Prop} {n n' : Nat}

theorem hpv_sound [Glo] {o : Oper} {p : Prop} {v : V} {N : Nat} (h : hpv P st o.op = some (p, v)) (hp : p) (hR : RelX base st a w M X N) (hcv : ∀ s d x, o.op = .convert s d x → (P.underlying s).isSome = true) :
    ∃ u, (execOp a.eval o).run P w = .ok (.value u) w ∧ R M w (X) N v u := by
  unfold hpv at h
  split at h
  · rename_i t parts ho
    split at h
    · rename_i zs hz
      split at h
      · rename_i cs hf
        simp only [Option.some.injEq, Prod.mk.injEq] at h
        obtain ⟨rfl, rfl⟩ := h
        obtain ⟨arr, h1, h2⟩ := build_run hz hf hp hR
        refine ⟨.agg arr, ?_, .st _ _ _ (by rw [h2.len]; simp) (fun u hu => h2.one u (by simpa using hu)) (fun j u hu => ?_)⟩
        · simp [execOp, ho, h1]
        · have := h2.rel j u hu
          simpa [Array.getD_eq_getD_getElem?, List.getD_eq_getElem?_getD] using this
      · simp at h
    · simp at h
  · rename_i t x lo hi mx ho
    split at h
    · rename_i id hx
      split at h
      · rename_i b e sz bb l hh hb hs hlo hhi hmx
        simp only [Option.some.injEq, Prod.mk.injEq] at h
        obtain ⟨rfl, rfl⟩ := h
        obtain ⟨p0, rfl, p1, p2, p3, p4⟩ := hp
        have hxR := ev_R hR x
        rw [hx] at hxR
        obtain ⟨hid, hv⟩ := R_own hxR
        obtain ⟨hid', hok⟩ := hR.obs id b hb
        obtain ⟨vals, hrow, _, _⟩ := hok.row
        rcases hrow.sl (R_ownSl hxR) with ⟨_, h2⟩ | ⟨g, cap, cur, hval, _, _, hnc, _⟩
        · exact absurd (List.eq_nil_of_length_eq_zero h2) p1
        · obtain ⟨inf, zz, hund, hinf, _, _, hisz, _, hpos⟩ := sl_parts hs
          have hxe : a.eval x = .slice (some ⟨g, 0, none⟩) b.xs.length cap := by rw [← hv, hval]
          have sb : ∀ (k : IntKind) (i : Int) (y : Nat) (code : BoundsCode), 0 ≤ i → i ≤ y → (Instr.sliceBound (.int k i) y code).run P w = .ok i.toNat w := fun k i y code h1 h2 => by
            simp [Instr.sliceBound, asIntOf, h1, h2]
          have hbd : (Instr.sliceBounds true b.xs.length cap (lo.map a.eval) (hi.map a.eval) (mx.map a.eval)).run P w = .ok ((l.getD 0).toNat, (hh.getD b.xs.length).toNat, cap) w := by
            rcases bound_R hmx hR with ⟨_, e3⟩ | ⟨k3, i3, h3, _⟩
            · rw [e3]
              rcases bound_R hlo hR with ⟨rfl, e1⟩ | ⟨k1, i1, rfl, e1⟩ <;> rcases bound_R hhi hR with ⟨rfl, e2⟩ | ⟨k2, i2, rfl, e2⟩ <;> rw [e1, e2] <;> simp only [Option.getD_none, Option.getD_some] at p2 p3 p4 ⊢
              · simp [Instr.sliceBounds]
              · have := sb k2 i2 cap .sliceAcap (by omega) (by omega)
                simp [Instr.sliceBounds, this]
              · have := sb k1 i1 b.xs.length .sliceB (by omega) (by omega)
                simp [Instr.sliceBounds, this]
              · have h2 := sb k2 i2 cap .sliceAcap (by omega) (by omega)
                have h1 := sb k1 i1 i2.toNat .sliceB (by omega) (by omega)
                simp [Instr.sliceBounds, h1, h2]
            · simp at h3
          have hlit : ∀ j, (⟨g, 0, none⟩ : Addr).add j = ⟨g, j, none⟩ := fun j => by unfold Addr.add; split <;> simp_all
          refine ⟨_, ?_, .part _ id b.sz (l.getD 0).toNat ((hh.getD b.xs.length).toNat - (l.getD 0).toNat) g b.xs.length cap hid hval (by omega)⟩
          rw [execOp]
          simp only [ho, hxe, Instr.sliceAt, Instr.slice, Sem.run_bind, run_underlying hund, Result.andThen_ok, hbd, sizeOf, typeInfo, hinf, hisz]
          by_cases hc : cap = (l.getD 0).toNat
          · simp [hc, hinf, hisz]
          · simp [hc, hlit, hinf, hisz]
      · simp at h
    · exact pv_sound (o := o) (by rw [ho]; exact h) hp hR hcv
  · exact pv_sound h hp hR hcv

/-- One operation of a segment, from the state that knows more than it surely comes behind. -/
theorem h_sound [Glo] {ops : Array Oper} {o : Oper} {s S : St} {x : HI} {QC : Exit → Act → World → Prop} (h : SF P (slotsOf ops.toList) o s x) (hT : ∀ t, lkT s.tmp t = .poi ∨ lkT s.tmp t = lkT S.tmp t) (hob : s.ob = S.ob) (hnx : s.nx = S.nx) (hok : okO P S.n o = true) (hR : RelM base Xa w0 S a w M) :
    if Region.wanted o (yielded ops a.tmps) = true then o.wp P a w (Nx base Xa w0 S.n (fun st' => st' = (bif x.eff then { S with nx := x.nx, ob := x.ob } else S).put o.dst x.v)) QC
      else Nx base Xa w0 S.n (fun st' => st' = (bif x.eff then { S with nx := x.nx, ob := x.ob } else S).put o.dst x.v) (a.put o.dst undef) w := by
  have hd : ∀ d, o.dst = some d → d < S.n := fun d hd => by
    unfold okO at hok
    simp only [hd, Bool.and_eq_true, decide_eq_true_eq] at hok
    exact hok.1
  have hcv : ∀ s d x, o.op = .convert s d x → (P.underlying s).isSome = true := fun s d x h => by
    unfold okO at hok
    simp only [h, Bool.and_eq_true] at hok
    exact hok.2
  have hX : RelX base s a w M (Xf base Xa w M S.ob) S.nx := ⟨fun t => by
      rcases hT t with e | e
      · rw [e]; exact .poi _ _
      · rw [e]; exact hR.tmps t, fun id b hb => by
      rw [hob] at hb
      exact hR.obs id b hb, hR.gin⟩
  obtain ⟨_, h⟩ := h
  unfold hstep at h
  split at h
  · rename_i hg
    rw [if_pos (by simp [Region.wanted, hg])]
    split at h
    · rename_i p v hpv
      obtain ⟨hp, he, hv, _⟩ := h
      rw [← he, ← hv]
      obtain ⟨u, h1, h2⟩ := hpv_sound hpv hp hX hcv
      exact wp_of_run h1 (Nx.of rfl (hR.put hd h2) rfl)
    · have hE := effV_isEff h
      have hx : x.eff = true := by
        obtain ⟨v, ob, nx, hk, _⟩ := effV_ex h
        exact hk.1.symm
      rw [hx]
      exact eff_sound (effV_mono h fun v ob nx ⟨_, h2, h3⟩ => ⟨h2, h3 rfl⟩) hT hob hnx hok hR
  · rename_i j want0 hg
    split at h
    · rename_i d hj
      split at h
      · rename_i b want hb
        have hb' : gdV (lkT S.tmp d) want0 = some (b, want) := by
          rcases hT d with e | e
          · rw [e] at hb; simp [gdV] at hb
          · rw [← e]; exact hb
        rw [slotsOf_get] at hj
        rw [wanted_of hg hj hb' hR]
        split at h
        · rename_i p v hpv
          obtain ⟨h, he, hv, _⟩ := h
          rw [← he, ← hv]
          by_cases hbw : b = want
          · rw [if_pos (by simp [hbw])]
            obtain ⟨hp, hall⟩ := h hbw
            obtain ⟨u, h1, h2⟩ := hpv_sound hpv hp (fix_R hX _ hall) hcv
            exact wp_of_run h1 (Nx.of rfl (hR.put hd (.gd _ _ _ _ (fun _ => h2) (fun e => by simp [hbw] at e))) rfl)
          · rw [if_neg (by simpa using hbw)]
            exact Nx.of rfl (hR.put hd (.gd _ _ _ _ (fun h' => absurd (by simpa using h') hbw) (fun _ => rfl))) rfl
        · have hx : x.eff = true := by
            obtain ⟨v, ob, nx, hk, _⟩ := gcallE_ex h.2
            exact hk.1.symm
          rw [hx]
          exact gcall_sound (gcallE_mono h.2 fun v ob nx ⟨_, h2, h3⟩ => ⟨h2, h3 rfl⟩) hT hob hnx hok hR
      · exact h.elim
    · exact h.elim

theorem eT_poi (A : Nat → Bool) (T : List (Nat × V)) (t : Nat) : ∀ (l : List HI) (i : Nat), (∀ j, j < l.length → A (i + j) = false) → lkT (eT A i l ++ T) t = .poi ∨ lkT (eT A i l ++ T) t = lkT T t
  | [], i, _ => .inr rfl
  | x :: l, i, h => by
    have ih := eT_poi A T t l (i + 1) (fun j hj => by
      have := h (j + 1) (by simpa using hj)
      rwa [show i + (j + 1) = i + 1 + j by omega] at this)
    have h0 := h 0 (by simp)
    simp only [Nat.add_zero] at h0
    simp only [eT, h0, cond_false]
    cases x.dst with
    | none => simpa using ih
    | some d =>
      simp only [List.cons_append, List.nil_append, lkT]
      split
      · exact .inl rfl
      · exact ih

end
end Go.Ab
