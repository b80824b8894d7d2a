/- Abstract states for walks, part 14: appends, calls; the region. -/
import Derived.Test.YtjlbpkokdlggiaaDoorAbMa
import Derived.Laws.Cover3
import Derived.Laws.Runes
namespace Go.Ab
open Go.RowKit

section
variable {P : Program} {base : Nat} {Xa : Nat → Prop} {w0 : W0} {w w' : World} {st : St} {a : Act} {M M' : Mp} {X X' : Nat → Prop} {n n' : Nat} {K : St → Prop} {Q : Exit → Act → World → Prop}

theorem flatR_app [Glo] {xs ys : List (List V)} {s : Nat} {olds news : List Value} (hl : ∀ x ∈ xs, x.length = s) (hlo : olds.length = xs.length * s) (h1 : ∀ (j : Nat) (v : V), xs.flatten[j]? = some v → R M w X n v (olds.getD j undef))
    (h2 : ∀ (j : Nat) (v : V), ys.flatten[j]? = some v → R M w X n v (news.getD j undef)) : ∀ (j : Nat) (v : V), (xs ++ ys).flatten[j]? = some v → R M w X n v ((olds ++ news).getD j undef) := by
  intro j v hv
  have hfl := flat_len xs hl
  rw [List.flatten_append] at hv
  by_cases hj : j < olds.length
  · rw [List.getElem?_append_left (by omega)] at hv
    rw [List.getD_eq_getElem?_getD, List.getElem?_append_left hj, ← List.getD_eq_getElem?_getD]
    exact h1 j v hv
  · rw [List.getElem?_append_right (by omega)] at hv
    rw [List.getD_eq_getElem?_getD, List.getElem?_append_right (by omega), ← List.getD_eq_getElem?_getD, hlo, ← hfl]
    exact h2 _ v hv

theorem append_sound [Glo] {o : Oper} {args : Array Operand} {tys : Array TypeId} {s x : Operand} {t : TypeId} (ho : o.op = .call { callee := .builtin .append, args := args, argTypes := tys }) (hargs : args.toList = [s, x]) (htys : tys.toList = [t, t])
    (h : appV P o.dst t (ev st s) (ev st x) K st) (hd : ∀ d, o.dst = some d → d < st.n) (hR : RelM base Xa w0 st a w M) : o.wp P a w (Nx base Xa w0 st.n K) Q := by
  have e1 : args = #[s, x] := by cases args; simp at hargs; simp [hargs]
  have e2 : tys = #[t, t] := by cases tys; simp at htys; simp [htys]
  subst e1 e2
  have hsv := ev_R hR.rx s
  have hxv := ev_R hR.rx x
  have hrun : ∀ v' w', (Builtin.append_ #[t, t] o.type #[a.eval s, a.eval x]).run P w = .ok v' w' → (execOp a.eval o).run P w = .ok (.value v') w' := fun v' w' h => by
    obtain ⟨cs, hcs⟩ := run_call_builtin (P := P) (w := w) (a := a) .append #[s, x] #[t, t] o ho
    rw [hcs]
    simp [invoke, builtin, h]
  unfold appV at h
  split at h
  · rename_i e sz by_ hs
    obtain ⟨i, z, hu, hi, hiz, hzsz, hisz, hby, hpos⟩ := sl_parts hs
    split at h
    · rename_i p ys hsrc
      obtain ⟨hp, h⟩ := h
      obtain ⟨A, c, news, hxe, hnl, hn1, hyl, hA, hAn, hnr⟩ := src_R hR hsrc hp hxv
      split at h
      · rename_i id hes
        split at h
        · rename_i ob hob
          obtain ⟨hbox, hfz, rfl, rfl, hno, hb1, hb2, hK⟩ := h
          rw [hes] at hsv
          obtain ⟨hid, hv⟩ := R_own hsv
          obtain ⟨_, hok⟩ := hR.obs id ob hob
          obtain ⟨vals, hrow, hv1, hvr⟩ := hok.row
          simp only [hbox, Bool.false_eq_true, if_false] at hvr
          obtain ⟨v', w', hrn, hown', hgr, hblk, hsl⟩ := run_append_src (P := P) (ty := o.type) (c := c) hu hi hiz hisz hby hzsz hpos hrow (R_ownSl hsv) hnl hA (fun h => by rw [hAn h]; rfl) hn1 hb2 hb1 hR.hbase
          have eB := ownB_sl (R_ownSl hsv)
          have eV := ownB_sl hsl
          rw [← eB] at hgr hblk
          rw [← eV] at hblk
          obtain ⟨A', l', c', hv'⟩ := hsl
          obtain ⟨M', hM, hn, hR'⟩ := hR.grow (ob1 := (id, none) :: st.ob) (fun i o' ho' => by simp only [lookO] at ho'; split at ho' <;> simp_all) (M id).ownB
            (fun b hx' e => hx'.2 id ob hob hfz e.symm) (fun i o' ho' g hg e => by
              simp only [lookO] at ho'
              split at ho'
              · simp at ho'
              · rename_i hne; exact hR.dist i id o' ob g ho' hob hne hg e.symm) (fun g hg => (hrow.lt g hg).1) hgr v' (fun g hg => by
              rcases hblk with h | h
              · exact .inl (by rw [← hg, h])
              · rw [h] at hg; simp at hg; exact .inr (by omega)) ⟨ob.ety, ob.sz, false, false, ob.xs ++ ys⟩ (fun _ => hpos) (fun y hy => by
              rcases List.mem_append.1 hy with h | h
              · exact hok.len y h
              · exact hyl (fun h' => by subst h'; simp at h) y h) (vals ++ news) (by simpa using hown') (fun u hu => (List.mem_append.1 hu).elim (hv1 u) (hn1 u)) (flatR_app hok.len hrow.1 hvr hnr)
          refine wp_of_run (hrun v' w' ?_) (Nx.of hK (hR'.put hd (v := .own st.nx) ?_) rfl)
          · rw [← hv, hxe]; exact hrn
          · subst hv'; exact .own _ _ _ _ _ (by simp) hn
        · exact h.elim
      · rename_i sz' tt xs hes
        obtain ⟨hcase, hb1, hb2, hK⟩ := h
        rw [hes] at hsv
        obtain ⟨A0, c0, f, hse, hlc, hm, ht, hnil, hl, hA0, hr0⟩ := R_sl hsv
        have fin : ∀ (v' : Value) (w' : World) (olds : List Value), (Builtin.append_ #[t, t] o.type #[a.eval s, a.eval x]).run P w = .ok v' w' → w'.ownsG base e sz v' (xs.length + ys.length) (olds ++ news) → (∃ A l c, v' = .slice A l c) → w.grownBy w' none →
            (v'.ownBlock = none ∨ ∃ g, v'.ownBlock = some g ∧ w.heap.size ≤ g) → (∀ y ∈ xs, y.length = sz) → olds.length = xs.length * sz → (∀ u ∈ olds, u.oneCell' = true) →
            (∀ (j : Nat) (v : V), xs.flatten[j]? = some v → R M w (Xf base Xa w M st.ob) 0 v (olds.getD j undef)) → o.wp P a w (Nx base Xa w0 st.n K) Q := by
          intro v' w' olds hrn hown' hsl hgr hblk hl hlo ho1 hor
          have eV := ownB_sl hsl
          obtain ⟨A', l', c', hv'⟩ := hsl
          obtain ⟨M', hM, hn, hR'⟩ := hR.grow (ob1 := st.ob) (fun i o' ho' => ho') none (fun b hx' e => by cases e) (fun i o' ho' g hg e => by cases e) (fun g hg => by cases hg) hgr v' (fun g hg => by
              rw [eV] at hg
              rcases hblk with h | ⟨g', h, h'⟩
              · rw [h] at hg; cases hg
              · rw [h] at hg; simp at hg; exact .inr (by omega)) ⟨e, sz, false, false, xs ++ ys⟩ (fun _ => hpos) (fun y hy => by
              rcases List.mem_append.1 hy with h | h
              · exact hl y h
              · exact hyl (fun h' => by subst h'; simp at h) y h) (olds ++ news) (by simpa using hown') (fun u hu => (List.mem_append.1 hu).elim (ho1 u) (hn1 u)) (flatR_app hl hlo hor hnr)
          refine wp_of_run (hrun v' w' hrn) (Nx.of hK (hR'.put hd (v := .own st.nx) ?_) rfl)
          subst hv'; exact .own _ _ _ _ _ (by simp) hn
        rcases hcase with h0 | ⟨rfl, rfl, hne⟩
        · subst h0
          obtain ⟨rfl, rfl⟩ := hnil rfl
          have hx0 : xs = [] := List.eq_nil_of_length_eq_zero (by omega)
          subst hx0
          obtain ⟨v', w', hrn, hown', hgr, hblk, hsl⟩ := run_append_src (P := P) (ty := o.type) (c := c) hu hi hiz hisz hby hzsz hpos (World.ownsG_nil w base e sz) ⟨_, _, _, rfl⟩ hnl hA (fun h => by rw [hAn h]; rfl) hn1 (by simpa using hb2) (by simpa using hb1) hR.hbase
          refine fin v' w' [] (by rw [hse, hxe]; exact hrn) (by simpa using hown') hsl hgr ?_ (by simp) (by simp) (by simp) (fun j v h => by simp at h)
          rcases hblk with h | h
          · exact .inl h
          · exact .inr ⟨_, h, Nat.le_refl _⟩
        · have hc0 := ht rfl
          have hypos : 0 < ys.length := List.length_pos_iff.2 hne
          obtain ⟨ad, rfl, hcells⟩ := hA hypos
          cases A0 with
          | none =>
            rcases Nat.eq_zero_or_pos xs.length with h0 | h0
            · have hx0 : xs = [] := List.eq_nil_of_length_eq_zero h0
              subst hx0
              simp at hc0
              subst hc0
              obtain ⟨v', w', hrn, hown', hgr, hblk, hsl⟩ := run_append_src (P := P) (ty := o.type) (c := c) hu hi hiz hisz hby hzsz hpos (World.ownsG_nil w base e sz') ⟨_, _, _, rfl⟩ hnl (fun _ => ⟨ad, rfl, hcells⟩) (fun h => by cases h) hn1 (by simpa using hb2) (by simpa using hb1) hR.hbase
              refine fin v' w' [] (by rw [hse, hxe]; exact hrn) (by simpa using hown') hsl hgr ?_ (by simp) (by simp) (by simp) (fun j v h => by simp at h)
              rcases hblk with h | h
              · exact .inl h
              · exact .inr ⟨_, h, Nat.le_refl _⟩
            · obtain ⟨_, h, _⟩ := hA0 h0; cases h
          | some b =>
            have hcell : ∀ j, j < xs.length * sz' → w.cell? (b.add j) = some (f j) ∧ (f j).oneCell' = true := fun j hj => by
              have h0 : 0 < xs.length := Nat.pos_of_ne_zero (fun h => by rw [h] at hj; simp at hj)
              obtain ⟨ad', h, _, hc⟩ := hA0 h0
              simp only [Option.some.injEq] at h
              subst h
              exact hc j hj
            obtain ⟨v', w', hrn, hown', hgr⟩ := run_append_arg_grows (P := P) w t o.type e i z sz' by_ hu hi hiz hisz hby hzsz hpos b xs.length c0 ((List.range (xs.length * sz')).map f) (by simp) (fun j u hj => by
              rw [List.getElem?_map] at hj
              obtain ⟨k, hk, rfl⟩ := Option.map_eq_some_iff.1 hj
              obtain ⟨hk1, hk2⟩ := List.getElem?_eq_some_iff.1 hk
              simp at hk1 hk2
              subst hk2
              exact (hcell j hk1).1) ad ys.length c news hnl hcells (by omega) hb2 hb1
            refine fin v' w' ((List.range (xs.length * sz')).map f) (by rw [hse, hxe]; exact hrn) ?_ (by rcases hown'.2 with ⟨h, _⟩ | ⟨g, cap, cur, h, _⟩ <;> exact ⟨_, _, _, h⟩) hgr ?_ hl (by simp) ?_ ?_
            · refine ⟨hown'.1, ?_⟩
              rcases hown'.2 with h | ⟨g, cap, cur, h1, h2, h3⟩
              · exact .inl h
              · exact .inr (.inl ⟨g, cap, cur, h1, Nat.le_trans hR.hbase h2, .plain h3.1, h3.2⟩)
            · rcases hown'.2 with ⟨h, _⟩ | ⟨g, cap, cur, h1, h2, h3⟩
              · subst h; exact .inl rfl
              · subst h1; exact .inr ⟨g, rfl, h2⟩
            · intro u hu
              simp only [List.mem_map, List.mem_range] at hu
              obtain ⟨j, hj, rfl⟩ := hu
              exact (hcell j hj).2
            · intro j v hv
              have hj : j < xs.length * sz' := by
                have := (List.getElem?_eq_some_iff.1 hv).1
                rwa [flat_len _ hl] at this
              have := hr0 j v hv
              simpa [List.getD_eq_getElem?_getD, hj] using this
      · rename_i id sz' lo k hes
        split at h
        · rename_i ob hob
          obtain ⟨hbox, hfz, rfl, hsze, rfl, hfit, hK⟩ := h
          rw [hes] at hsv
          obtain ⟨g, N, cap, hv, hl, hse⟩ := R_part hsv
          obtain ⟨_, hok⟩ := hR.obs id ob hob
          obtain ⟨vals, hrow, hv1, hvr⟩ := hok.row
          simp only [hbox, Bool.false_eq_true, if_false] at hvr
          subst hisz
          have hlen := hok.len
          rw [hv, hsze] at hrow
          rw [hsze] at hlen
          have hN : N = ob.xs.length := by
            rcases hrow.sl ⟨_, _, _, rfl⟩ with ⟨hnil, _⟩ | ⟨g', cap', cur, hval, _⟩
            · simp at hnil
            · simp only [Value.slice.injEq] at hval; exact hval.2.1
          subst hN
          obtain ⟨cur, hbg, hg, hnc, hcm, hcs, htake⟩ := hrow.row
          have hse' : a.eval s = .slice (some ⟨g, 0, none⟩) k cap := by rw [hse]; simp
          have hlk : k ≤ ob.xs.length := by omega
          have hsum : k * i.size + news.length ≤ cur.size := by
            rw [hnl, hcs, ← Nat.add_mul]; exact Nat.mul_le_mul_right _ (by omega)
          cases A with
          | none =>
            have hy0 := hAn rfl
            subst hy0
            have hn0 : news = [] := List.eq_nil_of_length_eq_zero (by simpa using hnl)
            subst hn0
            have hrn : (Builtin.append_ #[t, t] o.type #[.slice (some ⟨g, 0, none⟩) k cap, .slice none 0 c]).run P w = .ok (.slice (some ⟨g, 0, none⟩) k cap) w := by
              have : k ≤ cap := by omega
              simp [Builtin.append_, run_underlying hu, sizeOf, typeInfo, hi, Builtin.lenOf, Builtin.firstCells, this, storeCells]
            have hown' : w.ownsG base ob.ety i.size (.slice (some ⟨g, 0, none⟩) k cap) k (vals.take (k * i.size)) := by
              refine ⟨by rw [List.length_take, hrow.1]; exact Nat.min_eq_left (Nat.mul_le_mul_right _ (by omega)), .inr (.inl ⟨g, cap, cur, rfl, hbg, hg, by omega, hcm, hcs, ?_⟩)⟩
              rw [← htake, List.take_take, Nat.min_eq_left (Nat.mul_le_mul_right _ (by omega))]
            obtain ⟨M', hM, hn, hR'⟩ := hR.grow (ob1 := (id, none) :: st.ob) (fun i o' ho' => by simp only [lookO] at ho'; split at ho' <;> simp_all) (some g)
              (fun b hx' e => hx'.2 id ob hob hfz (by rw [hv]; simpa [Value.ownB] using e.symm)) (fun i o' ho' g' hg' e => by
                simp only [lookO] at ho'
                split at ho'
                · simp at ho'
                · rename_i hne; exact hR.dist i id o' ob g' ho' hob hne hg' (by rw [hv, e]; rfl)) (fun g' hg' => by simp at hg'; omega) (World.grownBy.refl w _) (.slice (some ⟨g, 0, none⟩) k cap) (fun g' hg' => by
                simp only [Value.ownB, Option.some.injEq] at hg'; exact .inl (by rw [hg'])) ⟨ob.ety, i.size, false, false, ob.xs.take k ++ []⟩ (fun _ => hpos) (fun y hy => by
                rw [List.append_nil] at hy
                exact hlen y (List.mem_of_mem_take hy)) (vals.take (k * i.size)) (by simpa [Nat.min_eq_left hlk] using hown') (fun u hu => hv1 u (List.mem_of_mem_take hu)) (fun j v hj => by
                have hq := flat_part ob.xs hlen (lo := 0) (len := k)
                simp only [List.drop_zero, Nat.zero_mul] at hq
                rw [List.append_nil, hq, List.getElem?_take] at hj
                split at hj
                · rename_i hjl
                  rw [List.getD_eq_getElem?_getD, List.getElem?_take, if_pos hjl, ← List.getD_eq_getElem?_getD]
                  exact hvr j v hj
                · cases hj)
            refine wp_of_run (hrun _ w (by rw [hse', hxe]; exact hrn)) (Nx.of hK (hR'.put hd (v := .own st.nx) (.own _ _ _ _ _ (by simp) hn)) rfl)
          | some ad =>
            have hcl : ∀ j u, news[j]? = some u → w.cell? (ad.add j) = some u := fun j u hu => by
              have hm : 0 < ys.length := by
                have h1 := (List.getElem?_eq_some_iff.1 hu).1
                rw [hnl] at h1
                exact Nat.pos_of_ne_zero fun h => by rw [h] at h1; simp at h1
              obtain ⟨ad', e, hc⟩ := hA hm
              simp only [Option.some.injEq] at e
              subst e
              exact hc j u hu
            have hrn := run_append_roomG (P := P) w t o.type ob.ety i hu hi g k cap cur hg ad ys.length c news hnl hcl hn1 (by omega) hsum
            have hsz2 : (cur.toList.take (k * i.size) ++ news ++ cur.toList.drop (k * i.size + news.length)).toArray.size = cur.size := by
              simp only [List.size_toArray, List.length_append, List.length_take, List.length_drop, Array.length_toList]
              omega
            have hkl : k * i.size ≤ vals.length := by rw [hrow.1]; exact Nat.mul_le_mul_right _ (by omega)
            have htk : cur.toList.take (k * i.size) = vals.take (k * i.size) := by
              rw [← htake, List.take_take, Nat.min_eq_left (Nat.mul_le_mul_right _ (by omega))]
            have hlen2 : (vals.take (k * i.size) ++ news).length = (k + ys.length) * i.size := by
              rw [List.length_append, List.length_take, Nat.min_eq_left hkl, hnl, Nat.add_mul]
            have hown' : (w.setRow g (cur.toList.take (k * i.size) ++ news ++ cur.toList.drop (k * i.size + news.length)).toArray).ownsG base ob.ety i.size (.slice (some ⟨g, 0, none⟩) (k + ys.length) cap) (k + ys.length) (vals.take (k * i.size) ++ news) := by
              refine ⟨hlen2, .inr (.inl ⟨g, cap, _, rfl, hbg, hg.setRow hsz2, by omega, hcm, by rw [hsz2, hcs], ?_⟩)⟩
              rw [htk, ← hlen2]
              exact List.take_left
            obtain ⟨M', hM, hn, hR'⟩ := hR.grow (ob1 := (id, none) :: st.ob) (fun i o' ho' => by simp only [lookO] at ho'; split at ho' <;> simp_all) (some g)
              (fun b hx' e => hx'.2 id ob hob hfz (by rw [hv]; simpa [Value.ownB] using e.symm)) (fun i o' ho' g' hg' e => by
                simp only [lookO] at ho'
                split at ho'
                · simp at ho'
                · rename_i hne; exact hR.dist i id o' ob g' ho' hob hne hg' (by rw [hv, e]; rfl)) (fun g' hg' => by simp at hg'; omega)
              (w' := w.setRow g (cur.toList.take (k * i.size) ++ news ++ cur.toList.drop (k * i.size + news.length)).toArray) ⟨rfl, rfl, rfl, by simp, fun j _ hj => setRow_other w g j _ (fun e => hj (by simp [e]))⟩ (.slice (some ⟨g, 0, none⟩) (k + ys.length) cap) (fun g' hg' => by
                simp only [Value.ownB, Option.some.injEq] at hg'; exact .inl (by rw [hg'])) ⟨ob.ety, i.size, false, false, ob.xs.take k ++ ys⟩ (fun _ => hpos) (fun y hy => by
                rcases List.mem_append.1 hy with h | h
                · exact hlen y (List.mem_of_mem_take h)
                · exact hyl (fun h' => by subst h'; simp at h) y h) (vals.take (k * i.size) ++ news) (by simpa [Nat.min_eq_left hlk] using hown') (fun u hu => (List.mem_append.1 hu).elim (fun h => hv1 u (List.mem_of_mem_take h)) (hn1 u))
              (flatR_app (s := i.size) (fun y hy => hlen y (List.mem_of_mem_take hy)) (by rw [List.length_take, List.length_take, Nat.min_eq_left hkl, Nat.min_eq_left (by omega)]) (fun j v hj => by
                have hq := flat_part ob.xs hlen (lo := 0) (len := k)
                simp only [List.drop_zero, Nat.zero_mul] at hq
                rw [hq, List.getElem?_take] at hj
                split at hj
                · rename_i hjl
                  rw [List.getD_eq_getElem?_getD, List.getElem?_take, if_pos hjl, ← List.getD_eq_getElem?_getD]
                  exact hvr j v hj
                · cases hj) hnr)
            refine wp_of_run (hrun _ _ (by rw [hse', hxe]; exact hrn)) (Nx.of hK (hR'.put hd (v := .own st.nx) (.own _ _ _ _ _ (by simp) hn)) rfl)
        · exact h.elim
      · exact h.elim
    · exact h.elim
  · exact h.elim

theorem sliceOwn_sound [Glo] {o : Oper} {t : TypeId} {x : Operand} {lo hi mx : Option Operand} (ho : o.op = .slice t x lo hi mx) {id : Nat} (he : ev st x = .own id) {b : Ob} (hb : lookO st.ob id = some b) {p : Prop} {v : V}
    (hs : slcV P t (.sl b.sz false b.xs) (boundV st lo) (boundV st hi) (boundV st mx) = some (p, v)) (hp : p) (hbox : b.box = false) (hK : K ({ st with ob := fz1 st.ob id }.put o.dst v))
    (hd : ∀ d, o.dst = some d → d < st.n) (hR : RelM base Xa w0 st a w M) : o.wp P a w (Nx base Xa w0 st.n K) Q := by
  have hx := ev_R hR.rx x
  rw [he] at hx
  have hR' : RelM base Xa w0 { st with ob := fz1 st.ob id } a w M := hR.fz [id]
  have hc : Cs M w (Xf base Xa w M st.ob) st.nx [.own id] [a.eval x] := .one_ (by
    have : ∀ {u}, R M w (Xf base Xa w M st.ob) st.nx (.own id) u → u.oneCell' = true := fun h => by cases h; rfl
    exact this hx) hx
  have hq := (Cs.pur hR hc).rel 0 _ rfl
  have hpe : pur1 st.ob (.own id) = .sl b.sz false b.xs := by simp [pur1, hb, hbox]
  rw [hpe] at hq
  have hq' : R M w (Xf base Xa w M (fz1 st.ob id)) st.nx (.sl b.sz false b.xs) (a.eval x) := R.up hq
  obtain ⟨u, h1, h2⟩ := pv_slice (P := P) (lo := lo) (hi := hi) (mx := mx) hs hp hR.rx hq'
  refine wp_of_run (u := u) (w' := w) ?_ (Nx.of hK (hR'.put hd h2) rfl)
  unfold execOp
  simp [ho, h1]

theorem pur_R [Glo] (h : RelM base Xa w0 st a w M) {v : V} {u : Value} (hv : R M w (Xf base Xa w M st.ob) st.nx v u) {X' : Nat → Prop} (hX : ∀ b, Xf base Xa w M st.ob b → X' b)
    (hown : ∀ id o g, (V.own id ∈ v.cells ∨ V.omap id ∈ v.cells) → lookO st.ob id = some o → (M id).ownB = some g → X' g) : R M w X' 0 (pur st.ob v) u := by
  cases v with
  | st cs =>
    cases hv with
    | st _ _ arr hl h1 hr =>
      refine .st _ _ _ (by simpa using hl) h1 fun j c hc => ?_
      rw [List.getElem?_map] at hc
      obtain ⟨v, hv, rfl⟩ := Option.map_eq_some_iff.1 hc
      exact pur1_R (hr j v hv) (fun id o ho => (h.obs id o ho).2) hX fun id o g e ho hg => hown id o g (by
        rcases e with rfl | rfl
        · exact .inl (List.mem_of_getElem? hv)
        · exact .inr (List.mem_of_getElem? hv)) ho hg
  | _ => exact pur1_R hv (fun id o ho => (h.obs id o ho).2) hX fun id o g e ho hg => hown id o g (by
    rcases e with e | e
    · exact .inl (by rw [← e]; simp [V.cells])
    · exact .inr (by rw [← e]; simp [V.cells])) ho hg

theorem R_clo {f : FuncId} {cs : List V} {u : Value} (h : R M w X n (.clo f cs) u) : ∃ arr, u = .func (.func f) #[] arr ∧ arr.size = cs.length ∧ ∀ (j : Nat) (v : V), cs[j]? = some v → R M w X 0 v (arr.getD j undef) := by
  cases h with
  | clo _ _ _ arr hl h => exact ⟨arr, rfl, hl, h⟩
theorem call_core [Glo] {o : Oper} {f : Operand} {args : Array Operand} {tys : Array TypeId} (ho : o.op = .call { callee := .value f, args := args, argTypes := tys }) {fid : FuncId} {cs : List V} {carr : Array Value}
    (hfe : a.eval f = .func (.func fid) #[] carr) (hcl : carr.size = cs.length) (hcr : ∀ (j : Nat) (u : V), cs[j]? = some u → R M w (Xf base Xa w M st.ob) 0 u (carr.getD j undef))
    (h : okGs (args.toList.map (ev st)) ∧ ∃ nf r, Meets P fid (((args.toList.map (ev st)).map unG).map (pur st.ob) ++ cs) r ∧ aftC nf o.dst ((args.toList.map (ev st)).map unG) K st r) (hd : ∀ d, o.dst = some d → d < st.n) (hR : RelM base Xa w0 st a w M) : o.wp P a w (Nx base Xa w0 st.n K) Q := by
  · obtain ⟨hokg, nf, r, ⟨hcall, hmeet⟩, h⟩ := h
    have hrun : (execOp a.eval o).run P w = .ok (.enter fid (args.map a.eval ++ carr)) w := by
      unfold callable at hcall
      split at hcall
      · rename_i fn hfn
        simp only [Bool.and_eq_true, Bool.not_eq_true'] at hcall
        have h1 : ¬ fn.name = "runtime.NumGoroutine" := by simpa using hcall.1
        have h2 : ¬ fn.body = none := fun h => by simp [h] at hcall
        unfold execOp
        simp [ho, resolve, Deferred.ofValue, hfe, invoke, callFunc, program, Sem.run, hfn, h1, h2]
      · simp at hcall
    unfold Oper.wp
    rw [hrun, Oper.upon_enter]
    have hsz : (args.map a.eval ++ carr).size = (((args.toList.map (ev st)).map unG).map (pur st.ob) ++ cs).length := by simp [hcl]
    have hval : ∀ (X' : Nat → Prop), (∀ b, Xf base Xa w M st.ob b → X' b) → (∀ (j : Nat) (u : V), (((args.toList.map (ev st)).map unG).map (pur st.ob))[j]? = some u → R M w X' 0 u ((args.map a.eval).getD j undef)) →
        ∀ (j : Nat) (u : V), (((args.toList.map (ev st)).map unG).map (pur st.ob) ++ cs)[j]? = some u → R M w X' 0 u ((args.map a.eval ++ carr).getD j undef) := fun X' hX' hA j u hu => by
      have hal : (((args.toList.map (ev st)).map unG).map (pur st.ob)).length = (args.map a.eval).size := by simp
      by_cases hj : j < (args.map a.eval).size
      · rw [List.getElem?_append_left (by omega)] at hu
        have := hA j u hu
        rw [Array.getD_eq_getD_getElem?] at this ⊢
        rwa [Array.getElem?_append_left hj]
      · rw [List.getElem?_append_right (by omega)] at hu
        have := hcr _ u hu
        rw [Array.getD_eq_getD_getElem?] at this ⊢
        rw [Array.getElem?_append_right (by omega), ← hal]
        exact this.mono (Nat.le_refl _) (fun _ _ => rfl) hX' (fun _ _ => rfl)
    have harg : ∀ (j : Nat) (u : V), (((args.toList.map (ev st)).map unG).map (pur st.ob))[j]? = some u → ∃ x, ((args.toList.map (ev st)).map unG)[j]? = some (unG (ev st x)) ∧ u = pur st.ob (unG (ev st x)) ∧ (args.map a.eval).getD j undef = a.eval x ∧ R M w (Xf base Xa w M st.ob) st.nx (unG (ev st x)) (a.eval x) := fun j u hu => by
      rw [List.getElem?_map, List.getElem?_map, List.getElem?_map] at hu
      obtain ⟨v, hv, rfl⟩ := Option.map_eq_some_iff.1 hu
      obtain ⟨v', hv', rfl⟩ := Option.map_eq_some_iff.1 hv
      obtain ⟨x, hx, rfl⟩ := Option.map_eq_some_iff.1 hv'
      rw [Array.getElem?_toList] at hx
      exact ⟨x, by simp [hx], rfl, by simp [Array.getD_eq_getD_getElem?, hx], unG_R (ev_R hR.rx x) (okGs_mem hokg _ (List.mem_map.2 ⟨x, by simpa using Array.mem_of_getElem? hx, rfl⟩))⟩
    have fin : ∀ {st' : St} {Xc : Nat → Prop} {w' : World} {val : Value}, RelM base Xa w0 st' a w M → st'.n = st.n → st'.nx = st.nx → Below w.heap.size w w' → Res w.heap.size Xc w' r val →
        ((∀ b, Xc b → Xf base Xa w M st'.ob b) ∨ noX r) → K ({ st' with nx := st'.nx + r.fcells.length, ob := obsL st'.nx r.fcells ++ st'.ob }.put o.dst (opn st'.nx r)) → Nx base Xa w0 st.n K (a.put o.dst val) w' := by
      intro st' Xc w' val h' hn _ hb hres hX hK
      obtain ⟨M', hM, hR', hr⟩ := h'.result hb hres hX
      exact Nx.of hK (hR'.put (by simpa only [hn] using hd) hr) hn
    cases nf with
    | succ _ =>
      obtain ⟨hno, hK⟩ := h
      refine (hmeet w (fun b => b < w.heap.size) (args.map a.eval ++ carr) M ⟨fun b h => h, hR.gin.to (fun b hb => hb.lt hR.xa hR.hbase), rfl⟩ hsz (hval _ (fun b hb => hb.lt hR.xa hR.hbase) fun j u hu => ?_)).mono ?_
      · obtain ⟨x, _, rfl, hx, hrx⟩ := harg j u hu
        rw [hx]
        exact pur_R hR hrx (fun b hb => hb.lt hR.xa hR.hbase) (fun id o' g _ ho' hg => by
          obtain ⟨vals, hrow, _⟩ := (hR.obs id o' ho').2.row
          exact (hrow.lt g hg).2)
      · rintro e w' ⟨val, rfl, hb, hres⟩
        exact fin hR rfl rfl hb hres (.inr hno) hK
    | zero =>
      have hK := h
      simp only [aftC] at hK
      have hR' := hR.fz (((args.toList.map (ev st)).map unG).flatMap fun v : V => ownIds v.cells)
      refine (hmeet w (Xf base Xa w M (fzs (((args.toList.map (ev st)).map unG).flatMap fun v : V => ownIds v.cells) st.ob)) (args.map a.eval ++ carr) M ⟨fun b h => h.lt hR.xa hR.hbase, hR'.gin, rfl⟩ hsz (hval _ (fun b hb => ⟨hb.1, fun id o' ho' hf' => ?_⟩) fun j u hu => ?_)).mono ?_
      · rw [lookO_fzs] at ho'
        split at ho'
        · obtain ⟨o'', h1, h2⟩ := Option.map_eq_some_iff.1 ho'
          subst h2; cases hf'
        · exact hb.2 id o' ho' hf'
      · obtain ⟨x, hj, rfl, hx, hrx⟩ := harg j u hu
        rw [hx]
        refine pur_R hR hrx (fun b hb => ⟨hb.1, fun id o' ho' hf' => ?_⟩) (fun id o' g hm ho' hg => ?_)
        · rw [lookO_fzs] at ho'
          split at ho'
          · obtain ⟨o'', h1, h2⟩ := Option.map_eq_some_iff.1 ho'
            subst h2; cases hf'
          · exact hb.2 id o' ho' hf'
        · have hmem : id ∈ ((args.toList.map (ev st)).map unG).flatMap fun v : V => ownIds v.cells := List.mem_flatMap.2 ⟨_, List.mem_of_getElem? hj, mem_ownIds _ _ hm⟩
          obtain ⟨vals, hrow, _⟩ := (hR.obs id o' ho').2.row
          refine ⟨.inr (hrow.lt g hg), fun id' o1 ho1 hf1 e => ?_⟩
          rw [lookO_fzs] at ho1
          split at ho1
          · obtain ⟨o'', h1, h2⟩ := Option.map_eq_some_iff.1 ho1
            subst h2; cases hf1
          · rename_i hni
            exact hR.dist id' id o1 o' g ho1 ho' (fun e => hni (e ▸ hmem)) e hg
      · rintro e w' ⟨val, rfl, hb, hres⟩
        exact fin hR' rfl rfl hb hres (.inl fun b h => h) hK

theorem inl_core [Glo] {o : Oper} {f : Operand} {args : Array Operand} {tys : Array TypeId} (ho : o.op = .call { callee := .value f, args := args, argTypes := tys }) {fid : FuncId}
    (hfe : a.eval f = .func (.func fid) #[] #[]) (hokg : okGs (args.toList.map (ev st))) (h : InlC P fid ((args.toList.map (ev st)).map unG) st.nx st.ob fun r nx ob => K ({ st with nx := nx, ob := ob }.put o.dst r))
    (hd : ∀ d, o.dst = some d → d < st.n) (hR : RelM base Xa w0 st a w M) : o.wp P a w (Nx base Xa w0 st.n K) Q := by
  obtain ⟨hcall, hin⟩ := h
  have hrun : (execOp a.eval o).run P w = .ok (.enter fid (args.map a.eval)) w := by
    unfold callable at hcall
    split at hcall
    · rename_i fn hfn
      simp only [Bool.and_eq_true, Bool.not_eq_true'] at hcall
      have h1 : ¬ fn.name = "runtime.NumGoroutine" := by simpa using hcall.1
      have h2 : ¬ fn.body = none := fun h => by simp [h] at hcall
      unfold execOp
      simp [ho, resolve, Deferred.ofValue, hfe, invoke, callFunc, program, Sem.run, hfn, h1, h2]
    · simp at hcall
  unfold Oper.wp
  rw [hrun, Oper.upon_enter]
  refine (hin base Xa _ w M (args.map a.eval) hR.aside (by simp) fun j u hu => ?_).mono ?_
  · rw [List.getElem?_map, List.getElem?_map] at hu
    obtain ⟨v, hv, rfl⟩ := Option.map_eq_some_iff.1 hu
    obtain ⟨x, hx, rfl⟩ := Option.map_eq_some_iff.1 hv
    rw [Array.getElem?_toList] at hx
    have e : (args.map a.eval).getD j undef = a.eval x := by simp [Array.getD_eq_getD_getElem?, hx]
    rw [e]
    exact unG_R (ev_R hR.rx x) (okGs_mem hokg _ (List.mem_map.2 ⟨x, by simpa using Array.mem_of_getElem? hx, rfl⟩))
  · rintro e w' ⟨val, r, nx', ob', M', rfl, hK, h', hr⟩
    exact Nx.of hK ((hR.again h').put (st := { st with nx := nx', ob := ob' }) hd hr) rfl
theorem call_sound [Glo] {o : Oper} {f : Operand} {args : Array Operand} {tys : Array TypeId} (ho : o.op = .call { callee := .value f, args := args, argTypes := tys })
    (h : callV P o.dst (ev st f) (args.toList.map (ev st)) K st) (hd : ∀ d, o.dst = some d → d < st.n) (hR : RelM base Xa w0 st a w M) : o.wp P a w (Nx base Xa w0 st.n K) Q := by
  unfold callV at h
  have hfv := ev_R hR.rx f
  split at h
  · rename_i fid hf
    rw [hf] at hfv
    have hfe : a.eval f = .func (.func fid) #[] #[] := by
      revert hfv; generalize a.eval f = u; intro hfv; cases hfv; rfl
    rcases h with ⟨hokg, h | h⟩
    · exact call_core ho (cs := []) hfe rfl (fun j u hu => by simp at hu) (by simpa using And.intro hokg h) hd hR
    · exact inl_core ho hfe hokg h hd hR
  · rename_i fid cs hf
    rw [hf] at hfv
    obtain ⟨arr, hfe, hl, hr⟩ := R_clo hfv
    exact call_core ho hfe hl hr h hd hR
  · exact h.elim

theorem R_ptr0 [Glo] {id sz : Nat} {u : Value} (h : R M w X n (.ptr id sz 0 0) u) : ∃ g, id < n ∧ (M id).ownBlock = some g ∧ u = .pointer (some ⟨g, 0, none⟩) := by
  obtain ⟨g, h1, h2, h3⟩ := R_ptr h
  exact ⟨g, h1, h2, by simpa using h3⟩
theorem catch_R [Glo] (hR : RelM base Xa w0 st a w M) : ∀ (l : List Operand) {ids : List Nat} {cs : List V} (_ : catchV st l = some (ids, cs)) {X' : Nat → Prop} (_ : ∀ b, Xf base Xa w M st.ob b → X' b)
    (_ : ∀ id o g, id ∈ ids → lookO st.ob id = some o → (M id).ownB = some g → X' g), cs.length = l.length ∧ ∀ (j : Nat) (u : V), cs[j]? = some u → R M w X' 0 u ((l.map a.eval).getD j undef)
  | [], ids, cs, h, X', _, _ => by
    simp only [catchV, Option.some.injEq, Prod.mk.injEq] at h
    obtain ⟨rfl, rfl⟩ := h
    exact ⟨rfl, fun j u hu => by simp at hu⟩
  | x :: l, ids, cs, h, X', hX', hin => by
    simp only [catchV] at h
    split at h
    · rename_i id sz ids' cs' hx hr
      split at h
      · rename_i b hb
        split at h
        · rename_i row hrow
          cases hc : (b.box && decide (ownIds row = [])) with
          | false => simp [hc] at h
          | true =>
            simp only [hc, cond_true, Option.some.injEq, Prod.mk.injEq] at h
            obtain ⟨rfl, rfl⟩ := h
            simp only [Bool.and_eq_true, decide_eq_true_eq] at hc
            obtain ⟨h1, h2⟩ := catch_R hR l hr hX' (fun i o g hi => hin i o g (List.mem_cons_of_mem _ hi))
            refine ⟨by simp [h1], fun j u hu => ?_⟩
            cases j with
            | succ j => simpa using h2 j u (by simpa using hu)
            | zero =>
              simp only [List.getElem?_cons_zero, Option.some.injEq] at hu
              subst hu
              have hxv := ev_R hR.rx x
              rw [hx] at hxv
              obtain ⟨g, _, hg, hxe⟩ := R_ptr0 hxv
              obtain ⟨_, hok⟩ := hR.obs id b hb
              obtain ⟨vals, hown, hone, hrr⟩ := hok.row
              have hvl : vals.length = row.length := by rw [hown.1, hrow]; simp [hok.len row (by rw [hrow]; simp)]
              simp only [List.map_cons, List.getD_cons_zero, hxe]
              refine .iptr _ _ _ (fun j => vals.getD j undef) (hin id b g (List.mem_cons_self ..) hb (Value.ownB_of hg)) (fun j hj => ?_) (fun j u hu => ?_)
              · rw [List.length_map] at hj
                have hvj : vals[j]? = some (vals.getD j undef) := by rw [List.getD_eq_getElem?_getD, List.getElem?_eq_getElem (by omega)]; rfl
                exact ⟨hown.cells hg j _ hvj, hone _ (List.mem_of_getElem? hvj)⟩
              · rw [List.getElem?_map] at hu
                obtain ⟨v, hv, rfl⟩ := Option.map_eq_some_iff.1 hu
                have := hrr j v (by rw [hrow]; simpa using hv)
                exact pur1_R (n := if b.box then st.nx else 0) (by simpa using this) (fun id o ho => by
                  have := (hR.obs id o ho).2
                  simpa [hc.1] using this) hX' fun id' o g' e ho' hg' => by
                  have : id' ∈ ownIds row := mem_ownIds _ _ (by
                    rcases e with rfl | rfl
                    · exact .inl (List.mem_of_getElem? hv)
                    · exact .inr (List.mem_of_getElem? hv))
                  rw [hc.2] at this; cases this
        · simp at h
      · simp at h
    · simp at h

/-- EVERY OPERATION DOES WHAT PART 10 SAYS. -/
theorem opV_sound [Glo] {o : Oper} (h : opV P o K st) (hok : okO P st.n o = true) (hR : RelM base Xa w0 st a w M) : o.wp P a w (Nx base Xa w0 st.n K) Q := by
  have hd : ∀ d, o.dst = some d → d < st.n := fun d hd => by
    unfold okO at hok
    simp only [hd, Bool.and_eq_true, decide_eq_true_eq] at hok
    exact hok.1
  have hcv : ∀ s d x, o.op = .convert s d x → (P.underlying s).isSome = true := fun s d x h => by
    unfold okO at hok
    simp only [h, Bool.and_eq_true] at hok
    exact hok.2
  cases hpv : pv P st o.op with
  | some q =>
    obtain ⟨p, v⟩ := q
    unfold opV at h
    simp only [hpv] at h
    obtain ⟨u, h1, h2⟩ := pv_sound hpv h.1 hR.rx hcv
    exact wp_of_run h1 (Nx.of h.2 (hR.put hd h2) rfl)
  | none =>
    have h' := h
    unfold opV at h
    simp only [hpv] at h
    split at h
    · rename_i t ho
      split at h
      · rename_i cs hz; exact alloc_sound ho hz hd hR h
      · exact h.elim
    · rename_i t x ho
      split at h
      · rename_i cs hc; exact box_sound ho hc hd hR h
      · exact h.elim
    · rename_i t x y ho; exact store_sound ho h' hd hR
    · rename_i t parts ho
      split at h
      · rename_i zs hz
        split at h
        · rename_i cs hf
          obtain ⟨arr, h1, h2⟩ := build_run hz hf h.1 hR.rx
          refine wp_of_run (u := .agg arr) (w' := w) ?_ (Nx.of h.2 (hR.put hd ?_) rfl)
          · unfold execOp
            have : (parts.map fun x => (x.1, a.eval x.2)) = parts.map (fun (x : Nat × Operand) => match x with | (i, x) => (i, a.eval x)) := rfl
            simp [ho, h1]
          · exact .st _ _ _ (by simpa using h2.len) (fun u hu => h2.one u (by simpa using hu)) (fun j c hc => by
              have := h2.rel j c hc
              simpa [Array.getD_eq_getD_getElem?, List.getD_eq_getElem?_getD] using this)
        · exact h.elim
      · exact h.elim
    · rename_i t len parts ho
      split at h
      · rename_i e sz b hs
        split at h
        · rename_i zs hz
          split at h
          · rename_i cs hf; exact buildSlice_sound ho hs hz hf h.1 hd hR h.2
          · exact h.elim
        · exact h.elim
      · exact h.elim
    · rename_i t x lo hi mx ho
      split at h
      · rename_i id he
        split at h
        · rename_i b hb
          split at h
          · rename_i p v hs; exact sliceOwn_sound ho he hb hs h.1 h.2.1 h.2.2 hd hR
          · exact h.elim
        · exact h.elim
      · exact h.elim
    · rename_i op t x y yt ho
      split at h
      · rename_i sz tt xs he
        obtain ⟨hs, h⟩ := h
        obtain ⟨⟨e, s, b⟩, hse⟩ := Option.isSome_iff_exists.1 hs
        obtain ⟨_, _, hu, _⟩ := sl_parts hse
        have hx := ev_R hR.rx x
        rw [he] at hx
        obtain ⟨A, c, f, hv, _, _, _, _, _, hA, _⟩ := R_sl hx
        refine wp_of_run (u := .bool A.isNone) (w' := w) ?_ (Nx.of (h A.isNone fun hn => ?_) (hR.put hd (.bool _ _)) rfl)
        · unfold execOp
          have hr := run_equal_slice_nil (P := P) w t e A xs.length c hu
          have hg : (eqGuard .eql t x (.const (.slice none 0 0)) (.slice A xs.length c) (.slice none 0 0)).run P w = .ok () w := by unfold eqGuard; simp
          have hc : a.eval (.const (.slice none 0 0)) = .slice none 0 0 := rfl
          simp only [ho, hv, hc, Sem.run_bind, hg, Result.andThen_ok, binOp, hr, Sem.run_pure]
        · rcases Nat.eq_zero_or_pos xs.length with h0 | h0
          · exact List.eq_nil_of_length_eq_zero h0
          · obtain ⟨ad, e', _⟩ := hA h0
            rw [e'] at hn; cases hn
      · exact h.elim
    · rename_i s d x ho
      split at h
      · rename_i b e sz bb he hsl
        obtain ⟨hs, hbs, hl, hK⟩ := h
        obtain ⟨_, _, hu, _⟩ := sl_parts hsl
        obtain ⟨e', hu', he'⟩ := bs_parts hbs
        rw [hu] at hu'
        simp only [Option.some.injEq, TypeDesc.slice.injEq] at hu'
        subst hu'
        have hx := ev_R hR.rx x
        rw [he] at hx
        have hv := R_str hx
        obtain ⟨cap, w', hrn, hown, hgr⟩ := run_bytes_G (P := P) w base s d e b (isStr_of hs) hu he' hl hR.hbase
        obtain ⟨M', hM, hn, hR'⟩ := hR.grow (ob1 := st.ob) (fun i o' ho' => ho') none (fun b hx' e => by cases e) (fun i o' ho' g hg e => by cases e) (fun g hg => by cases hg) hgr (.slice (some ⟨w.heap.size, 0, none⟩) b.length cap) (fun g hg => by
            simp only [Value.ownB, Option.some.injEq] at hg; exact .inr (by omega)) ⟨e, 1, false, false, bytesX b⟩ (fun _ => Nat.one_pos) (by simp [bytesX]) _ (by simpa [bytesX] using hown) (by simp only [List.mem_map]; rintro u ⟨c, _, rfl⟩; rfl) (fun j v hv => by
            have hfl : ∀ l : List UInt8, (bytesX l).flatten = l.map fun (c : UInt8) => V.int .u8 (c.toNat : Int) := fun l => by induction l with | nil => rfl | cons x l ih => simpa [bytesX] using ih
            simp only [hfl, List.getElem?_map] at hv
            obtain ⟨c, hc, rfl⟩ := Option.map_eq_some_iff.1 hv
            rw [List.getD_eq_getElem?_getD, List.getElem?_map, hc]
            exact .int _ _ _)
        refine wp_of_run (u := _) (w' := w') ?_ (Nx.of hK (hR'.put hd (v := .own st.nx) (.own _ _ _ _ _ (by simp) hn)) rfl)
        unfold execOp
        simp only [ho, hv, Sem.run_bind, hrn, Result.andThen_ok, Sem.run_pure]
      · rename_i k n he hsl
        obtain ⟨hs, h0, h1, hK⟩ := h
        have hx := ev_R hR.rx x
        rw [he] at hx
        have hv := R_int hx
        have hrun := run_convert_int_string (P := P) w s d k n (hcv s d x ho) (isStr_of hs)
        have henc : Utf8.encode n = ⟨[UInt8.ofNat n.toNat].toArray⟩ := by
          have hval : Utf8.valid n = true := by simp [Utf8.valid]; omega
          unfold Utf8.encode
          simp only [hval, if_true]
          rw [if_pos (by omega)]
        refine wp_of_run (u := .string ⟨[UInt8.ofNat n.toNat].toArray⟩) (w' := w) ?_ (Nx.of hK (hR.put hd (.str _ _)) rfl)
        unfold execOp
        rw [henc] at hrun
        simp only [ho, hv, Sem.run_bind, hrun, Result.andThen_ok, Sem.run_pure]
      · exact h.elim
    · rename_i fn first caps ho
      split at h
      · rename_i f ids cs hc
        obtain ⟨rfl, hK⟩ := h
        have hR' := hR.fz ids
        obtain ⟨hl, hr⟩ := catch_R hR caps.toList hc (X' := Xf base Xa w M (fzs ids st.ob)) (fun b hb => ⟨hb.1, fun id o' ho' hf' => by
          rw [lookO_fzs] at ho'
          split at ho'
          · obtain ⟨o'', h1, h2⟩ := Option.map_eq_some_iff.1 ho'
            subst h2; cases hf'
          · exact hb.2 id o' ho' hf'⟩) (fun id o' g hm ho' hg => by
          obtain ⟨vals, hrow, _⟩ := (hR.obs id o' ho').2.row
          refine ⟨.inr (hrow.lt g hg), fun id' o1 ho1 hf1 e => ?_⟩
          rw [lookO_fzs] at ho1
          split at ho1
          · obtain ⟨o'', h1, h2⟩ := Option.map_eq_some_iff.1 ho1
            subst h2; cases hf1
          · rename_i hni
            exact hR.dist id' id o1 o' g ho1 ho' (fun e => hni (e ▸ hm)) e hg)
        refine wp_of_run (u := .func (.func f) #[] (caps.map a.eval)) (w' := w) ?_ (Nx.of hK (hR'.put hd (.clo _ f cs _ (by simpa using hl.symm) fun j u hu => ?_)) rfl)
        · unfold execOp
          simp [ho, Instr.makeFunc]
        · have := hr j u hu
          simpa [Array.getD_eq_getD_getElem?, List.getD_eq_getElem?_getD] using this
      · exact h.elim
    · rename_i c ho
      obtain ⟨callee, args, tys⟩ := c
      cases callee with
      | value f => exact call_sound ho h hd hR
      | invoke r m => simp at h
      | builtin b =>
        cases b <;> simp only at h
        all_goals try exact h.elim
        split at h
        · rename_i s x t t' h1 h2
          obtain ⟨rfl, h⟩ := h
          exact append_sound ho h1 h2 h hd hR
        · exact h.elim
    · rename_i t ho
      split at h
      · rename_i sz ag z hm; exact makeMap_sound ho hm hd hR h
      · exact h.elim
    · rename_i t m k x ho
      split at h
      · rename_i sz ag z id s cs hm hem hk hcs
        split at h
        · rename_i b hb
          obtain ⟨q1, q2, q3, q4, q5, q6, q7, hK⟩ := h
          exact update_sound (.inl ho) hm hem hk hcs hb q1 q2 q3 q4 q5 q6 q7 hd hR hK
        · exact h.elim
      · exact h.elim
    · rename_i t m k x ho
      split at h
      · rename_i sz ag z id s cs hm hem hk hcs
        split at h
        · rename_i b hb
          obtain ⟨q1, q2, q3, q4, q5, q6, q7, hK⟩ := h
          exact update_sound (.inr ho) hm hem hk hcs hb q1 q2 q3 q4 q5 q6 q7 hd hR hK
        · exact h.elim
      · exact h.elim
    · rename_i t m k ok ho
      split at h
      · rename_i sz ag z s hm hk
        split at h
        · rename_i id hem
          split at h
          · rename_i b hb
            obtain ⟨q1, q2, q3, hK⟩ := h
            exact lookup_sound ho hm hk (.inl ⟨id, b, hem, hb, q1, q2, rfl⟩) q3 hd hR hK
          · exact h.elim
        · rename_i sz' xs hem
          obtain ⟨rfl, q3, hK⟩ := h
          exact lookup_sound ho hm hk (.inr hem) q3 hd hR hK
        · exact h.elim
      · exact h.elim
    · rename_i t x ho
      split at h
      · rename_i s hx; exact range_sound ho hx h.1 hd hR h.2
      · exact h.elim
    · rename_i it ho
      split at h
      · rename_i id he
        split at h
        · rename_i b hb
          split at h
          · rename_i s pos hx
            obtain ⟨q1, q2, q3, q4, hK⟩ := h
            exact next_sound ho he hb hx q1 q2 q3 q4 hd hR hK
          · exact h.elim
        · exact h.elim
      · exact h.elim
    · rename_i t l c ho
      split at h
      · rename_i e sz by_ kl n kc m hs hl hc
        split at h
        · rename_i z hz
          obtain ⟨rfl, q1, q2, q3, q4, hK⟩ := h
          exact makeSlice_sound ho hs hl hc hz q1 q2 q3 q4 hd hR hK
        · exact h.elim
      · exact h.elim
    · exact h.elim
end
end Go.Ab
