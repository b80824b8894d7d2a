/- strings.Builder: its methods at a builder of the caller's own. (Numbers of seat r2.D.) -/
import Derived.Test.YtpifpdjefbehmaaGreatBld
namespace Go.Proofs.YtpifpdjefbehmaaGreat
open Go.Ab Go.RowKit
set_option linter.unusedSimpArgs false
set_option maxRecDepth 100000
theorem vals1 {a : Value} {vals : Array Value} (hs : vals.size = 1) (h0 : vals.getD 0 undef = a) : vals = #[a] := by
  apply Array.ext
  · simpa using hs
  · intro i hi hi'
    have : i = 0 := by simp at hi'; omega
    subst this
    simpa [Array.getD, hi] using h0
/-- a builder's box -/
abbrev bldO (c0 c1 : V) : Ob := ⟨354, 2, true, false, [[c0, c1]]⟩
/-- a builder's bytes -/
abbrev bufO (s : Str) : Ob := ⟨5, 1, false, false, bytesX s⟩
theorem box_parts [Glo] {base : Nat} {Xa : Nat → Prop} {w0 : W0} {st : St} {a : Act} {w : World} {M : Mp} (hR : RelM base Xa w0 st a w M) {id : Nat} {c0 c1 : V} (hob : lookO st.ob id = some (bldO c0 c1)) {g : Nat} (hg : (M id).ownBlock = some g) :
    ∃ cap cur, 1 ≤ cap ∧ w.rowAt g cur 354 ∧ cur.size = cap * 2 ∧ (∃ v0, w.cell? ⟨g, 0, none⟩ = some v0 ∧ R M w (Xf base Xa w M st.ob) st.nx c0 v0) ∧ ∃ v1, w.cell? ⟨g, 1, none⟩ = some v1 ∧ R M w (Xf base Xa w M st.ob) st.nx c1 v1 := by
  obtain ⟨_, hok⟩ := hR.obs id _ hob
  obtain ⟨vs, hrow, hone, hrr⟩ := hok.row
  simp only [if_true] at hrr
  have hvl : vs.length = 2 := by have := hrow.1; simpa using this
  rcases hrow.sl (sl_of_blk hg) with ⟨hn, _⟩ | ⟨g', cap, cur, hM, hbg, hgr, hnc, hcm, hcs, htk⟩
  · rw [hn] at hg; cases hg
  · rw [hM] at hg
    simp only [Value.ownBlock, Option.some.injEq] at hg
    subst hg
    have hcell : ∀ j u, vs[j]? = some u → w.cell? ⟨g', j, none⟩ = some u := fun j u hu => by
      have := hrow.cells (g := g') (by rw [hM]; rfl) j u hu
      have hadd : (⟨g', 0, none⟩ : Addr).add j = ⟨g', j, none⟩ := by unfold Addr.add; split <;> simp_all
      rwa [hadd] at this
    have hat : ∀ j, j < 2 → vs[j]? = some (vs.getD j undef) := fun j hj => by rw [List.getD_eq_getElem?_getD, List.getElem?_eq_getElem (by omega)]; rfl
    exact ⟨cap, cur, by simpa using hnc, hgr, hcs, ⟨_, hcell 0 _ (hat 0 (by omega)), hrr 0 c0 rfl⟩, _, hcell 1 _ (hat 1 (by omega)), hrr 1 c1 rfl⟩
theorem cc_ok {nx : Nat} {ob : List (Nat × Option Ob)} (id : Nat) (c0 c1 : V) (hob : lookO ob id = some (bldO c0 c1)) (hc : c0 = .nilp ∨ c0 = .ptr id 2 0 0) :
    InlC Tryz.prog 304 [.ptr id 2 0 0] nx ob fun r nx' ob' => r = .tup [] ∧ nx' = nx ∧ ob' = (id, some (bldO (.ptr id 2 0 0) c1)) :: ob := by
  refine ⟨by kernel_rfl, fun base Xa w0 w M vals hR hs hr => ?_⟩
  obtain ⟨g, hid, hg, hve⟩ := R_ptr0 (hr 0 _ rfl)
  obtain rfl := vals1 hs hve
  obtain ⟨cap, cur, hcap, hgr, hcs, ⟨v0, hv0, hr0⟩, _⟩ := box_parts (id := id) hR hob hg
  rcases hc with rfl | rfl
  · obtain rfl : v0 = .pointer none := by cases hr0; rfl
    have hfz := hgr.frozen 0 (by omega)
    have hsh : w.shape? g = some (354, cap * 2) := by
      obtain ⟨fz, h1, _⟩ := hgr
      simp [World.shape?, h1, hcs]
    refine (cc_fresh g cap w hv0 hsh hcap hfz).mono ?_
    rintro e w' ⟨rfl, rfl⟩
    have hp : R M w (Xf base Xa w M ob) nx (.ptr id 2 0 0) (.pointer (some ⟨g, 0, none⟩)) := hve ▸ hr 0 _ rfl
    obtain ⟨w', h1, h2⟩ := hR.store (P := Tryz.prog) (id := id) hob rfl hg (i := 0) (by simp) (ds := [.ptr id 2 0 0]) (us := [.pointer (some ⟨g, 0, none⟩)]) (off := 0) (by simp) (by
      simp only [if_true]
      exact .one_ rfl hp)
    have h3 : (storeCells ⟨g, 0, none⟩ [.pointer (some ⟨g, 0, none⟩)] 0).run Tryz.prog w = .ok () (w.setCell ⟨g, 0, none⟩ (.pointer (some ⟨g, 0, none⟩))) := by
      have hadd : (⟨g, 0, none⟩ : Addr).add 0 = ⟨g, 0, none⟩ := by unfold Addr.add; simp
      have hst := run_store Tryz.prog w ⟨g, 0, none⟩ (.pointer (some ⟨g, 0, none⟩)) .plain (by rfl)
      rw [hv0, hfz] at hst
      simp only [storeCells, Sem.run_bind, hadd, hst]
      simp [Result.andThen]
    simp only [Nat.zero_mul, Nat.zero_add] at h1
    rw [h3] at h1
    simp only [Result.ok.injEq, true_and] at h1
    subst h1
    exact ⟨_, .tup [], nx, _, M, rfl, ⟨rfl, rfl, rfl⟩, h2, .tup _ _ _ rfl fun j u hu => by simp at hu⟩
  · obtain ⟨g', _, hg', rfl⟩ := R_ptr0 hr0
    obtain rfl : g = g' := by rw [hg] at hg'; simpa using hg'
    refine (cc_used g w hv0).mono ?_
    rintro e w' ⟨rfl, rfl⟩
    refine ⟨_, .tup [], nx, _, M, rfl, ⟨rfl, rfl, rfl⟩, hR.sub fun i o ho => ?_, .tup _ _ _ rfl fun j u hu => by simp at hu⟩
    simp only [lookO] at ho
    split at ho
    · rename_i e; subst e
      simp only [Option.some.injEq] at ho
      subst ho
      exact ⟨false, hob, fun h => h⟩
    · exact ⟨o.fz, ho, fun h => h⟩
theorem bstr_ok {nx : Nat} {ob : List (Nat × Option Ob)} (id bid : Nat) (c0 : V) (s : Str) (hob : lookO ob id = some (bldO c0 (.own bid))) (hbb : lookO ob bid = some (bufO s)) :
    InlC Tryz.prog 247 [.ptr id 2 0 0] nx ob fun r _ _ => r = .str s := by
  refine ⟨by kernel_rfl, fun base Xa w0 w M vals hR hs hr => ?_⟩
  obtain ⟨g, hid, hg, hve⟩ := R_ptr0 (hr 0 _ rfl)
  obtain rfl := vals1 hs hve
  obtain ⟨cap0, cur0, hcap, hgr0, _, _, v1, hv1, hr1⟩ := box_parts (id := id) hR hob hg
  obtain ⟨hbid, hM⟩ := R_own hr1
  obtain ⟨A, l, c, rfl⟩ : ∃ A l c, v1 = .slice A l c := by cases hr1; exact ⟨_, _, _, rfl⟩
  obtain ⟨_, hok⟩ := hR.obs bid _ hbb
  obtain ⟨vs, hrow, hone, hrr⟩ := hok.row
  simp only [Bool.false_eq_true, if_false] at hrr
  have hbl : (bytesX s).length = s.length := by simp [bytesX]
  simp only [hbl] at hrow
  have hfin : ∀ (w2 : World) (row : Option Nat), w.grownBy w2 row → (∀ k, row = some k → (M bid).ownB = some k) → (Calls Tryz.prog 247 #[.pointer (some ⟨g, 0, none⟩)] w fun e w' => e = .returned (.string ⟨s.toArray⟩) ∧ w' = w2) →
      Calls Tryz.prog 247 #[.pointer (some ⟨g, 0, none⟩)] w fun e w' => ∃ val r nx' ob' M', e = .returned val ∧ r = .str s ∧ RelM base Xa w0 ⟨0, [], nx', ob', nx⟩ ⟨#[], []⟩ w' M' ∧ R M' w' (Xf base Xa w' M' ob') nx' r val := by
    intro w2 row hgb hrw hcl
    refine hcl.mono ?_
    rintro e w' ⟨rfl, rfl⟩
    obtain ⟨M', _, _, hR'⟩ := hR.grow (ob1 := []) (fun i o ho => by simp [lookO] at ho) row (fun b hb e => hb.2 bid _ hbb rfl (hrw b e.symm)) (fun i o ho => by simp [lookO] at ho) (fun k hk => (hrow.lt k (hrw k hk)).1) hgb (.slice none 0 0) (fun k hk => by simp [Value.ownB] at hk) ⟨5, 1, false, false, []⟩ (fun _ => by simp) (by simp) [] (World.ownsG_nil _ _ _ _) (by simp) (fun j u hu => by simp at hu)
    exact ⟨_, .str s, _, _, M', rfl, rfl, hR', .str _ _⟩
  have hdrew : ∀ k, w.drew.cell? k = w.cell? k := fun k => rfl
  have gdrew : w.grownBy w.drew none := ⟨rfl, rfl, rfl, Nat.le_refl _, fun _ _ _ => rfl⟩
  rw [hM] at hrow
  rcases hrow.2 with ⟨h, h0⟩ | ⟨g2, cap, cur, h, hbg, hg2, hnc, hcm, hcs, htk⟩ | hodd
  · simp only [Value.slice.injEq] at h
    obtain ⟨rfl, rfl, rfl⟩ := h
    obtain rfl : s = [] := List.eq_nil_of_length_eq_zero h0
    exact hfin w.drew none gdrew (fun k hk => by cases hk) (str_raw g none 0 0 (.pointer none) ⟨#[]⟩ w w.drew w.drew hv1 rfl hv1 (Lib.run_unsafeString_none _ _ _ _ _))
  · simp only [Value.slice.injEq] at h
    obtain ⟨rfl, rfl, rfl⟩ := h
    by_cases h0 : s = []
    · subst h0
      by_cases hc0 : c = 0
      · subst hc0
        have hlt : g < w.heap.size := hgr0.lt
        have hsh : w.drew.shape? g2 = some (5, cur.size) := by
          obtain ⟨fz, h1, _⟩ := hg2
          have h1' : w.drew.heap[g2]? = some (.cells cur 5 fz) := h1
          simp [World.shape?, h1']
        have hSD := Lib.run_unsafeSliceData_zero (P := Tryz.prog) w.drew #[198] 400 5 Tryz.underlying400 ⟨g2, 0, none⟩ 0 _ hsh
        have hv1' : (w.drew.alloc (.view ⟨g2, 0, none⟩ 5)).cell? ⟨g, 1, none⟩ = some (.slice (some ⟨g2, 0, none⟩) 0 0) := by
          rw [World.cell?_of_block (w := w.drew) (w' := w.drew.alloc (.view ⟨g2, 0, none⟩ 5)) (a := ⟨g, 1, none⟩) (Lib.alloc_old w.drew _ g hlt)]
          exact hv1
        refine hfin (w.drew.alloc (.view ⟨g2, 0, none⟩ 5)) none ⟨rfl, rfl, rfl, by simp, fun k hk _ => ?_⟩ (fun k hk => by cases hk) (str_raw g (some ⟨g2, 0, none⟩) 0 0 _ ⟨#[]⟩ w _ _ hv1 hSD hv1' (Lib.run_unsafeString_none _ _ _ _ _))
        exact Lib.alloc_old w.drew _ k hk
      · exact hfin w.drew none gdrew (fun k hk => by cases hk) (str_raw g (some ⟨g2, 0, none⟩) 0 c (.pointer (some ⟨g2, 0, none⟩)) ⟨#[]⟩ w w.drew w.drew hv1 (Lib.run_unsafeSliceData_row _ _ _ _ _ _ hc0) hv1 (Lib.run_unsafeString_none _ _ _ _ _))
    · have hl0 : s.length ≠ 0 := by simpa using h0
      have hsh : w.drew.shape? g2 = some (5, cur.size) := by
        obtain ⟨fz, h1, _⟩ := hg2
        have h1' : w.drew.heap[g2]? = some (.cells cur 5 fz) := h1
        simp [World.shape?, h1']
      have hflat : (bytesX s).flatten = s.map fun (c : UInt8) => V.int .u8 (c.toNat : Int) := by
        unfold bytesX
        clear hrow hbb hbl hfin h0 hl0 hnc htk hrr hok hv1 hr1 hM hsh
        induction s with
        | nil => rfl
        | cons c s ih => simp [ih]
      have hUS := Lib.run_unsafeString_row (P := Tryz.prog) w.drew 400 3 9 5 Tryz.underlying400 (by kernel_rfl) g2 cur.size hsh s h0 (by omega) (by simp only [maxLen] at hcm; omega) (fun j x hx => by
        have h1 := hrr j (.int .u8 x.toNat) (by rw [hflat, List.getElem?_map, hx]; rfl)
        have h2 := R_int h1
        have hvj : vs[j]? = some (.int .u8 x.toNat) := by
          rw [← h2, List.getD_eq_getElem?_getD]
          have hjl : j < vs.length := by
            have := (List.getElem?_eq_some_iff.1 hx).1
            have := hrow.1
            omega
          rw [List.getElem?_eq_getElem hjl]; rfl
        have := hrow.cells (g := g2) (by rfl) j _ hvj
        exact this)
      refine hfin (w.drew.freeze ⟨g2, 0, none⟩ s.length) (some g2) ?_ (fun k hk => by rw [hM]; simpa [Value.ownB] using hk) (str_raw g (some ⟨g2, 0, none⟩) s.length c (.pointer (some ⟨g2, 0, none⟩)) ⟨s.toArray⟩ w w.drew _ hv1 (Lib.run_unsafeSliceData_row _ _ _ _ _ _ (by omega)) hv1 hUS)
      unfold World.freeze
      rw [if_neg hl0]
      refine ⟨rfl, rfl, rfl, by simp, fun k _ hk => ?_⟩
      have hne : g2 ≠ k := fun e => hk (by rw [e])
      simp [Array.getElem?_modify, hne]
      rfl
  · exact hodd.noSl.elim
end Go.Proofs.YtpifpdjefbehmaaGreat
