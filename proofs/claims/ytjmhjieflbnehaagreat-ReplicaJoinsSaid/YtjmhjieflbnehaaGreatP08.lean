/- A part of the proof of ReplicaJoins. -/
import Derived.Test.YtjmhjieflbnehaaGreatP06
import Derived.Shelf.Strings.Builder1
set_option linter.unusedSimpArgs false
set_option linter.unusedVariables false
set_option maxHeartbeats 16000000
set_option maxRecDepth 100000
section
namespace Go.Proofs.YtjmhjieflbnehaaGreat
open Go.Ab Go.RowKit
theorem zND : Tryz.prog.cellsOf 361 = 2 := by kernel_rfl
theorem lies90 (count : Nat) (h : 1 ≤ count) : liesAt Tryz.prog Tryz.prog.depth 361 count 0 361 1 = true := by
 have hc := zND
 have hd : Tryz.prog.depth = (2 * (Tryz.prog.types.size + Made.depth) + 1) + 1 := rfl
 rw [hd]
 simp only [liesAt, Bool.or_eq_true]
 left
 rw [hd]
 simp [rowAt, hc, h, sameLayout]
theorem zRW : ∃ j, Tryz.prog.info? 361 = some j ∧ j.size = 2 := by
 have h : (Tryz.prog.info? 361).map (·.size) = some 2 := by kernel_rfl
 exact Option.map_eq_some_iff.1 h
set_option maxHeartbeats 2000000 in
theorem zSY (b : Nat) (w : World) (h0 : w.cell? ⟨b, 0, none⟩ = some (.pointer (some ⟨b, 0, none⟩))) :
  Calls Tryz.prog 309 #[.pointer (some ⟨b, 0, none⟩)] w fun e w' => e = .returned (.tuple #[]) ∧ w' = w := by
 obtain ⟨j, hj, _⟩ := zRW
 go_enter Tryz.func309, Tryz.ntmps309
 go_wp2
 rw [Lib.run_neq_ptr_same w _ Tryz.underlying359 hj]
 go_wp2
 go_end0
 exact ⟨rfl, rfl⟩
set_option maxHeartbeats 2000000 in
theorem zQq (b count : Nat) (w : World) (h0 : w.cell? ⟨b, 0, none⟩ = some (.pointer none)) (hsh : w.shape? b = some (361, count * 2)) (hct : 1 ≤ count) (hfz : w.frozen? ⟨b, 0, none⟩ = false) :
  Calls Tryz.prog 309 #[.pointer (some ⟨b, 0, none⟩)] w fun e w' => e = .returned (.tuple #[]) ∧ w' = w.setCell ⟨b, 0, none⟩ (.pointer (some ⟨b, 0, none⟩)) := by
 obtain ⟨j, hj, hjs⟩ := zRW
 have hlies : liesAt Tryz.prog Tryz.prog.depth 361 (count * 2 / Tryz.prog.cellsOf 361) 0 361 1 = true := by
  rw [zND, Nat.mul_div_cancel _ (by decide)]; exact lies90 count hct
 go_enter Tryz.func309, Tryz.ntmps309
 go_wp2
 rw [Lib.run_to_unsafe w ⟨b, 0, none⟩ Tryz.underlying359 Tryz.underlying421 hj (by rw [hjs]; decide) hsh (show 0 < count * 2 by omega)]
 simp only [Result.andThen]
 rw [Oper.upon_value]
 go_wp2
 rw [run_callFunc_extern Tryz.func330 (by kernel_rfl) (by kernel_rfl) (by kernel_rfl) (e := Extern.AbiNoEscape.same) (by kernel_rfl)]
 rw [Lib.run_noEscape]
 simp only [Result.andThen]
 rw [Oper.upon_value]
 go_wp2
 rw [Lib.run_from_unsafe w ⟨b, 0, none⟩ Tryz.underlying421 Tryz.underlying359 hj hsh hlies]
 simp only [Result.andThen]
 rw [Oper.upon_value]
 go_wp2
 go_end0
 exact ⟨rfl, rfl⟩
set_option maxHeartbeats 2000000 in
theorem zHY (b : Nat) (A : Option Addr) (n c : Nat) (q : Value) (s : ByteArray) (w w1 w2 : World) (c1 : w.drew.cell? ⟨b, 1, none⟩ = some (.slice A n c)) (hSD : (Builtin.unsafeSliceData_ #[149] 409 #[.slice A n c]).run Tryz.prog w.drew = .ok q w1)
  (c2 : w1.cell? ⟨b, 1, none⟩ = some (.slice A n c)) (hUS : (Builtin.unsafeString_ #[409, 3] 9 #[q, .int .i64 n]).run Tryz.prog w1 = .ok (.string s) w2) :
  Calls Tryz.prog 250 #[.pointer (some ⟨b, 0, none⟩)] w fun e w' => e = .returned (.string s) ∧ w' = w2 := by
 go_enter Tryz.func250, Tryz.ntmps250
 go_wp2
 go_region
 all_goals (go_wp2; go_ret; exact ⟨rfl, rfl⟩)
theorem vals1 {a : Value} {vals : Array Value} (hs : vals.size = 1) (h0 : vals.getD 0 undef = a) : vals = #[a] := by
 apply Array.ext
 ·simpa using hs
 ·intro i hi hi'
  have : i = 0 := by simp at hi'; omega
  subst this
  simpa [Array.getD, hi] using h0
abbrev bldO (c0 c1 : V) : Ob := ⟨361, 2, true, false, [[c0, c1]]⟩
abbrev bufO (s : Str) : Ob := ⟨5, 1, false, false, zAR s⟩
theorem zH0 [Glo] {base : Nat} {Xa : Nat → Prop} {w0 : W0} {st : St} {a : Act} {w : World} {M : Mp} (hR : RelM base Xa w0 st a w M) {id : Nat} {c0 c1 : V} (hob : lookO st.ob id = some (bldO c0 c1)) {g : Nat} (hg : (M id).ownBlock = some g) :
  ∃ cap cur, 1 ≤ cap ∧ w.rowAt g cur 361 ∧ cur.size = cap * 2 ∧ (∃ v0, w.cell? ⟨g, 0, none⟩ = some v0 ∧ R M w (Xf base Xa w M st.ob) st.nx c0 v0) ∧ ∃ v1, w.cell? ⟨g, 1, none⟩ = some v1 ∧ R M w (Xf base Xa w M st.ob) st.nx c1 v1 := by
 obtain ⟨_, hok⟩ := hR.obs id _ hob
 obtain ⟨vs, hrow, hone, hrr⟩ := hok.row
 simp only [if_true] at hrr
 have hvl : vs.length = 2 := by have := hrow.1; simpa using this
 rcases hrow.sl (zFe hg) with ⟨hn, _⟩ | ⟨g', cap, cur, hM, hbg, hgr, hnc, hcm, hcs, htk⟩
 ·rw [hn] at hg; cases hg
 ·rw [hM] at hg
  simp only [Value.ownBlock, Option.some.injEq] at hg
  subst hg
  have hcell : ∀ j u, vs[j]? = some u → w.cell? ⟨g', j, none⟩ = some u := fun j u hu => by
   have := hrow.cells (g := g') (by rw [hM]; rfl) j u hu
   have hadd : (⟨g', 0, none⟩ : Addr).add j = ⟨g', j, none⟩ := by unfold Addr.add; split <;> simp_all
   rwa [hadd] at this
  have hat : ∀ j, j < 2 → vs[j]? = some (vs.getD j undef) := fun j hj => by rw [List.getD_eq_getElem?_getD, List.getElem?_eq_getElem (by omega)]; rfl
  exact ⟨cap, cur, by simpa using hnc, hgr, hcs, ⟨_, hcell 0 _ (hat 0 (by omega)), hrr 0 c0 rfl⟩, _, hcell 1 _ (hat 1 (by omega)), hrr 1 c1 rfl⟩
theorem zLf {nx : Nat} {ob : List (Nat × Option Ob)} (id : Nat) (c0 c1 : V) (hob : lookO ob id = some (bldO c0 c1)) (hc : c0 = .nilp ∨ c0 = .ptr id 2 0 0) :
  InlC Tryz.prog 309 [.ptr id 2 0 0] nx ob fun r nx' ob' => r = .tup [] ∧ nx' = nx ∧ ob' = (id, some (bldO (.ptr id 2 0 0) c1)) :: ob := by
 refine ⟨by kernel_rfl, fun base Xa w0 w M vals hR hs hr => ?_⟩
 obtain ⟨g, hid, hg, hve⟩ := zGu (hr 0 _ rfl)
 obtain rfl := vals1 hs hve
 obtain ⟨cap, cur, hcap, hgr, hcs, ⟨v0, hv0, hr0⟩, _⟩ := zH0 (id := id) hR hob hg
 rcases hc with rfl | rfl
 ·obtain rfl : v0 = .pointer none := by cases hr0; rfl
  have hfz := hgr.frozen 0 (by omega)
  have hsh : w.shape? g = some (361, cap * 2) := by
   obtain ⟨fz, h1, _⟩ := hgr
   simp [World.shape?, h1, hcs]
  refine (zQq g cap w hv0 hsh hcap hfz).mono ?_
  rintro e w' ⟨rfl, rfl⟩
  have hp : R M w (Xf base Xa w M ob) nx (.ptr id 2 0 0) (.pointer (some ⟨g, 0, none⟩)) := hve ▸ hr 0 _ rfl
  obtain ⟨w', h1, h2⟩ := hR.store (P := Tryz.prog) (id := id) hob rfl hg (i := 0) (by simp) (ds := [.ptr id 2 0 0]) (us := [.pointer (some ⟨g, 0, none⟩)]) (off := 0) (by simp) (by
   simp only [if_true]
   exact .one_ rfl hp)
  have h3 : (storeCells ⟨g, 0, none⟩ [.pointer (some ⟨g, 0, none⟩)] 0).run Tryz.prog w = .ok () (w.setCell ⟨g, 0, none⟩ (.pointer (some ⟨g, 0, none⟩))) := by
   have hadd : (⟨g, 0, none⟩ : Addr).add 0 = ⟨g, 0, none⟩ := by unfold Addr.add; simp
   have hst := run_store Tryz.prog w ⟨g, 0, none⟩ (.pointer (some ⟨g, 0, none⟩)) .plain (by rfl)
   rw [hv0, hfz] at hst
   simp only [storeCells, Sem.run_bind, hadd, hst]
   simp [Result.andThen]
  simp only [Nat.zero_mul, Nat.zero_add] at h1
  rw [h3] at h1
  simp only [Result.ok.injEq, true_and] at h1
  subst h1
  exact ⟨_, .tup [], nx, _, M, rfl, ⟨rfl, rfl, rfl⟩, h2, .tup _ _ _ rfl fun j u hu => by simp at hu⟩
 ·obtain ⟨g', _, hg', rfl⟩ := zGu hr0
  obtain rfl : g = g' := by rw [hg] at hg'; simpa using hg'
  refine (zSY g w hv0).mono ?_
  rintro e w' ⟨rfl, rfl⟩
  refine ⟨_, .tup [], nx, _, M, rfl, ⟨rfl, rfl, rfl⟩, hR.sub fun i o ho => ?_, .tup _ _ _ rfl fun j u hu => by simp at hu⟩
  simp only [lookO] at ho
  split at ho
  ·rename_i e; subst e
   simp only [Option.some.injEq] at ho
   subst ho
   exact ⟨false, hob, fun h => h⟩
  ·exact ⟨o.fz, ho, fun h => h⟩
theorem zEe {nx : Nat} {ob : List (Nat × Option Ob)} (id bid : Nat) (c0 : V) (s : Str) (hob : lookO ob id = some (bldO c0 (.own bid))) (hbb : lookO ob bid = some (bufO s)) :
  InlC Tryz.prog 250 [.ptr id 2 0 0] nx ob fun r _ _ => r = .str s := by
 refine ⟨by kernel_rfl, fun base Xa w0 w M vals hR hs hr => ?_⟩
 obtain ⟨g, hid, hg, hve⟩ := zGu (hr 0 _ rfl)
 obtain rfl := vals1 hs hve
 obtain ⟨cap0, cur0, hcap, hgr0, _, _, v1, hv1, hr1⟩ := zH0 (id := id) hR hob hg
 obtain ⟨hbid, hM⟩ := zGE hr1
 obtain ⟨A, l, c, rfl⟩ : ∃ A l c, v1 = .slice A l c := by cases hr1; exact ⟨_, _, _, rfl⟩
 obtain ⟨_, hok⟩ := hR.obs bid _ hbb
 obtain ⟨vs, hrow, hone, hrr⟩ := hok.row
 simp only [Bool.false_eq_true, if_false] at hrr
 have hbl : (zAR s).length = s.length := by simp [zAR]
 simp only [hbl] at hrow
 have hfin : ∀ (w2 : World) (row : Option Nat), w.grownBy w2 row → (∀ k, row = some k → (M bid).ownB = some k) → (Calls Tryz.prog 250 #[.pointer (some ⟨g, 0, none⟩)] w fun e w' => e = .returned (.string ⟨s.toArray⟩) ∧ w' = w2) →
   Calls Tryz.prog 250 #[.pointer (some ⟨g, 0, none⟩)] w fun e w' => ∃ val r nx' ob' M', e = .returned val ∧ r = .str s ∧ RelM base Xa w0 ⟨0, [], nx', ob', nx⟩ ⟨#[], []⟩ w' M' ∧ R M' w' (Xf base Xa w' M' ob') nx' r val := by
  intro w2 row hgb hrw hcl
  refine hcl.mono ?_
  rintro e w' ⟨rfl, rfl⟩
  obtain ⟨M', _, _, hR'⟩ := hR.grow (ob1 := []) (fun i o ho => by simp [lookO] at ho) row (fun b hb e => hb.2 bid _ hbb rfl (hrw b e.symm)) (fun i o ho => by simp [lookO] at ho) (fun k hk => (hrow.lt k (hrw k hk)).1) hgb (.slice none 0 0) (fun k hk => by simp [Value.ownB] at hk) ⟨5, 1, false, false, []⟩ (fun _ => by simp) (by simp) [] (World.ownsG_nil _ _ _ _) (by simp) (fun j u hu => by simp at hu)
  exact ⟨_, .str s, _, _, M', rfl, rfl, hR', .str _ _⟩
 have hdrew : ∀ k, w.drew.cell? k = w.cell? k := fun k => rfl
 have gdrew : w.grownBy w.drew none := ⟨rfl, rfl, rfl, Nat.le_refl _, fun _ _ _ => rfl⟩
 rw [hM] at hrow
 rcases hrow.2 with ⟨h, h0⟩ | ⟨g2, cap, cur, h, hbg, hg2, hnc, hcm, hcs, htk⟩ | hodd
 ·simp only [Value.slice.injEq] at h
  obtain ⟨rfl, rfl, rfl⟩ := h
  obtain rfl : s = [] := List.eq_nil_of_length_eq_zero h0
  exact hfin w.drew none gdrew (fun k hk => by cases hk) (zHY g none 0 0 (.pointer none) ⟨#[]⟩ w w.drew w.drew hv1 rfl hv1 (Lib.run_unsafeString_none _ _ _ _ _))
 ·simp only [Value.slice.injEq] at h
  obtain ⟨rfl, rfl, rfl⟩ := h
  by_cases h0 : s = []
  ·subst h0
   by_cases hc0 : c = 0
   ·subst hc0
    have hlt : g < w.heap.size := hgr0.lt
    have hsh : w.drew.shape? g2 = some (5, cur.size) := by
     obtain ⟨fz, h1, _⟩ := hg2
     have h1' : w.drew.heap[g2]? = some (.cells cur 5 fz) := h1
     simp [World.shape?, h1']
    have hSD := Lib.run_unsafeSliceData_zero (P := Tryz.prog) w.drew #[149] 409 5 Tryz.underlying409 ⟨g2, 0, none⟩ 0 _ hsh
    have hv1' : (w.drew.alloc (.view ⟨g2, 0, none⟩ 5)).cell? ⟨g, 1, none⟩ = some (.slice (some ⟨g2, 0, none⟩) 0 0) := by
     rw [World.cell?_of_block (w := w.drew) (w' := w.drew.alloc (.view ⟨g2, 0, none⟩ 5)) (a := ⟨g, 1, none⟩) (Lib.alloc_old w.drew _ g hlt)]
     exact hv1
    refine hfin (w.drew.alloc (.view ⟨g2, 0, none⟩ 5)) none ⟨rfl, rfl, rfl, by simp, fun k hk _ => ?_⟩ (fun k hk => by cases hk) (zHY g (some ⟨g2, 0, none⟩) 0 0 _ ⟨#[]⟩ w _ _ hv1 hSD hv1' (Lib.run_unsafeString_none _ _ _ _ _))
    exact Lib.alloc_old w.drew _ k hk
   ·exact hfin w.drew none gdrew (fun k hk => by cases hk) (zHY g (some ⟨g2, 0, none⟩) 0 c (.pointer (some ⟨g2, 0, none⟩)) ⟨#[]⟩ w w.drew w.drew hv1 (Lib.run_unsafeSliceData_row _ _ _ _ _ _ hc0) hv1 (Lib.run_unsafeString_none _ _ _ _ _))
  ·have hl0 : s.length ≠ 0 := by simpa using h0
   have hsh : w.drew.shape? g2 = some (5, cur.size) := by
    obtain ⟨fz, h1, _⟩ := hg2
    have h1' : w.drew.heap[g2]? = some (.cells cur 5 fz) := h1
    simp [World.shape?, h1']
   have hflat : (zAR s).flatten = s.map fun (c : UInt8) => V.int .u8 (c.toNat : Int) := by
    unfold zAR
    clear hrow hbb hbl hfin h0 hl0 hnc htk hrr hok hv1 hr1 hM hsh
    induction s with
    | nil => rfl
    | cons c s ih => simp [ih]
   have hUS := Lib.run_unsafeString_row (P := Tryz.prog) w.drew 409 3 9 5 Tryz.underlying409 (by kernel_rfl) g2 cur.size hsh s h0 (by omega) (by simp only [maxLen] at hcm; omega) (fun j x hx => by
    have h1 := hrr j (.int .u8 x.toNat) (by rw [hflat, List.getElem?_map, hx]; rfl)
    have h2 := zBw h1
    have hvj : vs[j]? = some (.int .u8 x.toNat) := by
     rw [← h2, List.getD_eq_getElem?_getD]
     have hjl : j < vs.length := by
      have := (List.getElem?_eq_some_iff.1 hx).1
      have := hrow.1
      omega
     rw [List.getElem?_eq_getElem hjl]; rfl
    have := hrow.cells (g := g2) (by rfl) j _ hvj
    exact this)
   refine hfin (w.drew.freeze ⟨g2, 0, none⟩ s.length) (some g2) ?_ (fun k hk => by rw [hM]; simpa [Value.ownB] using hk) (zHY g (some ⟨g2, 0, none⟩) s.length c (.pointer (some ⟨g2, 0, none⟩)) ⟨s.toArray⟩ w w.drew _ hv1 (Lib.run_unsafeSliceData_row _ _ _ _ _ _ (by omega)) hv1 hUS)
   unfold World.freeze
   rw [if_neg hl0]
   refine ⟨rfl, rfl, rfl, by simp, fun k _ hk => ?_⟩
   have hne : g2 ≠ k := fun e => hk (by rw [e])
   simp [Array.getElem?_modify, hne]
   rfl
 ·exact hodd.noSl.elim
def WPost (nx : Nat) (ob : List (Nat × Option Ob)) (id bid : Nat) (s : Str) (nx' : Nat) (ob' : List (Nat × Option Ob)) : Prop := ∃ k, nx ≤ k ∧ k < nx' ∧ lookO ob' k = some (bufO s) ∧ lookO ob' id = some (bldO (.ptr id 2 0 0) (.own k)) ∧ ∀ j, j ≠ id → j ≠ bid → j < nx → lookO ob' j = lookO ob j
set_option maxHeartbeats 8000000 in
theorem zEP {nx : Nat} {ob : List (Nat × Option Ob)} (id bid : Nat) (c0 : V) (s t : Str) (hob : lookO ob id = some (bldO c0 (.own bid))) (hbb : lookO ob bid = some (bufO s)) (hc : c0 = .nilp ∨ c0 = .ptr id 2 0 0) (hi : id < nx) (hb : bid < nx) (hne : id ≠ bid) (hl : s.length + t.length ≤ 1000000) :
  InlC Tryz.prog 247 [.ptr id 2 0 0, .str t] nx ob fun r nx' ob' => r = .tup [.int .i64 t.length, .poi] ∧ WPost nx ob id bid (s ++ t) nx' ob' := by
 have hbl : (zAR s).length = s.length := by simp [zAR]
 have hm : s.length + t.length ≤ maxLen := by simp only [maxLen]; omega
 have hap : zAR s ++ zAR t = zAR (s ++ t) := by simp [zAR]
 have n1 : ¬ bid = id := fun e => hne e.symm
 have n2 : ¬ id = nx := by omega
 have n3 : ¬ bid = nx := by omega
 have n4 : ¬ nx = id := by omega
 have n5 : ¬ nx = bid := by omega
 refine InlC.of Tryz.func247 rfl (by kernel_rfl) rfl ?_
 simp only [Tryz.ntmps247, St.startI, argT]
 refine au ?_;intros;refine wr ?_
 first | refine .inr ((zLf id c0 (.own bid) hob hc).mono fun r nx' ob' hp => ?_) | refine (zLf id c0 (.own bid) hob hc).mono fun r nx' ob' hp => ?_ | refine ((zLf id c0 (.own bid) hob hc).mono fun r nx' ob' hp => ?_).2
 simp only [aftI]
 obtain ⟨rfl, rfl, rfl⟩ := hp
 simp [hne, n1, n2, n3, n4, n5, hob, hbb, hbl, hap]
 refine au1 (kX10 @hne @n1 @n2 @n3 @n4 @n5 @hob @hbb @hbl @hap) ?_;intros;refine wr ?_
 refine zAB ?_
 simp
 exact ⟨_, Nat.le_refl _, Nat.lt_succ_self _, by simp [lookO, n4], by simp [lookO], fun j h1 h2 h3 => by
  have h4 : ¬ j = nx' := by omega
  simp [lookO, h1, h2, h4]⟩
set_option maxHeartbeats 8000000 in
theorem zDX {nx : Nat} {ob : List (Nat × Option Ob)} (id : Nat) (t : Str) (hob : lookO ob id = some (bldO .nilp (.sl 0 true []))) (hi : id < nx) (hl : t.length ≤ 1000000) :
  InlC Tryz.prog 247 [.ptr id 2 0 0, .str t] nx ob fun r nx' ob' => r = .tup [.int .i64 t.length, .poi] ∧ WPost nx ob id nx t nx' ob' := by
 have hbl : (zAR ([] : Str)).length = 0 := by simp [zAR]
 have hm : t.length ≤ maxLen := by simp only [maxLen]; omega
 have n2 : ¬ id = nx := by omega
 have n3 : ¬ nx = id := by omega
 have n4 : ¬ id = nx + 1 := by omega
 have n5 : ¬ nx + 1 = id := by omega
 refine InlC.of Tryz.func247 rfl (by kernel_rfl) rfl ?_
 simp only [Tryz.ntmps247, St.startI, argT]
 refine zJ6 id 1 5 1 (by decide) hob rfl rfl rfl ?_
 refine au1 (kX2 @n2 @n3) ?_;intros;refine wr ?_
 first | refine .inr ((zLf id .nilp (.own nx) (by simp [lookO]) (.inl rfl)).mono fun r nx' ob' hp => ?_) | refine (zLf id .nilp (.own nx) (by simp [lookO]) (.inl rfl)).mono fun r nx' ob' hp => ?_ | refine ((zLf id .nilp (.own nx) (by simp [lookO]) (.inl rfl)).mono fun r nx' ob' hp => ?_).2
 simp only [aftI]
 obtain ⟨rfl, rfl, rfl⟩ := hp
 simp [n2, n3, n4, n5, hob]
 refine au1 (kX6 @n2 @n3 @n4 @n5 @hob @hm) ?_;intros;refine wr ?_
 refine zAB ?_
 simp
 exact ⟨_, Nat.le_succ _, Nat.lt_succ_self _, by simp [lookO, n4, n5], by simp [lookO], fun j h1 h2 h3 => by
  have h4 : ¬ j = nx + 1 := by omega
  simp [lookO, h1, h2, h4]⟩
theorem zEQ {nx : Nat} {ob : List (Nat × Option Ob)} (id bid : Nat) (c0 : V) (s : Str) (hob : lookO ob id = some (bldO c0 (.own bid))) (hbb : lookO ob bid = some (bufO s)) :
  InlC Tryz.prog 249 [.ptr id 2 0 0] nx ob fun r nx' ob' => r = .int .i64 s.length ∧ nx' = nx ∧ ob' = ob := by
 have hbl : (zAR s).length = s.length := by simp [zAR]
 refine InlC.of Tryz.func249 rfl (by kernel_rfl) rfl ?_
 simp only [Tryz.ntmps249, St.startI, argT]
 refine au1 (kX3 @hob @hbb @hbl) ?_;intros;refine wr ?_
 refine zAB ?_
 simp
end Go.Proofs.YtjmhjieflbnehaaGreat
end
