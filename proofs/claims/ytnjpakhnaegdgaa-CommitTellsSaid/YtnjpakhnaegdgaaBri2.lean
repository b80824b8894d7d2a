/- From contracts to rows: stores, outputs, lists of numbers. -/
import Derived.Test.YtnjpakhnaegdgaaBri
import Derived.ChangeSlices
import Derived.DataShut
namespace Go.Proofs.Ytnjpakhnaegdgaa
open Go.Ab Go.ChangeShapes Go.WideShapes Go.ChangeAt Go.RowKit
variable {P : Program} {w : World} {base : Nat} {spare : Nat → Bool} {held : Bool} {H : Type} {enc : TypeId × Value → H}
theorem strs1 {t e : TypeId} {fuel : Nat} {v : Value} {x : DataW H × List MemPlace} (ht : P.underlying t = some (.slice e)) (he : P.underlying e = some .string) (hc : P.cellsOf e = 1)
    (h : DataW.trod enc P w base spare held fuel t [v] = some x) : ∃ l : List (List UInt8), R M0 w (X0 w) 0 (.sl 1 false (strs l)) v ∧ v.oneCell' = true := by
  obtain ⟨z, tt, l, hz, hR, ho⟩ := open_strs ht he hc h
  refine ⟨l, wk1_R (v := .sl z tt (strs l)) ?_ hR, ho⟩
  rcases hz with rfl | ⟨rfl, rfl⟩
  · simp
  · simp [strs]
def ints (k : IntKind) (l : List Int) : List (List V) := l.map fun n => [.int k n]
theorem ints_len (k : IntKind) (l : List Int) : (ints k l).length = l.length := by simp [ints]
theorem ints_flat (k : IntKind) (l : List Int) : (ints k l).flatten = l.map (.int k) := by
  induction l with
  | nil => rfl
  | cons a r ih => simp only [ints, List.map_cons, List.flatten_cons] at ih ⊢; rw [ih]; rfl
theorem ints1 {t e : TypeId} {k : IntKind} {fuel : Nat} {v : Value} {x : DataW H × List MemPlace} (ht : P.underlying t = some (.slice e)) (he : P.underlying e = some (.int k)) (hc : P.cellsOf e = 1)
    (h : DataW.trod enc P w base spare held fuel t [v] = some x) : ∃ l : List Int, R M0 w (X0 w) 0 (.sl 1 false (ints k l)) v ∧ (∀ n ∈ l, k.min ≤ n ∧ n ≤ k.max) ∧ v.oneCell' = true := by
  rcases open_ints ht he hc h with ⟨hv, _⟩ | ⟨a, len, cap, zs, hv, _, hl, hm, hzs, _, hcell, hwf⟩
  · simp only [List.cons.injEq, and_true] at hv
    subst hv
    exact ⟨[], .sl _ 1 false [] none 0 0 (fun _ => undef) rfl (Nat.le_refl _) (by decide) (by simp) (by simp) (by simp) (fun h => by omega) (by simp), by simp, rfl⟩
  · simp only [List.cons.injEq, and_true] at hv
    subst hv
    have hle : len ≤ zs.length := by rw [hzs]; split <;> omega
    refine ⟨zs.take len, .sl _ 1 false _ (some a) len cap (fun j => .int k (zs.getD j 0)) (by simp [ints]; omega) hl hm (by simp) (by simp) (fun y hy => by simp only [ints, List.mem_map] at hy; obtain ⟨_, _, rfl⟩ := hy; rfl) (fun h0 => ⟨a, rfl, ?_, fun j hj => ⟨hcell j (by omega), rfl⟩⟩) fun j u hu => ?_, fun n hn => (Lit.wf_int_iff k n).1 (hwf n (List.mem_of_mem_take hn)), rfl⟩
    · have := cell_lt (hcell 0 (by omega))
      rwa [add_block] at this
    · rw [ints_flat] at hu
      simp only [List.getElem?_map, Option.map_eq_some_iff] at hu
      obtain ⟨s, hs, rfl⟩ := hu
      rw [List.getElem?_take] at hs
      split at hs
      · have e : zs.getD j 0 = s := by rw [List.getD_eq_getElem?_getD, hs]; rfl
        rw [e]; exact .int _ _ _
      · simp at hs
theorem R_list {M : Mp} {X : Nat → Prop} {n : Nat} : ∀ {cs : List V} {us : List Value}, cs.length = us.length → (∀ p ∈ cs.zip us, R M w X n p.1 p.2 ∧ p.2.oneCell' = true) → R M w X n (.st cs) (.agg us.toArray) := fun {cs us} hl h => by
  refine .st _ _ _ (by simpa using hl) (fun u hu => ?_) (fun j u hu => ?_)
  · obtain ⟨j, hj, rfl⟩ := List.getElem_of_mem (by simpa using hu : u ∈ us)
    have := h (cs[j]'(by omega), us[j]) (List.mem_of_getElem? (i := j) (by rw [List.getElem?_zip_eq_some]; exact ⟨List.getElem?_eq_getElem _, List.getElem?_eq_getElem _⟩))
    exact this.2
  · have hj := (List.getElem?_eq_some_iff.1 hu).1
    have := h (u, us[j]'(by omega)) (List.mem_of_getElem? (i := j) (by rw [List.getElem?_zip_eq_some]; exact ⟨hu, List.getElem?_eq_getElem _⟩))
    simpa [Array.getD, show j < us.length by omega] using this.1
set_option maxRecDepth 100000 in
theorem R_store {v : Value} {d : DataW H} {p : List MemPlace} {r : Reach} {b0 : Nat} (hv : Value.okWide Try.prog w r b0 45 v) (h : DataW.Trod enc Try.prog w base spare held 45 v d p) :
    ∃ (l : List (List UInt8)) (g o : Int), 0 ≤ g ∧ R M0 w (X0 w) 0 (.st [.sl 1 false (strs l), .int .u64 g, .int .i64 o]) v := by
  obtain ⟨v0, v1, v2, y0, y1, y2, n, rfl, _, _, h0, h1, h2⟩ := Joins.open_agg3 Try.underlying45 (by kernel_rfl) (by kernel_rfl) hv h
  obtain ⟨l, hR, ho⟩ := strs1 Try.underlying22 Try.underlying9 (by kernel_rfl) h0
  obtain ⟨g, e1, _, wg⟩ := DataW.trod_int Try.underlying43 h1
  obtain ⟨o, e2, _, wo⟩ := DataW.trod_int Try.underlying3 h2
  simp only [List.cons.injEq, and_true] at e1 e2
  subst e1; subst e2
  refine ⟨l, g, o, ((Lit.wf_int_iff _ _).1 wg).1, R_list (us := [v0, .int .u64 g, .int .i64 o]) rfl fun p hp => ?_⟩
  simp only [List.zip_cons_cons, List.zip_nil_right, List.mem_cons, List.not_mem_nil, or_false] at hp
  rcases hp with rfl | rfl | rfl
  · exact ⟨hR, ho⟩
  · exact ⟨.int _ _ _, rfl⟩
  · exact ⟨.int _ _ _, rfl⟩
set_option maxRecDepth 100000 in
theorem R_out {v : Value} {d : DataW H} {p : List MemPlace} {r : Reach} {b0 : Nat} (hv : Value.okWide Try.prog w r b0 48 v) (h : DataW.Trod enc Try.prog w base spare held 48 v d p) :
    ∃ (kind at_ block : Int) (data : List UInt8), (0 ≤ block ∧ block < 4294967296) ∧ (0 ≤ at_ ∧ at_ < 18446744073709551616) ∧ R M0 w (X0 w) 0 (.st [.int .i64 kind, .int .u64 at_, .int .u32 block, .str data]) v := by
  obtain ⟨v0, v1, v2, v3, y0, y1, y2, y3, n, rfl, _, _, h0, h1, h2, h3⟩ := Joins.open_agg4 Try.underlying48 (by kernel_rfl) (by kernel_rfl) hv h
  obtain ⟨k, e0, _, wk⟩ := DataW.trod_int Try.underlying3 h0
  obtain ⟨a, e1, _, wa⟩ := DataW.trod_int Try.underlying43 h1
  obtain ⟨b, e2, _, wb⟩ := DataW.trod_int Try.underlying46 h2
  obtain ⟨s, e3, _, ws⟩ := DataW.trod_string Try.underlying9 h3
  simp only [List.cons.injEq, and_true] at e0 e1 e2 e3
  subst e0; subst e1; subst e2; subst e3
  have ra := (Lit.wf_int_iff _ _).1 wa
  have rb := (Lit.wf_int_iff _ _).1 wb
  have q1 : IntKind.u32.min = 0 ∧ IntKind.u32.max = 4294967295 ∧ IntKind.u64.min = 0 ∧ IntKind.u64.max = 18446744073709551615 := by decide
  refine ⟨k, a, b, s.data.toList, by omega, by omega, R_list (us := [.int .i64 k, .int .u64 a, .int .u32 b, .string s]) rfl fun p hp => ?_⟩
  simp only [List.zip_cons_cons, List.zip_nil_right, List.mem_cons, List.not_mem_nil, or_false] at hp
  rcases hp with rfl | rfl | rfl | rfl
  · exact ⟨.int _ _ _, rfl⟩
  · exact ⟨.int _ _ _, rfl⟩
  · exact ⟨.int _ _ _, rfl⟩
  · exact ⟨R_string s, rfl⟩
set_option maxRecDepth 100000 in
theorem R_ints {v : Value} {d : DataW H} {p : List MemPlace} {r : Reach} {b0 : Nat} (hv : Value.okWide Try.prog w r b0 33 v) (h : DataW.Trod enc Try.prog w base spare held 33 v d p) :
    ∃ l : List Int, R M0 w (X0 w) 0 (.sl 1 false (ints .i64 l)) v ∧ ∀ n ∈ l, -9223372036854775808 ≤ n ∧ n < 9223372036854775808 := by
  obtain ⟨a, len, cap, rfl⟩ := okWide_slice Try.underlying33 hv
  obtain ⟨m, hm⟩ := h
  obtain ⟨l, hR, hl, _⟩ := ints1 Try.underlying33 Try.underlying3 (by kernel_rfl) (v := .slice a len cap) hm
  have q : IntKind.i64.min = -9223372036854775808 ∧ IntKind.i64.max = 9223372036854775807 := by decide
  exact ⟨l, hR, fun n hn => by have := hl n hn; omega⟩
end Go.Proofs.Ytnjpakhnaegdgaa
