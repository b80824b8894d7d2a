/- From contracts to rows: opening what came in. -/
import Derived.Test.YtnjpakhnaegdgaaFn3
import Derived.WalkKit
import Derived.ProofKit
import Derived.OpenShut
import Derived.ShutString
import Derived.ChangeOld
import Derived.Below
import Derived.SliceStrings
import Derived.Lib.SmallJoins
namespace Go.Proofs.Ytnjpakhnaegdgaa
open Go.Ab Go.ChangeShapes Go.WideShapes Go.ChangeAt Go.RowKit
abbrev M0 : Mp := fun _ => undef
abbrev X0 (w : World) : Nat → Prop := fun b => b < w.heap.size
theorem says {P : Program} {f : FuncId} {args : List V} {w : World} {vals : Array Value} (h : Meets P f args (.bool true)) (hs : vals.size = args.length)
    (hr : ∀ (j : Nat) (u : V), args[j]? = some u → R M0 w (X0 w) 0 u (vals.getD j undef)) :
    Calls P f vals w fun e w' => e = .returned (.bool true) ∧ Below w.heap.size w w' :=
  (h.2 w (X0 w) vals M0 (fun _ h => h) hs hr).mono fun e w' ⟨val, he, hb, hres⟩ => by
    have := (hres (fun j => (vcells val).getD j undef) 0 (fun j _ => by simp)).1
    have := R_bool (b := true) this
    subst this
    exact ⟨he, hb⟩
theorem cell_lt {w : World} {ad : Addr} {v : Value} (h : w.cell? ad = some v) : ad.block < w.heap.size := by
  rcases Nat.lt_or_ge ad.block w.heap.size with h' | h'
  · exact h'
  · unfold World.cell? at h
    simp [Array.getElem?_eq_none h'] at h
theorem add_block (ad : Addr) (j : Nat) : (ad.add j).block = ad.block := by unfold Addr.add; split <;> rfl
theorem strs_flat (l : List (List UInt8)) : (strs l).flatten = l.map .str := by
  induction l with
  | nil => rfl
  | cons a r ih => simp only [strs, List.map_cons, List.flatten_cons] at ih ⊢; rw [ih]; rfl
variable {P : Program} {w : World} {base : Nat} {spare : Nat → Bool} {held : Bool} {H : Type} {enc : TypeId × Value → H}
theorem open_strs {t e : TypeId} {fuel : Nat} {v : Value} {x : DataW H × List MemPlace} (ht : P.underlying t = some (.slice e)) (he : P.underlying e = some .string) (hc : P.cellsOf e = 1)
    (h : DataW.trod enc P w base spare held fuel t [v] = some x) : ∃ (z : Nat) (tt : Bool) (l : List (List UInt8)), (z = 1 ∨ (z = 0 ∧ l = [])) ∧ R M0 w (X0 w) 0 (.sl z tt (strs l)) v ∧ v.oneCell' = true := by
  rcases open_strings ht he hc h with ⟨hv, _⟩ | ⟨a, len, cap, ss, hv, _, hl, hm, hss, _, hcell, _⟩
  · simp only [List.cons.injEq, and_true] at hv
    subst hv
    exact ⟨0, true, [], .inr ⟨rfl, rfl⟩, .sl _ 0 true [] none 0 0 (fun _ => undef) rfl (Nat.le_refl _) (by decide) (fun _ => rfl) (fun _ => ⟨rfl, rfl⟩) (by simp) (fun h => by omega) (by simp), rfl⟩
  · simp only [List.cons.injEq, and_true] at hv
    subst hv
    have hle : len ≤ ss.length := by rw [hss]; split <;> omega
    refine ⟨1, false, (ss.take len).map (·.data.toList), .inl rfl, .sl _ 1 false _ (some a) len cap (fun j => .string (ss.getD j ByteArray.empty)) (by simp [strs]; omega) hl hm (by simp) (by simp) (fun y hy => by simp only [strs, List.mem_map] at hy; obtain ⟨_, _, rfl⟩ := hy; rfl) (fun h0 => ⟨a, rfl, ?_, fun j hj => ⟨hcell j (by omega), rfl⟩⟩) fun j u hu => ?_, rfl⟩
    · have := cell_lt (hcell 0 (by omega))
      rwa [add_block] at this
    · rw [strs_flat] at hu
      simp only [List.map_map, List.getElem?_map, Option.map_eq_some_iff] at hu
      obtain ⟨s, hs, rfl⟩ := hu
      rw [List.getElem?_take] at hs
      split at hs
      · have e : ss.getD j ByteArray.empty = s := by rw [List.getD_eq_getElem?_getD, hs]; rfl
        rw [e]
        have : s = ⟨s.data.toList.toArray⟩ := by cases s; simp
        conv => rhs; rw [this]
        exact .str _ _
      · simp at hs
theorem R_string (s : ByteArray) : R M0 w (X0 w) 0 (.str s.data.toList) (.string s) := by
  have : s = ⟨s.data.toList.toArray⟩ := by cases s; simp
  conv => rhs; rw [this]
  exact .str _ _
set_option maxRecDepth 100000 in
theorem R_link {v : Value} {d : DataW H} {p : List MemPlace} {r : Reach} {b0 : Nat} (hv : Value.okWide Try.prog w r b0 24 v) (h : DataW.Trod enc Try.prog w base spare held 24 v d p) :
    ∃ (z : Nat) (t : Bool) (l : List (List UInt8)) (c : Bool), (z = 1 ∨ (z = 0 ∧ l = [])) ∧ R M0 w (X0 w) 0 (.st [.sl z t (strs l), .bool c]) v := by
  obtain ⟨v0, v1, y0, y1, n, rfl, _, _, h0, h1⟩ := Joins.open_agg2 Try.underlying24 (by kernel_rfl) (by kernel_rfl) hv h
  obtain ⟨z, t, l, hz, hR, ho⟩ := open_strs Try.underlying22 Try.underlying9 (by kernel_rfl) h0
  obtain ⟨c, hc, _⟩ := DataW.trod_bool Try.underlying4 h1
  simp only [List.cons.injEq, and_true] at hc
  subst hc
  refine ⟨z, t, l, c, hz, .st _ _ _ rfl (by simp only [List.mem_toArray, List.mem_cons, List.not_mem_nil, or_false]; rintro u (rfl | rfl); exact ho; rfl) fun j u hu => ?_⟩
  match j, hu with
  | 0, hu => simp at hu; subst hu; exact hR
  | 1, hu => simp at hu; subst hu; exact .bool _ _
end Go.Proofs.Ytnjpakhnaegdgaa
