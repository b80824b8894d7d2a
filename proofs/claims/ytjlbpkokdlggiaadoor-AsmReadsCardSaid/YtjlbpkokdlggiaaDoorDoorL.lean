/- What the rows' condition on the package's variables gives the walks; a start that meets it. -/
import Derived.Test.YtjlbpkokdlggiaaDoorGlo
import Derived.Test.YtjlbpkokdlggiaaDoorTy
import Derived.ProofKit
import Derived.LaidMore
import Derived.Stop.Joined
import Derived.OpenShut
import Derived.Lay
namespace Go.Proofs.YtjlbpkokdlggiaaDoor
open Go.Ab Go.ChangeShapes Go.WideShapes Go.ChangeAt Go.RowKit
def strData {H : Type} (l : List (List UInt8)) : DataW H := .agg (l.map fun s => .lit (.string s))
theorem cells_of_strs {H : Type} {enc : TypeId × Value → H} {P : Program} {w : World} {base : Nat} {sp : Nat → Bool} {held : Bool} {fuel : Nat} {t e : TypeId} {n : Nat} {cs : List Value} {l : List (List UInt8)} {p : List MemPlace}
    (ht : P.underlying t = some (.array n e)) (he : P.underlying e = some .string) (hce : P.cellsOf e = 1) (hct : P.cellsOf t = n)
    (h : DataW.trod enc P w base sp held fuel t cs = some (strData l, p)) : cs = strVals l := by
  cases fuel with
  | zero => simp [DataW.trod] at h
  | succ fuel =>
    simp only [DataW.trod, ht, hce, hct, Nat.mul_one] at h
    split at h
    · rename_i hl
      obtain ⟨xs, hm, hx⟩ := Option.map_eq_some_iff.1 h
      have hxs : xs.map (·.1) = l.map fun s => (DataW.lit (.string s) : DataW H) := by
        have := congrArg Prod.fst hx
        simpa [strData] using this
      have hxl : xs.length = n := by simpa using Lib.mapM_length hm
      have hzl : l.length = n := by
        have := congrArg List.length hxs
        simp at this
        omega
      apply List.ext_getElem?
      intro i
      by_cases hi : i < n
      · obtain ⟨b, hb, hf⟩ := Lib.mapM_at hm i i (by simp [hi])
        obtain ⟨s, hc, rfl, _⟩ := DataW.trod_string he hf
        have h1 : cs[i]? = some (.string s) := by
          have := congrArg (·[0]?) hc
          simpa [List.getElem?_take, List.getElem?_drop] using this
        have h2 : (xs.map (·.1))[i]? = some (DataW.lit (.string s.data.toList) : DataW H) := by simp [hb]
        rw [hxs] at h2
        simp only [List.getElem?_map, Option.map_eq_some_iff, DataW.lit.injEq, Lit.string.injEq] at h2
        obtain ⟨z, hz, hzz⟩ := h2
        have : s = ⟨z.toArray⟩ := by cases s; simp at hzz; simp [hzz]
        simp [h1, strVals, hz, this]
      · rw [List.getElem?_eq_none (by omega), List.getElem?_eq_none (by simp [strVals]; omega)]
    · cases h
theorem tMn : (Tryd.prog.globals[0]?).map (·.type) = some 73 := by kernel_rfl
theorem tBru : (Tryd.prog.globals[4]?).map (·.type) = some 197 := by kernel_rfl
theorem tPow : (Tryd.prog.globals[1]?).map (·.type) = some 175 := by kernel_rfl
set_option maxRecDepth 100000 in
theorem of_laid {W : World} (h : laidMetH Tryd.prog Rows.asmJoinsRow.laid W) : GIn W (X0 W) := by
  rw [MakeChecks.laidMetH_plain _ _ _ (by kernel_rfl)] at h
  obtain ⟨ps, ⟨g0, t0, cs0, f0, p0, q0, hg0, ht0, hv0, hd0, ⟨g1, t1, cs1, f1, p1, q1, hg1, ht1, hv1, hd1, ⟨g2, t2, cs2, f2, p2, q2, hg2, ht2, hv2, hd2, ⟨g3, t3, cs3, f3, p3, q3, hg3, ht3, hv3, hd3, ⟨g4, t4, cs4, f4, p4, q4, hg4, ht4, hv4, hd4, ⟨g5, t5, cs5, f5, p5, q5, hg5, ht5, hv5, hd5, _, _⟩, _⟩, _⟩, _⟩, _⟩, _⟩, _⟩ := h
  have e2 := hg2
  have e3 := hg4
  obtain rfl := Option.some.inj (gPow.symm.trans hg2)
  obtain rfl := Option.some.inj (gMn.symm.trans hg4)
  obtain rfl := Option.some.inj (tPow.symm.trans ht2)
  obtain rfl := Option.some.inj (tMn.symm.trans ht4)
  have c2 := Lib.cells_of_tab (k := .u64) (zs := Lib.pow10Tab) Tryd.underlying175 Tryd.underlying77 (by kernel_rfl) (by kernel_rfl) hd2
  have c3 := cells_of_strs (l := mnemo) Tryd.underlying73 Tryd.underlying9 (by kernel_rfl) (by kernel_rfl) hd4
  obtain rfl := Option.some.inj (gBru.symm.trans hg1)
  obtain rfl := Option.some.inj (tBru.symm.trans ht1)
  have c1 := Lib.cells_of_tab (k := .u8) (zs := bruTab) Tryd.underlying197 Tryd.underlying5 (by kernel_rfl) (by kernel_rfl) hd1
  refine gin_of ?_ ?_ ?_
  · unfold Lib.TabIs
    rw [show W.var? Tryd.prog powName = some cs2 from hv2, ← c2]
  · unfold mnInv
    rw [show W.var? Tryd.prog mnName = some cs4 from hv4, ← c3]
  · unfold bruInv Lib.TabIs
    rw [show W.var? Tryd.prog bruName = some cs1 from hv1, ← c1]
theorem door_met (os : Os) (args : Array Value) : laidMetH Tryd.prog Rows.asmJoinsRow.laid ((World.laidAll Tryd.prog os Rows.asmJoinsRow.laid).forCall (fun _ _ => 0) ⟨#[], args, []⟩).memory := by
  rw [MakeChecks.laidMetH_plain _ _ _ (by kernel_rfl)]; exact laidMet_laidAll _ (by kernel_rfl) (by kernel_rfl)
end Go.Proofs.YtjlbpkokdlggiaaDoor
