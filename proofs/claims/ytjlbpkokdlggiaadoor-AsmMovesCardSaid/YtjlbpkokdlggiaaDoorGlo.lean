/- The package variables that the seat's statements read: the operations' names, and the powers of ten (by their contract's own fact). -/
import Derived.Test.YtjlbpkokdlggiaaDoorGen
import Derived.Test.YtjlbpkokdlggiaaDoorShelf
import Derived.Test.YtjlbpkokdlggiaaDoorRows
import Derived.Lib.LaidTab
import Derived.Lib.SmallJoins
import Derived.LaidMore
import Derived.Stop.Joined
namespace Go.Proofs.YtjlbpkokdlggiaaDoor
open Go.Ab Go.ChangeShapes Go.WideShapes Go.ChangeAt Go.RowKit
def mnemo : List (List UInt8) := [[], [97, 100, 100], [115, 117, 98], [97, 110, 100], [111, 114], [120, 111, 114], [115, 104, 108], [115, 104, 114], [115, 97, 114], [109, 117, 108], [100, 105, 118], [114, 101, 109], [115, 108, 116], [115, 108, 116, 117], [], [], [97, 100, 100, 105], [97, 110, 100, 105], [111, 114, 105], [120, 111, 114, 105], [115, 104, 108, 105], [115, 104, 114, 105], [115, 97, 114, 105], [115, 108, 116, 105], [108, 117, 105], [], [], [], [], [], [], [], [108, 119], [108, 98], [108, 98, 117], [115, 119], [115, 98], [], [], [], [98, 101, 113], [98, 110, 101], [98, 108, 116], [98, 103, 101], [98, 108, 116, 117], [98, 103, 101, 117], [], [], [106, 97, 108], [106, 97, 108, 114], [], [], [], [], [], [], [101, 99, 97, 108, 108], [101, 114, 101, 116], [99, 115, 114, 114], [99, 115, 114, 119], [105, 110], [111, 117, 116], [119, 102, 105], [102, 108, 117, 115, 104], [104, 97, 108, 116]]
def mnName : String := Rows.isaDecodesRow.named.getD 0 default
def powName : String := Rows.isaDecodesRow.named.getD 1 default
def strVals (l : List (List UInt8)) : List Value := l.map fun s => .string ⟨s.toArray⟩
theorem gMn : Tryd.prog.globalNamed mnName = some 0 := by kernel_rfl
theorem gPow : Tryd.prog.globalNamed powName = some 1 := by kernel_rfl
def mnInv (w : World) : Prop := w.var? Tryd.prog mnName = some (strVals mnemo).toArray
instance gloD : Glo where
  tab := [(0, mnemo.map .str)]
  inv w := Lib.TabIs Tryd.prog w powName .u64 Lib.pow10Tab ∧ mnInv w
  mono h hb := ⟨Joins.tab_stays gPow h.1 hb (Nat.le_refl _), Joins.var_stays gMn h.2 hb (Nat.le_refl _)⟩
theorem glo_0 : glo 0 = .iptr (mnemo.map .str) := rfl
theorem gin_of {w : World} (h1 : Lib.TabIs Tryd.prog w powName .u64 Lib.pow10Tab) (h2 : mnInv w) : GIn w (X0 w) := by
  refine ⟨⟨h1, h2⟩, fun g cs hg M n => ?_⟩
  simp only [Glo.tab, lookG] at hg
  split at hg
  · rename_i e; subst e
    simp only [Option.some.injEq] at hg
    subst hg
    have hcell : ∀ j, w.cell? ⟨0, j, none⟩ = (strVals mnemo)[j]? := fun j => by
      have := World.var?_cell gMn h2 j
      simpa using this
    have hadd : ∀ j, (⟨0, 0, none⟩ : Addr).add j = ⟨0, j, none⟩ := fun j => by unfold Addr.add; split <;> simp_all
    refine .iptr _ _ _ (fun j => (strVals mnemo).getD j undef) ?_ (fun j hj => ?_) (fun j u hu => ?_)
    · exact cell_lt ((hcell 0).trans rfl)
    · have hj' : j < (strVals mnemo).length := by simpa [strVals] using hj
      rw [hadd, hcell, List.getElem?_eq_getElem hj', List.getD_eq_getElem?_getD, List.getElem?_eq_getElem hj']
      refine ⟨rfl, ?_⟩
      simp [strVals, Value.oneCell']
    · simp only [List.getElem?_map, Option.map_eq_some_iff] at hu
      obtain ⟨s, hs, rfl⟩ := hu
      rw [List.getD_eq_getElem?_getD]
      simp only [strVals, List.getElem?_map, hs, Option.map_some, Option.getD_some]
      exact .str _ _
  · cases hg
end Go.Proofs.YtjlbpkokdlggiaaDoor
