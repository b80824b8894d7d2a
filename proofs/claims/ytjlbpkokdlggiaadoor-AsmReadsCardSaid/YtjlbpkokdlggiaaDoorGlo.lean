/- The package variables that the Asm laws read: the operations' names, the table behind TrailingZeros64, and the powers of ten (by their contract's own fact). -/
import Derived.Test.YtjlbpkokdlggiaaDoorAu
import Derived.Test.YtjlbpkokdlggiaaDoorShelf
import Derived.Test.YtjlbpkokdlggiaaDoorRows
import Derived.Lib.LaidTab
import Derived.Lib.SmallJoins
import Derived.LaidMore
import Derived.Stop.Joined
namespace Go.Proofs.YtjlbpkokdlggiaaDoor
open Go.Ab Go.ChangeShapes Go.WideShapes Go.ChangeAt Go.RowKit
def mnemo : List (List UInt8) := [[], [97, 100, 100], [115, 117, 98], [97, 110, 100], [111, 114], [120, 111, 114], [115, 104, 108], [115, 104, 114], [115, 97, 114], [109, 117, 108], [100, 105, 118], [114, 101, 109], [115, 108, 116], [115, 108, 116, 117], [], [], [97, 100, 100, 105], [97, 110, 100, 105], [111, 114, 105], [120, 111, 114, 105], [115, 104, 108, 105], [115, 104, 114, 105], [115, 97, 114, 105], [115, 108, 116, 105], [108, 117, 105], [], [], [], [], [], [], [], [108, 119], [108, 98], [108, 98, 117], [115, 119], [115, 98], [], [], [], [98, 101, 113], [98, 110, 101], [98, 108, 116], [98, 103, 101], [98, 108, 116, 117], [98, 103, 101, 117], [], [], [106, 97, 108], [106, 97, 108, 114], [], [], [], [], [], [], [101, 99, 97, 108, 108], [101, 114, 101, 116], [99, 115, 114, 114], [99, 115, 114, 119], [105, 110], [111, 117, 116], [119, 102, 105], [102, 108, 117, 115, 104], [104, 97, 108, 116]]
def mnName : String := Rows.asmJoinsRow.named.getD 0 default
def powName : String := Rows.asmJoinsRow.named.getD 1 default
def strVals (l : List (List UInt8)) : List Value := l.map fun s => .string ⟨s.toArray⟩
theorem gMn : Tryd.prog.globalNamed mnName = some 0 := by kernel_rfl
theorem gPow : Tryd.prog.globalNamed powName = some 1 := by kernel_rfl
def bruTab : List Int := [0, 1, 56, 2, 57, 49, 28, 3, 61, 58, 42, 50, 38, 29, 17, 4, 62, 47, 59, 36, 45, 43, 51, 22, 53, 39, 33, 30, 24, 18, 12, 5, 63, 55, 48, 27, 60, 41, 37, 16, 46, 35, 44, 21, 52, 32, 23, 11, 54, 26, 40, 15, 34, 20, 31, 10, 25, 14, 19, 9, 13, 8, 7, 6]
def bruName : String := Rows.asmJoinsRow.named.getD 3 default
theorem gBru : Tryd.prog.globalNamed bruName = some 4 := by kernel_rfl
def mnInv (w : World) : Prop := w.var? Tryd.prog mnName = some (strVals mnemo).toArray
def bruInv (w : World) : Prop := Lib.TabIs Tryd.prog w bruName .u8 bruTab
instance gloD : Glo where
  tab := [(0, mnemo.map .str), (4, bruTab.map (.int .u8))]
  inv w := Lib.TabIs Tryd.prog w powName .u64 Lib.pow10Tab ∧ mnInv w ∧ bruInv w
  mono h hb := ⟨Joins.tab_stays gPow h.1 hb (Nat.le_refl _), Joins.var_stays gMn h.2.1 hb (Nat.le_refl _), Joins.tab_stays gBru h.2.2 hb (Nat.le_refl _)⟩
theorem glo_0 : glo 0 = .iptr (mnemo.map .str) := rfl
theorem glo_4 : glo 4 = .iptr (bruTab.map (.int .u8)) := rfl
theorem gin_var {w : World} {n : String} {g : Nat} {vals : List Value} {cs : List V} (hg : Tryd.prog.globalNamed n = some g) (h : w.var? Tryd.prog n = some vals.toArray) (h0 : vals ≠ []) (hl : cs.length = vals.length) (h1 : ∀ u ∈ vals, u.oneCell' = true)
    (hr : ∀ (j : Nat) (u : V), cs[j]? = some u → ∀ (M : Mp) (X : Nat → Prop), R M w X 0 u (vals.getD j undef)) (M : Mp) (k : Nat) : R M w (X0 w) k (.iptr cs) (.pointer (some ⟨g, 0, none⟩)) := by
  have hcell : ∀ j, w.cell? ⟨g, j, none⟩ = vals[j]? := fun j => by
    have := World.var?_cell hg h j
    simpa using this
  have hadd : ∀ j, (⟨g, 0, none⟩ : Addr).add j = ⟨g, j, none⟩ := fun j => by unfold Addr.add; split <;> simp_all
  have hp : 0 < vals.length := List.length_pos_iff.2 h0
  refine .iptr _ _ _ (fun j => vals.getD j undef) ?_ (fun j hj => ?_) (fun j u hu => hr j u hu M _)
  · exact cell_lt ((hcell 0).trans (List.getElem?_eq_getElem hp))
  · have hj' : j < vals.length := by omega
    rw [hadd, hcell, List.getElem?_eq_getElem hj', List.getD_eq_getElem?_getD, List.getElem?_eq_getElem hj']
    exact ⟨rfl, h1 _ (List.getElem_mem hj')⟩
theorem gin_of {w : World} (h1 : Lib.TabIs Tryd.prog w powName .u64 Lib.pow10Tab) (h2 : mnInv w) (h3 : bruInv w) : GIn w (X0 w) := by
  refine ⟨⟨h1, h2, h3⟩, fun g cs hg M n => ?_⟩
  simp only [Glo.tab, lookG] at hg
  split at hg
  · rename_i e; subst e
    simp only [Option.some.injEq] at hg
    subst hg
    refine gin_var gMn h2 (by simp [strVals, mnemo]) (by simp [strVals]) (fun u hu => ?_) (fun j u hu M X => ?_) M n
    · obtain ⟨s, _, rfl⟩ := List.mem_map.1 hu
      rfl
    · simp only [List.getElem?_map, Option.map_eq_some_iff] at hu
      obtain ⟨s, hs, rfl⟩ := hu
      rw [List.getD_eq_getElem?_getD]
      simp only [strVals, List.getElem?_map, hs, Option.map_some, Option.getD_some]
      exact .str _ _
  · split at hg
    · rename_i e; subst e
      simp only [Option.some.injEq] at hg
      subst hg
      refine gin_var gBru h3 (by simp [bruTab]) (by simp) (fun u hu => ?_) (fun j u hu M X => ?_) M n
      · obtain ⟨s, _, rfl⟩ := List.mem_map.1 hu
        rfl
      · simp only [List.getElem?_map, Option.map_eq_some_iff] at hu
        obtain ⟨s, hs, rfl⟩ := hu
        rw [List.getD_eq_getElem?_getD]
        simp only [List.getElem?_map, hs, Option.map_some, Option.getD_some]
        exact .int _ _ _
    · cases hg
end Go.Proofs.YtjlbpkokdlggiaaDoor
