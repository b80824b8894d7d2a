/- From contracts to rows: lists of numbers. (Numbers of seat r2.D.) -/
import Derived.Test.YtjlbpkokdlggiaaDoorTy
namespace Go.Proofs.YtjlbpkokdlggiaaDoor
open Go.Ab Go.ChangeShapes Go.WideShapes Go.ChangeAt Go.RowKit
variable {w : World} {base : Nat} {spare : Nat → Bool} {held : Bool} {H : Type} {enc : TypeId × Value → H} {v : Value} {d : DataW H} {p : List MemPlace} {r : Reach} {b0 : Nat}
set_option maxRecDepth 100000
theorem ints_of (k : IntKind) : ∀ xs : List (List V), (∀ x ∈ xs, ∃ n, (k.min ≤ n ∧ n ≤ k.max) ∧ x = [V.int k n]) → ∃ l, xs = ints k l ∧ ∀ n ∈ l, k.min ≤ n ∧ n ≤ k.max
  | [], _ => ⟨[], rfl, by simp⟩
  | x :: xs, h => by
    obtain ⟨l, rfl, hl⟩ := ints_of k xs fun y hy => h y (List.mem_cons_of_mem _ hy)
    obtain ⟨n, hn, rfl⟩ := h x (List.mem_cons_self ..)
    exact ⟨n :: l, by simp [ints], fun m hm => by
      rcases List.mem_cons.1 hm with rfl | hm
      · exact hn
      · exact hl m hm⟩
theorem R_ints (hv : Value.okWide Tryd.prog w r b0 55 v) (h : DataW.Trod enc Tryd.prog w base spare held 55 v d p) : ∃ l : List Int, R M0 w (X0 w) 0 (.sl 1 false (ints .i64 l)) v ∧ ∀ n ∈ l, -9223372036854775808 ≤ n ∧ n ≤ 9223372036854775807 := by
  obtain ⟨xs, h1, h2⟩ := R_slice 1 (by kernel_rfl) Tryd.underlying55 hv h
  simp only [isV, Tryd.underlying3] at h1
  obtain ⟨l, rfl, hl⟩ := ints_of .i64 xs h1
  have q : IntKind.i64.min = -9223372036854775808 ∧ IntKind.i64.max = 9223372036854775807 := by decide
  rw [show Tryd.prog.cellsOf 3 = 1 by kernel_rfl] at h2
  exact ⟨l, h2, fun n hn => by have := hl n hn; omega⟩
theorem R_words (hv : Value.okWide Tryd.prog w r b0 43 v) (h : DataW.Trod enc Tryd.prog w base spare held 43 v d p) : ∃ l : List Int, R M0 w (X0 w) 0 (.sl 1 false (ints .u32 l)) v ∧ ∀ n ∈ l, 0 ≤ n ∧ n ≤ 4294967295 := by
  obtain ⟨xs, h1, h2⟩ := R_slice 1 (by kernel_rfl) Tryd.underlying43 hv h
  simp only [isV, Tryd.underlying22] at h1
  obtain ⟨l, rfl, hl⟩ := ints_of .u32 xs h1
  have q : IntKind.u32.min = 0 ∧ IntKind.u32.max = 4294967295 := by decide
  rw [show Tryd.prog.cellsOf 22 = 1 by kernel_rfl] at h2
  exact ⟨l, h2, fun n hn => by have := hl n hn; omega⟩
end Go.Proofs.YtjlbpkokdlggiaaDoor
