/- From contracts to rows: instructions, lists of numbers. -/
import Derived.Test.YtjlbpkokdlggiaaDoorIsa1
namespace Go.Proofs.YtjlbpkokdlggiaaDoor
open Go.Ab Go.ChangeShapes Go.WideShapes Go.ChangeAt Go.RowKit
variable {w : World} {base : Nat} {spare : Nat → Bool} {held : Bool} {H : Type} {enc : TypeId × Value → H} {v : Value} {d : DataW H} {p : List MemPlace} {r : Reach} {b0 : Nat}
set_option maxRecDepth 100000
theorem R_inst (hv : Value.okWide Tryd.prog w r b0 26 v) (h : DataW.Trod enc Tryd.prog w base spare held 26 v d p) : ∃ i : InstD, (-2147483648 ≤ i.imm ∧ i.imm ≤ 2147483647) ∧ R M0 w (X0 w) 0 (.st i.row) v := by
  obtain ⟨vs, h1, h2⟩ := R_struct 3 (by kernel_rfl) Tryd.underlying26 hv h
  simp only [isV, Tryd.underlying26, Tryd.underlying3, Tryd.underlying21, isFs] at h1
  obtain ⟨_, _, rfl, ⟨o, _, rfl⟩, _, _, rfl, ⟨a, _, rfl⟩, _, _, rfl, ⟨b, _, rfl⟩, _, _, rfl, ⟨c, _, rfl⟩, _, _, rfl, ⟨m, hm, rfl⟩, rfl⟩ := h1
  have q : IntKind.i32.min = -2147483648 ∧ IntKind.i32.max = 2147483647 := by decide
  exact ⟨⟨o, a, b, c, m⟩, by simp only; omega, h2⟩
end Go.Proofs.YtjlbpkokdlggiaaDoor
