/- How long a list of numbers is that came in. (Numbers of seat r2.ZD.) -/
import Derived.Test.YtjlbpkokdlggiaaGreatDoorBriD
import Derived.SizedLaws
namespace Go.Proofs.YtjlbpkokdlggiaaGreatDoor
open Go.Ab Go.ChangeShapes Go.WideShapes Go.ChangeAt Go.RowKit
variable {w : World} {base : Nat} {spare : Nat → Bool} {held : Bool} {H : Type} {enc : TypeId × Value → H} {v : Value} {d : DataW H} {p : List MemPlace} {r : Reach} {b0 : Nat}
set_option maxRecDepth 100000
theorem ints_long {l : List Int} (hR : R M0 w (X0 w) 0 (.sl 1 false (ints .i64 l)) v) (h : DataW.Trod enc Tryz.prog w base spare held 22 v d p) : l.length = 0 ∨ ∃ es sp, d = .slice es sp ∧ es.length = l.length := by
  obtain ⟨A, c, f, rfl, _⟩ := R_sl hR
  have hil := ints_len .i64 l
  obtain ⟨fuel, hf⟩ := h
  rcases DataW.trod_slice Tryz.underlying22 hf with ⟨hc, _⟩ | ⟨a, len, cap, el, rest, n, _, hc, hx, _, _, _, hl, _⟩
  · left
    simp [Value.cells] at hc
    omega
  · right
    simp [Value.cells] at hc
    simp only [Prod.mk.injEq] at hx
    exact ⟨_, _, hx.1, by rw [List.length_map, hl]; omega⟩
end Go.Proofs.YtjlbpkokdlggiaaGreatDoor
