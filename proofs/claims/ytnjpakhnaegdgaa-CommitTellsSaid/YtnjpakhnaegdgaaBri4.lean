/- From contracts to rows: gates, outputs, outsides, released outputs. -/
import Derived.Test.YtnjpakhnaegdgaaBri3
import Derived.Test.YtnjpakhnaegdgaaFn22
namespace Go.Proofs.Ytnjpakhnaegdgaa
open Go.Ab Go.ChangeShapes Go.WideShapes Go.ChangeAt Go.RowKit
variable {w : World} {base : Nat} {spare : Nat → Bool} {held : Bool} {H : Type} {enc : TypeId × Value → H} {v : Value} {d : DataW H} {p : List MemPlace} {r : Reach} {b0 : Nat}
set_option maxRecDepth 100000
theorem isOut {n : Nat} {x : List V} (h : isV Try.prog (n + 2) 48 x) : ∃ o : OutD, x = o.row := by
  simp only [isV, Try.underlying48, Try.underlying3, Try.underlying43, Try.underlying46, Try.underlying9, isFs] at h
  obtain ⟨_, _, rfl, ⟨k, _, rfl⟩, _, _, rfl, ⟨a, _, rfl⟩, _, _, rfl, ⟨b, _, rfl⟩, _, _, rfl, ⟨s, rfl⟩, rfl⟩ := h
  exact ⟨⟨k, a, b, s⟩, rfl⟩
theorem isOuts {n : Nat} : ∀ {xs : List (List V)}, (∀ x ∈ xs, isV Try.prog (n + 2) 48 x) → ∃ l, xs = outs l
  | [], _ => ⟨[], rfl⟩
  | x :: xs, h => by
    obtain ⟨o, rfl⟩ := isOut (h x (List.mem_cons_self ..))
    obtain ⟨l, rfl⟩ := isOuts (xs := xs) fun y hy => h y (List.mem_cons_of_mem _ hy)
    exact ⟨o :: l, rfl⟩
theorem isStrs {n : Nat} : ∀ {xs : List (List V)}, (∀ x ∈ xs, isV Try.prog (n + 1) 9 x) → ∃ l, xs = strs l
  | [], _ => ⟨[], rfl⟩
  | x :: xs, h => by
    have := h x (List.mem_cons_self ..)
    simp only [isV, Try.underlying9] at this
    obtain ⟨o, rfl⟩ := this
    obtain ⟨l, rfl⟩ := isStrs (xs := xs) fun y hy => h y (List.mem_cons_of_mem _ hy)
    exact ⟨o :: l, rfl⟩
theorem c48 : Try.prog.cellsOf 48 = 4 := by kernel_rfl
theorem c9 : Try.prog.cellsOf 9 = 1 := by kernel_rfl
theorem R_gate (hv : Value.okWide Try.prog w r b0 68 v) (h : DataW.Trod enc Try.prog w base spare held 68 v d p) : ∃ (l : List OutD) (a b : Int), R M0 w (X0 w) 0 (.st [.sl 4 false (outs l), .int .u64 a, .int .u64 b]) v := by
  obtain ⟨vs, h1, h2⟩ := R_struct 5 (by kernel_rfl) Try.underlying68 hv h
  simp only [isV, Try.underlying68, Try.underlying66, Try.underlying43, isFs, c48] at h1
  obtain ⟨_, _, rfl, ⟨xs, rfl, hx⟩, _, _, rfl, ⟨a, _, rfl⟩, _, _, rfl, ⟨b, _, rfl⟩, rfl⟩ := h1
  obtain ⟨l, rfl⟩ := isOuts (n := 1) hx
  exact ⟨l, a, b, h2⟩
theorem R_outs (hv : Value.okWide Try.prog w r b0 66 v) (h : DataW.Trod enc Try.prog w base spare held 66 v d p) : ∃ l : List OutD, R M0 w (X0 w) 0 (.sl 4 false (outs l)) v := by
  obtain ⟨xs, h1, h2⟩ := R_slice 4 (by kernel_rfl) Try.underlying66 hv h
  obtain ⟨l, rfl⟩ := isOuts (n := 2) h1
  rw [c48] at h2
  exact ⟨l, h2⟩
theorem R_outside (hv : Value.okWide Try.prog w r b0 70 v) (h : DataW.Trod enc Try.prog w base spare held 70 v d p) : ∃ (c : List UInt8) (f : List (List UInt8)), R M0 w (X0 w) 0 (.st [.str c, .sl 1 false (strs f)]) v := by
  obtain ⟨vs, h1, h2⟩ := R_struct 4 (by kernel_rfl) Try.underlying70 hv h
  simp only [isV, Try.underlying70, Try.underlying22, Try.underlying9, isFs, c9] at h1
  obtain ⟨_, _, rfl, ⟨c, rfl⟩, _, _, rfl, ⟨xs, rfl, hx⟩, rfl⟩ := h1
  obtain ⟨l, rfl⟩ := isStrs (n := 1) (xs := xs) (fun x hx' => by simp only [isV, Try.underlying9]; exact hx x hx')
  exact ⟨c, l, h2⟩
theorem R_rel (hv : Value.okWide Try.prog w r b0 72 v) (h : DataW.Trod enc Try.prog w base spare held 72 v d p) : ∃ (o : OutD) (i : Int), 0 ≤ i ∧ R M0 w (X0 w) 0 (.st (o.row ++ [.int .u64 i])) v := by
  obtain ⟨vs, h1, h2⟩ := R_struct 4 (by kernel_rfl) Try.underlying72 hv h
  rw [isV] at h1
  simp only [Try.underlying72, isFs] at h1
  obtain ⟨_, _, rfl, ho, _, _, rfl, hi, rfl⟩ := h1
  obtain ⟨o, rfl⟩ := isOut (n := 1) ho
  simp only [isV, Try.underlying43] at hi
  obtain ⟨i, hi, rfl⟩ := hi
  have q : IntKind.u64.min = 0 := by decide
  exact ⟨o, i, by omega, h2⟩
theorem R_u64s (hv : Value.okWide Try.prog w r b0 86 v) (h : DataW.Trod enc Try.prog w base spare held 86 v d p) :
    ∃ l : List Int, R M0 w (X0 w) 0 (.sl 1 false (ints .u64 l)) v ∧ ∀ n ∈ l, 0 ≤ n ∧ n < 18446744073709551616 := by
  obtain ⟨a, len, cap, rfl⟩ := okWide_slice Try.underlying86 hv
  obtain ⟨m, hm⟩ := h
  obtain ⟨l, hR, hl, _⟩ := ints1 Try.underlying86 Try.underlying43 (by kernel_rfl) (v := .slice a len cap) hm
  have q : IntKind.u64.min = 0 ∧ IntKind.u64.max = 18446744073709551615 := by decide
  exact ⟨l, hR, fun n hn => by have := hl n hn; omega⟩
end Go.Proofs.Ytnjpakhnaegdgaa
