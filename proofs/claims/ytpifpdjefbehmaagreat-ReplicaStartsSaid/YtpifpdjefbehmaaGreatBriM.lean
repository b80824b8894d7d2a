/- From contracts to rows: machines. -/
import Derived.Test.YtpifpdjefbehmaaGreatMch
namespace Go.Proofs.YtpifpdjefbehmaaGreat
open Go.Ab Go.ChangeShapes Go.WideShapes Go.ChangeAt Go.RowKit
variable {w : World} {base : Nat} {spare : Nat → Bool} {held : Bool} {H : Type} {enc : TypeId × Value → H} {v : Value} {d : DataW H} {p : List MemPlace} {r : Reach} {b0 : Nat}
set_option maxRecDepth 100000
theorem ints_of (k : IntKind) : ∀ xs : List (List V), (∀ x ∈ xs, ∃ n, (k.min ≤ n ∧ n ≤ k.max) ∧ x = [V.int k n]) → ∃ l, xs = ints k l ∧ ∀ n ∈ l, k.min ≤ n ∧ n ≤ k.max
  | [], _ => ⟨[], rfl, by simp⟩
  | x :: xs, h => by
    obtain ⟨l, rfl, hl⟩ := ints_of k xs fun y hy => h y (List.mem_cons_of_mem _ hy)
    obtain ⟨n, hn, rfl⟩ := h x (List.mem_cons_self ..)
    exact ⟨n :: l, by simp [ints], fun m hm => by
      rcases List.mem_cons.1 hm with rfl | hm
      · exact hn
      · exact hl m hm⟩
theorem arr_of (k : IntKind) (rc : List V → Prop) (hrc : ∀ a, rc a → ∃ n, (k.min ≤ n ∧ n ≤ k.max) ∧ a = [V.int k n]) : ∀ (N : Nat) (vs : List V), isA rc N vs → ∃ f : Nat → Int, vs = (List.range N).map fun i => V.int k (f i)
  | 0, vs, h => ⟨fun _ => 0, by simpa [isA] using h⟩
  | N + 1, vs, h => by
    obtain ⟨a, b, rfl, ha, hb⟩ := h
    obtain ⟨n, _, rfl⟩ := hrc a ha
    obtain ⟨f, rfl⟩ := arr_of k rc hrc N b hb
    exact ⟨fun i => if i = 0 then n else f (i - 1), by simp [List.range_succ_eq_map, Function.comp_def]⟩
theorem isCpu {n : Nat} {x : List V} (h : isV Tryz.prog (n + 3) 26 x) : ∃ c : CpuD, x = c.row := by
  rw [isV] at h
  simp only [Tryz.underlying26, isFs] at h
  obtain ⟨a, _, rfl, h1, b, _, rfl, h2, c, _, rfl, h3, rfl⟩ := h
  rw [isV] at h1 h2 h3
  simp only [Tryz.underlying23, Tryz.underlying22, Tryz.underlying24] at h1 h2 h3
  obtain ⟨f, rfl⟩ := arr_of .u32 _ (fun a ha => by simpa only [isV, Tryz.underlying22] using ha) 16 _ h1
  obtain ⟨q, _, rfl⟩ := h2
  obtain ⟨g, rfl⟩ := arr_of .u32 _ (fun a ha => by simpa only [isV, Tryz.underlying22] using ha) 8 _ h3
  exact ⟨⟨f, q, g⟩, rfl⟩
theorem isMem {n : Nat} {x : List V} (h : isV Tryz.prog (n + 2) 27 x) : ∃ l, x = [memV l] := by
  rw [isV] at h
  simp only [Tryz.underlying27] at h
  obtain ⟨xs, rfl, hx⟩ := h
  simp only [isV, Tryz.underlying22] at hx
  obtain ⟨l, rfl, _⟩ := ints_of .u32 xs hx
  exact ⟨l, by rw [show Tryz.prog.cellsOf 22 = 1 by kernel_rfl]⟩
theorem isCon {n : Nat} {x : List V} (h : isV Tryz.prog (n + 2) 29 x) : ∃ s, x = [.str s] := by
  simp only [isV, Tryz.underlying29, Tryz.underlying9, isFs] at h
  obtain ⟨_, _, rfl, ⟨s, rfl⟩, rfl⟩ := h
  exact ⟨s, rfl⟩
theorem isTim {n : Nat} {x : List V} (h : isV Tryz.prog (n + 2) 31 x) : ∃ t : TimD, x = t.row := by
  simp only [isV, Tryz.underlying31, Tryz.underlying4, Tryz.underlying22, isFs] at h
  obtain ⟨_, _, rfl, ⟨a, rfl⟩, _, _, rfl, ⟨b, _, rfl⟩, _, _, rfl, ⟨c, rfl⟩, rfl⟩ := h
  exact ⟨⟨a, b, c⟩, rfl⟩
theorem isDsk {n : Nat} {x : List V} (h : isV Tryz.prog (n + 2) 33 x) : ∃ t : DskD, x = t.row := by
  simp only [isV, Tryz.underlying33, Tryz.underlying3, Tryz.underlying22, Tryz.underlying9, isFs] at h
  obtain ⟨_, _, rfl, ⟨a, _, rfl⟩, _, _, rfl, ⟨b, _, rfl⟩, _, _, rfl, ⟨c, _, rfl⟩, _, _, rfl, ⟨e, _, rfl⟩, _, _, rfl, ⟨f, _, rfl⟩, _, _, rfl, ⟨g, _, rfl⟩, _, _, rfl, ⟨i, _, rfl⟩, _, _, rfl, ⟨s, rfl⟩, rfl⟩ := h
  exact ⟨⟨a, b, c, e, f, g, i, s⟩, rfl⟩
theorem isNic {n : Nat} {x : List V} (h : isV Tryz.prog (n + 2) 35 x) : ∃ t : NicD, x = t.row := by
  simp only [isV, Tryz.underlying35, Tryz.underlying4, Tryz.underlying22, isFs] at h
  obtain ⟨_, _, rfl, ⟨a, _, rfl⟩, _, _, rfl, ⟨b, _, rfl⟩, _, _, rfl, ⟨c, rfl⟩, _, _, rfl, ⟨e, _, rfl⟩, _, _, rfl, ⟨f, rfl⟩, _, _, rfl, ⟨g, _, rfl⟩, rfl⟩ := h
  exact ⟨⟨a, b, c, e, f, g⟩, rfl⟩
theorem isBal {n : Nat} {x : List V} (h : isV Tryz.prog (n + 2) 37 x) : ∃ a b : Int, (0 ≤ b ∧ b ≤ 4294967295) ∧ x = [uv a, uv b] := by
  have q : IntKind.u32.min = 0 ∧ IntKind.u32.max = 4294967295 := by decide
  simp only [isV, Tryz.underlying37, Tryz.underlying22, isFs] at h
  obtain ⟨_, _, rfl, ⟨a, _, rfl⟩, _, _, rfl, ⟨b, hb, rfl⟩, rfl⟩ := h
  exact ⟨a, b, by omega, rfl⟩
theorem R_mach (hv : Value.okWide Tryz.prog w r b0 40 v) (h : DataW.Trod enc Tryz.prog w base spare held 40 v d p) : ∃ m : MchD, (0 ≤ m.given ∧ m.given ≤ 4294967295) ∧ R M0 w (X0 w) 0 (.st m.row) v := by
  obtain ⟨vs, h1, h2⟩ := R_struct 6 (by kernel_rfl) Tryz.underlying40 hv h
  rw [isV] at h1
  simp only [Tryz.underlying40, isFs] at h1
  obtain ⟨_, _, rfl, g1, _, _, rfl, g2, _, _, rfl, g3, _, _, rfl, g4, _, _, rfl, g5, _, _, rfl, g6, _, _, rfl, g7, _, _, rfl, g8, _, _, rfl, g9, _, _, rfl, g10, rfl⟩ := h1
  obtain ⟨c, rfl⟩ := isCpu (n := 2) g1
  obtain ⟨mem, rfl⟩ := isMem (n := 3) g2
  obtain ⟨s, rfl⟩ := isCon (n := 3) g3
  obtain ⟨t, rfl⟩ := isTim (n := 3) g4
  obtain ⟨dk, rfl⟩ := isDsk (n := 3) g5
  obtain ⟨nc, rfl⟩ := isNic (n := 3) g6
  obtain ⟨a, b, hb, rfl⟩ := isBal (n := 3) g7
  simp only [isV, Tryz.underlying38, Tryz.underlying4] at g8 g9 g10
  obtain ⟨k, _, rfl⟩ := g8
  obtain ⟨x, rfl⟩ := g9
  obtain ⟨y, rfl⟩ := g10
  exact ⟨⟨c, mem, s, t, dk, nc, a, b, k, x, y⟩, hb, by simpa using h2⟩
end Go.Proofs.YtpifpdjefbehmaaGreat
