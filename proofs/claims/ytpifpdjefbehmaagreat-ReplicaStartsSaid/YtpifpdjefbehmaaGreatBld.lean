/- strings.Builder: copyCheck and String at a builder of the caller's own; strings.Repeat. (Numbers of seat r2.D.) -/
import Derived.Test.YtpifpdjefbehmaaGreatRj
import Derived.Shelf.Strings.Builder1
namespace Go.Proofs.YtpifpdjefbehmaaGreat
open Go.Ab Go.RowKit
set_option linter.unusedSimpArgs false
set_option maxRecDepth 100000
theorem cells90 : Tryz.prog.cellsOf 354 = 2 := by kernel_rfl
theorem lies90 (count : Nat) (h : 1 ≤ count) : liesAt Tryz.prog Tryz.prog.depth 354 count 0 354 1 = true := by
  have hc := cells90
  have hd : Tryz.prog.depth = (2 * (Tryz.prog.types.size + Made.depth) + 1) + 1 := rfl
  rw [hd]
  simp only [liesAt, Bool.or_eq_true]
  left
  rw [hd]
  simp [rowAt, hc, h, sameLayout]
theorem info90 : ∃ j, Tryz.prog.info? 354 = some j ∧ j.size = 2 := by
  have h : (Tryz.prog.info? 354).map (·.size) = some 2 := by kernel_rfl
  exact Option.map_eq_some_iff.1 h
set_option maxHeartbeats 2000000 in
theorem cc_used (b : Nat) (w : World) (h0 : w.cell? ⟨b, 0, none⟩ = some (.pointer (some ⟨b, 0, none⟩))) :
    Calls Tryz.prog 304 #[.pointer (some ⟨b, 0, none⟩)] w fun e w' => e = .returned (.tuple #[]) ∧ w' = w := by
  obtain ⟨j, hj, _⟩ := info90
  go_enter Tryz.func304, Tryz.ntmps304
  go_wp2
  rw [Lib.run_neq_ptr_same w _ Tryz.underlying352 hj]
  go_wp2
  go_end0
  exact ⟨rfl, rfl⟩
set_option maxHeartbeats 2000000 in
theorem cc_fresh (b count : Nat) (w : World) (h0 : w.cell? ⟨b, 0, none⟩ = some (.pointer none)) (hsh : w.shape? b = some (354, count * 2)) (hct : 1 ≤ count) (hfz : w.frozen? ⟨b, 0, none⟩ = false) :
    Calls Tryz.prog 304 #[.pointer (some ⟨b, 0, none⟩)] w fun e w' => e = .returned (.tuple #[]) ∧ w' = w.setCell ⟨b, 0, none⟩ (.pointer (some ⟨b, 0, none⟩)) := by
  obtain ⟨j, hj, hjs⟩ := info90
  have hlies : liesAt Tryz.prog Tryz.prog.depth 354 (count * 2 / Tryz.prog.cellsOf 354) 0 354 1 = true := by
    rw [cells90, Nat.mul_div_cancel _ (by decide)]; exact lies90 count hct
  go_enter Tryz.func304, Tryz.ntmps304
  go_wp2
  rw [Lib.run_to_unsafe w ⟨b, 0, none⟩ Tryz.underlying352 Tryz.underlying412 hj (by rw [hjs]; decide) hsh (show 0 < count * 2 by omega)]
  simp only [Result.andThen]
  rw [Oper.upon_value]
  go_wp2
  rw [run_callFunc_extern Tryz.func325 (by kernel_rfl) (by kernel_rfl) (by kernel_rfl) (e := Extern.AbiNoEscape.same) (by kernel_rfl)]
  rw [Lib.run_noEscape]
  simp only [Result.andThen]
  rw [Oper.upon_value]
  go_wp2
  rw [Lib.run_from_unsafe w ⟨b, 0, none⟩ Tryz.underlying412 Tryz.underlying352 hj hsh hlies]
  simp only [Result.andThen]
  rw [Oper.upon_value]
  go_wp2
  go_end0
  exact ⟨rfl, rfl⟩
set_option maxHeartbeats 2000000 in
theorem str_raw (b : Nat) (A : Option Addr) (n c : Nat) (q : Value) (s : ByteArray) (w w1 w2 : World) (c1 : w.drew.cell? ⟨b, 1, none⟩ = some (.slice A n c)) (hSD : (Builtin.unsafeSliceData_ #[198] 400 #[.slice A n c]).run Tryz.prog w.drew = .ok q w1)
    (c2 : w1.cell? ⟨b, 1, none⟩ = some (.slice A n c)) (hUS : (Builtin.unsafeString_ #[400, 3] 9 #[q, .int .i64 n]).run Tryz.prog w1 = .ok (.string s) w2) :
    Calls Tryz.prog 247 #[.pointer (some ⟨b, 0, none⟩)] w fun e w' => e = .returned (.string s) ∧ w' = w2 := by
  go_enter Tryz.func247, Tryz.ntmps247
  go_wp2
  go_region
  all_goals (go_wp2; go_ret; exact ⟨rfl, rfl⟩)
end Go.Proofs.YtpifpdjefbehmaaGreat
