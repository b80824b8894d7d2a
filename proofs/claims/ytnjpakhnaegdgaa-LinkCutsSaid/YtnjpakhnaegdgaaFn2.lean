/- Contracts of package link's functions, 2. -/
import Derived.Test.YtnjpakhnaegdgaaFn1
namespace Go.Proofs.Ytnjpakhnaegdgaa
open Go.Ab
set_option linter.unusedSimpArgs false
theorem cut_ok (xs : List (List V)) (z : Nat) (t c : Bool) : Meets Try.prog 17 [.st [.sl z t xs, .bool c], .bool true] (.st [.sl 0 true [], .bool true]) := by
  refine Meets.of Try.func17 rfl (by kernel_rfl) rfl ?_
  simp only [Try.ntmps17, St.start, argT]
  repeat (first | (refine awp_seqK fun K hK => ?_) | (refine awp_block ?_) | (refine awp_region (by kernel_rfl) ?_; simp) | (with_reducible apply_assumption) | (refine awp_skip ?_; simp) | (refine awp_exit ?_; simp))
  refine awp_cond rfl (fun _ => ?_) (fun h => by simp at h)
  repeat (first | (refine awp_seqK fun K hK => ?_) | (refine awp_block ?_) | (refine awp_region (by kernel_rfl) ?_; simp) | (with_reducible apply_assumption) | (refine awp_skip ?_; simp) | (refine awp_exit ?_; simp))
  refine awp_ret ?_
  simp
theorem uncut_ok (xs : List (List V)) (z : Nat) (t c : Bool) (hz : z = 1 ∨ (z = 0 ∧ xs = [])) (hb : xs.length ≤ 1048576) : Meets Try.prog 17 [.st [.sl z t xs, .bool c], .bool false] (.st [.new 9 1 xs, .bool false]) := by
  refine Meets.of Try.func17 rfl (by kernel_rfl) rfl ?_
  simp only [Try.ntmps17, St.start, argT]
  repeat (first | (refine awp_seqK fun K hK => ?_) | (refine awp_block ?_) | (refine awp_region (by kernel_rfl) ?_; simp) | (with_reducible apply_assumption) | (refine awp_skip ?_; simp) | (refine awp_exit ?_; simp))
  refine awp_cond rfl (fun h => by simp at h) (fun _ => ?_)
  repeat (first | (refine awp_seqK fun K hK => ?_) | (refine awp_block ?_) | (refine awp_region (by kernel_rfl) ?_; simp) | (with_reducible apply_assumption) | (refine awp_skip ?_; simp) | (refine awp_exit ?_; simp))
  refine ⟨0, _, clone_ok xs t z hz hb, ?_⟩
  simp [aftC]
  repeat (first | (refine awp_seqK fun K hK => ?_) | (refine awp_block ?_) | (refine awp_region (by kernel_rfl) ?_; simp) | (with_reducible apply_assumption) | (refine awp_skip ?_; simp) | (refine awp_exit ?_; simp))
  refine awp_ret ?_
  simp
theorem send_no (xs : List (List V)) (z : Nat) (t c : Bool) (s : List UInt8) (hz : z = 1 ∨ (z = 0 ∧ xs = [])) (hb : xs.length ≤ 1048576) (h : c = true ∨ 24 ≤ xs.length) :
    Meets Try.prog 18 [.st [.sl z t xs, .bool c], .str s] (.tup [.st [.new 9 1 xs, .bool c], .bool false]) := by
  refine Meets.of Try.func18 rfl (by kernel_rfl) rfl ?_
  simp only [Try.ntmps18, St.start, argT]
  repeat (first | (refine awp_seqK fun K hK => ?_) | (refine awp_block ?_) | (refine awp_region (by kernel_rfl) ?_; simp) | (with_reducible apply_assumption) | (refine awp_skip ?_; simp) | (refine awp_exit ?_; simp))
  refine awp_cond rfl (fun _ => ?_) (fun h' => by simp at h'; rcases h with h | h <;> simp_all; omega)
  repeat (first | (refine awp_seqK fun K hK => ?_) | (refine awp_block ?_) | (refine awp_region (by kernel_rfl) ?_; simp) | (with_reducible apply_assumption) | (refine awp_skip ?_; simp) | (refine awp_exit ?_; simp))
  refine ⟨0, _, lclone_ok xs t c z hz hb, ?_⟩
  simp [aftC]
  repeat (first | (refine awp_seqK fun K hK => ?_) | (refine awp_block ?_) | (refine awp_region (by kernel_rfl) ?_; simp) | (with_reducible apply_assumption) | (refine awp_skip ?_; simp) | (refine awp_exit ?_; simp))
  refine awp_ret ?_
  simp
theorem send_yes (xs : List (List V)) (z : Nat) (t : Bool) (s : List UInt8) (hz : z = 1 ∨ (z = 0 ∧ xs = [])) (h : xs.length < 24) :
    Meets Try.prog 18 [.st [.sl z t xs, .bool false], .str s] (.tup [.st [.new 9 1 (xs ++ [[.str s]]), .bool false], .bool true]) := by
  refine Meets.of Try.func18 rfl (by kernel_rfl) rfl ?_
  simp only [Try.ntmps18, St.start, argT]
  repeat (first | (refine awp_seqK fun K hK => ?_) | (refine awp_block ?_) | (refine awp_region (by kernel_rfl) ?_; simp) | (with_reducible apply_assumption) | (refine awp_skip ?_; simp) | (refine awp_exit ?_; simp))
  refine awp_cond rfl (fun h' => by simp at h'; omega) (fun _ => ?_)
  repeat (first | (refine awp_seqK fun K hK => ?_) | (refine awp_block ?_) | (refine awp_region (by kernel_rfl) ?_; simp) | (with_reducible apply_assumption) | (refine awp_skip ?_; simp) | (refine awp_exit ?_; simp))
  refine ⟨0, _, added_ok xs t z s hz (by omega), ?_⟩
  simp [aftC]
  repeat (first | (refine awp_seqK fun K hK => ?_) | (refine awp_block ?_) | (refine awp_region (by kernel_rfl) ?_; simp) | (with_reducible apply_assumption) | (refine awp_skip ?_; simp) | (refine awp_exit ?_; simp))
  refine awp_ret ?_
  simp
theorem wrap_i64_in {n : Int} (h1 : -9223372036854775808 ≤ n) (h2 : n ≤ 9223372036854775807) : IntKind.i64.wrap n = n := by rw [IntKind.wrap_i64]; omega
theorem lose_last (xs : List (List V)) (t c : Bool) (at_ : Int) (hb : xs.length ≤ 1048576) (h0 : 0 ≤ at_) (h : at_ = xs.length - 1) :
    Meets Try.prog 23 [.st [.sl 1 t xs, .bool c], .int .i64 at_] (.tup [.st [.new 9 1 (xs.take at_.toNat), .bool c], .bool true]) := by
  refine Meets.of Try.func23 rfl (by kernel_rfl) rfl ?_
  simp only [Try.ntmps23, St.start, argT]
  repeat (first | (refine awp_seqK fun K hK => ?_) | (refine awp_block ?_) | (refine awp_region (by kernel_rfl) ?_; simp) | (with_reducible apply_assumption) | (refine awp_skip ?_; simp) | (refine awp_exit ?_; simp))
  refine ⟨0, _, has_ok xs 1 t c at_, ?_⟩
  simp [aftC]
  repeat (first | (refine awp_seqK fun K hK => ?_) | (refine awp_block ?_) | (refine awp_region (by kernel_rfl) ?_; simp) | (with_reducible apply_assumption) | (refine awp_skip ?_; simp) | (refine awp_exit ?_; simp))
  refine awp_cond rfl (fun h' => by simp at h'; omega) (fun _ => ?_)
  repeat (first | (refine awp_seqK fun K hK => ?_) | (refine awp_block ?_) | (refine awp_region (by kernel_rfl) ?_; simp) | (with_reducible apply_assumption) | (refine awp_skip ?_; simp) | (refine awp_exit ?_; simp))
  refine awp_cond rfl (fun _ => ?_) (fun h' => by rw [wrap_i64_in (by omega) (by omega)] at h'; simp at h'; omega)
  refine awp_seqK fun K hK => ?_
  refine awp_draw 7 [[], [0], [], [0, 1, 2], [0, 1, 2, 3], [], [5], [0, 1, 2, 3, 4, 5, 6], [0, 1, 2, 3, 4, 5, 6, 7], [0, 1, 2, 3, 4, 5, 6, 7, 8]] (by kernel_rfl) ?_
  simp
  refine ⟨⟨by omega, by omega⟩, ?_⟩
  refine ⟨0, _, clone_ok (xs.take at_.toNat) _ 1 (.inl rfl) (by simp; omega), ?_⟩
  simp [aftE]
  repeat (first | (refine awp_seqK fun K hK => ?_) | (refine awp_block ?_) | (refine awp_region (by kernel_rfl) ?_; simp) | (with_reducible apply_assumption) | (refine awp_skip ?_; simp) | (refine awp_exit ?_; simp))
  refine awp_ret ?_
  simp
theorem deliver_no (xs : List (List V)) (z : Nat) (t : Bool) (at_ : Int) (hz : z = 1 ∨ (z = 0 ∧ xs = [])) (hb : xs.length ≤ 1048576) :
    Meets Try.prog 19 [.st [.sl z t xs, .bool true], .int .i64 at_] (.tup [.st [.new 9 1 xs, .bool true], .str [], .bool false]) := by
  refine Meets.of Try.func19 rfl (by kernel_rfl) rfl ?_
  simp only [Try.ntmps19, St.start, argT]
  repeat (first | (refine awp_seqK fun K hK => ?_) | (refine awp_block ?_) | (refine awp_region (by kernel_rfl) ?_; simp) | (with_reducible apply_assumption) | (refine awp_skip ?_; simp) | (refine awp_exit ?_; simp))
  refine awp_cond rfl (fun _ => ?_) (fun h => by simp at h)
  repeat (first | (refine awp_seqK fun K hK => ?_) | (refine awp_block ?_) | (refine awp_region (by kernel_rfl) ?_; simp) | (with_reducible apply_assumption) | (refine awp_skip ?_; simp) | (refine awp_exit ?_; simp))
  refine ⟨0, _, lclone_ok xs t true z hz hb, ?_⟩
  simp [aftC]
  repeat (first | (refine awp_seqK fun K hK => ?_) | (refine awp_block ?_) | (refine awp_region (by kernel_rfl) ?_; simp) | (with_reducible apply_assumption) | (refine awp_skip ?_; simp) | (refine awp_exit ?_; simp))
  refine awp_ret ?_
  simp
theorem deliver_last (xs : List (List V)) (t : Bool) (at_ : Int) (x : List UInt8) (hb : xs.length ≤ 1048576) (h0 : 0 ≤ at_) (h : at_ = xs.length - 1) (hx : xs.getD at_.toNat [] = [.str x]) :
    Meets Try.prog 19 [.st [.sl 1 t xs, .bool false], .int .i64 at_] (.tup [.st [.new 9 1 (xs.take at_.toNat), .bool false], .str x, .bool true]) := by
  refine Meets.of Try.func19 rfl (by kernel_rfl) rfl ?_
  simp only [Try.ntmps19, St.start, argT]
  repeat (first | (refine awp_seqK fun K hK => ?_) | (refine awp_block ?_) | (refine awp_region (by kernel_rfl) ?_; simp) | (with_reducible apply_assumption) | (refine awp_skip ?_; simp) | (refine awp_exit ?_; simp))
  refine ⟨0, _, has_ok xs 1 t false at_, ?_⟩
  simp [aftC]
  repeat (first | (refine awp_seqK fun K hK => ?_) | (refine awp_block ?_) | (refine awp_region (by kernel_rfl) ?_; simp) | (with_reducible apply_assumption) | (refine awp_skip ?_; simp) | (refine awp_exit ?_; simp))
  refine awp_cond rfl (fun h' => by simp at h'; omega) (fun _ => ?_)
  repeat (first | (refine awp_seqK fun K hK => ?_) | (refine awp_block ?_) | (refine awp_region (by kernel_rfl) ?_; simp) | (with_reducible apply_assumption) | (refine awp_skip ?_; simp) | (refine awp_exit ?_; simp))
  rw [List.getD_eq_getElem?_getD] at hx
  simp [hx]
  refine ⟨⟨by omega, by omega⟩, ?_⟩
  repeat (first | (refine awp_seqK fun K hK => ?_) | (refine awp_block ?_) | (refine awp_region (by kernel_rfl) ?_; simp) | (with_reducible apply_assumption) | (refine awp_skip ?_; simp) | (refine awp_exit ?_; simp))
  refine ⟨0, _, lose_last xs t false at_ hb h0 h, ?_⟩
  simp [aftC]
  repeat (first | (refine awp_seqK fun K hK => ?_) | (refine awp_block ?_) | (refine awp_region (by kernel_rfl) ?_; simp) | (with_reducible apply_assumption) | (refine awp_skip ?_; simp) | (refine awp_exit ?_; simp))
  refine awp_ret ?_
  simp
end Go.Proofs.Ytnjpakhnaegdgaa
