/- Package asm: the statements' codes. (Numbers of seat r2.D.) -/
import Derived.Test.YtjlbpkokdlggiaaDoorAs3
namespace Go.Proofs.YtjlbpkokdlggiaaDoor
open Go.Ab Go.RowKit
set_option linter.unusedSimpArgs false
set_option maxRecDepth 100000
structure LineD where
  number : Int
  at' : Int
  words : Int
  op : Int
  pat : Str
  sw : Int
  rel : Bool
  code : Nat
  r0 : Int
  r1 : Int
  r2 : Int
  num : Int
  name : Str
  deriving DecidableEq, Inhabited
abbrev LineD.row (l : LineD) : List V := [.int .i64 l.number, .int .u32 l.at', .int .i64 l.words, .int .i64 l.op, .str l.pat, .int .i64 l.sw, .bool l.rel, .fn l.code, .int .i64 l.r0, .int .i64 l.r1, .int .i64 l.r2, .int .i64 l.num, .str l.name]
theorem field16b_ok (w : Int) : Meets Tryd.prog 35 [.int .u32 w, .int .i64 16, .int .i64 16] (.int .u32 (w / 65536 % 65536)) := by
  refine Meets.of Tryd.func35 rfl (by kernel_rfl) rfl ?_
  simp only [Tryd.ntmps35, St.start, argT]
  refine au  ?_
  repeat intro K hK
  refine wr ?_
  refine awp_cond rfl (fun h => by simp at h) (fun _ => ?_)
  refine au  ?_
  repeat intro K hK
  refine wr ?_
  refine ca (mask16_ok)  ?_
  refine au  ?_
  repeat intro K hK
  refine wr ?_
  refine awp_ret ?_
  simp
  rw [Int.fdiv_eq_ediv_of_nonneg _ (by omega)]
  exact and_mask (w / 65536) 16 65536 (by omega) (by decide)
theorem word_ok (l : LineD) (x : Int) : Meets Tryd.prog 74 [.st l.row, .int .i64 x] (.tup [.new 22 1 [[.int .u32 (x % 4294967296)]], .bool true]) := by
  have hw : IntKind.u32.wrap x = x % 4294967296 := IntKind.wrap_u32 x
  refine Meets.of Tryd.func74 rfl (by kernel_rfl) rfl ?_
  simp only [Tryd.ntmps74, St.start, argT]
  refine au  ?_
  repeat intro K hK
  refine wr ?_
  refine awp_ret ?_
  simp [hw]
theorem space_ok (l : LineD) (x : Int) (h0 : 0 ≤ l.words) (h1 : l.words ≤ 1024) : Meets Tryd.prog 75 [.st l.row, .int .i64 x] (.tup [.new 22 1 (List.replicate l.words.toNat [.int .u32 0]), .bool true]) := by
  have hm : l.words ≤ maxLen := by simp only [maxLen]; omega
  refine Meets.of Tryd.func75 rfl (by kernel_rfl) rfl ?_
  simp only [Tryd.ntmps75, St.start, argT]
  refine au  ?_
  repeat intro K hK
  refine wr ?_
  refine awp_ret ?_
  simp
def iI (l : LineD) (x : Int) : InstD := ⟨l.op, l.r0, l.r1, l.r2, x⟩
theorem instC_ok (l : LineD) (x : Int) (hx : -2147483648 ≤ x ∧ x ≤ 2147483647) : Meets Tryd.prog 77 [.st l.row, .int .i64 x] (.tup [.new 22 1 [[.int .u32 (if validD (iI l x) then encW (iI l x) else 0)]], .bool (validD (iI l x))]) := by
  have hw : IntKind.i32.wrap x = x := by rw [IntKind.wrap_i32]; omega
  have hw2 : IntKind.i64.wrap x = x := wrap_i64_in (by omega) (by omega)
  refine Meets.of Tryd.func77 rfl (by kernel_rfl) rfl ?_
  simp only [Tryd.ntmps77, St.start, argT]
  refine au2 @hw @hw2 ?_
  repeat intro K hK
  refine wr ?_
  refine awp_cond rfl (fun h => by simp [hw] at h) (fun _ => ?_)
  refine au1 @hw ?_
  repeat intro K hK
  refine wr ?_
  refine ca (encode_ok (iI l x))  ?_
  refine au  ?_
  repeat intro K hK
  refine wr ?_
  cases hv : validD (iI l x) with
  | true =>
    refine awp_ret ?_
    simp [hv]
  | false =>
    refine awp_ret ?_
    simp [hv]
theorem instX_ok (l : LineD) (x : Int) (h64 : -9223372036854775808 ≤ x ∧ x ≤ 9223372036854775807) (hx : ¬ (-2147483648 ≤ x ∧ x ≤ 2147483647)) : Meets Tryd.prog 77 [.st l.row, .int .i64 x] (.tup [.sl 0 true [], .bool false]) := by
  have hw : ¬ (x = IntKind.i64.wrap (IntKind.i32.wrap x)) := by
    rw [IntKind.wrap_i32, wrap_i64_in (by omega) (by omega)]; omega
  refine Meets.of Tryd.func77 rfl (by kernel_rfl) rfl ?_
  simp only [Tryd.ntmps77, St.start, argT]
  refine au  ?_
  repeat intro K hK
  refine wr ?_
  refine awp_cond rfl (fun _ => ?_) (fun h => by simp [hw] at h)
  refine au  ?_
  repeat intro K hK
  refine wr ?_
  refine awp_ret ?_
  simp
def liW (r x : Int) : List Int := [encW ⟨24, r, 0, 0, x % 4294967296 / 65536 % 65536⟩, encW ⟨18, r, r, 0, x % 4294967296 % 65536⟩]
set_option maxHeartbeats 8000000 in
theorem li_ok (l : LineD) (x : Int) (h0 : 0 ≤ l.r0) (h1 : l.r0 ≤ 15) : Meets Tryd.prog 76 [.st l.row, .int .i64 x] (.tup [.new 22 1 (ints .u32 (liW l.r0 x)), .bool true]) := by
  have hw : IntKind.u32.wrap x = x % 4294967296 := IntKind.wrap_u32 x
  generalize hv : x % 4294967296 = v at hw
  have v0 : 0 ≤ v ∧ v < 4294967296 := by omega
  have w1 : IntKind.i32.wrap (v / 65536 % 65536) = v / 65536 % 65536 := by rw [IntKind.wrap_i32]; omega
  have w2 : IntKind.i32.wrap (v % 65536) = v % 65536 := by rw [IntKind.wrap_i32]; omega
  have v1 : validD ⟨24, l.r0, 0, 0, v / 65536 % 65536⟩ = true := by simp [validD, formD, uA, uB, uC, regB, lowD, highD]; omega
  have v2 : validD ⟨18, l.r0, l.r0, 0, v % 65536⟩ = true := by simp [validD, formD, uA, uB, uC, regB, lowD, highD]; omega
  have e1 := encode_ok ⟨24, l.r0, 0, 0, v / 65536 % 65536⟩
  have e2 := encode_ok ⟨18, l.r0, l.r0, 0, v % 65536⟩
  rw [v1] at e1
  rw [v2] at e2
  refine Meets.of Tryd.func76 rfl (by kernel_rfl) rfl ?_
  simp only [Tryd.ntmps76, St.start, argT]
  refine au  ?_
  repeat intro K hK
  refine wr ?_
  refine awp_planI ([0, 1, 2, 3, 4, 5, 6] : List Nat) ([[], [0], [], [2], [2, 3], [0, 1], [0, 1, 2, 3, 4, 5]] : List (List Nat)) ([(6, ([[], [0], [], [2], [2, 3], [0, 1]], [])), (1, ([], []))] : List (Nat × List (List Nat) × List (Nat × Nat))) (by kernel_rfl) (by kernel_rfl) (by kernel_rfl) ?_
  refine af1 @hw ?_
  repeat intro K hK
  refine wr ?_
  all_goals ((refine ca1 (field16b_ok v) @w1 ?_))
  all_goals ((refine af1 @w1 ?_); (repeat intro K hK); (refine wr ?_))
  all_goals ((refine ca (e1)  ?_))
  all_goals ((refine af  ?_); (repeat intro K hK); (refine wr ?_))
  all_goals ((refine awp_cond rfl (fun h => by simp at h) (fun _ => ?_)))
  all_goals ((refine af  ?_); (repeat intro K hK); (refine wr ?_))
  all_goals ((refine ca1 (field16_ok v) @w2 ?_))
  all_goals ((refine af1 @w2 ?_); (repeat intro K hK); (refine wr ?_))
  all_goals ((refine ca (e2)  ?_))
  all_goals ((refine af  ?_); (repeat intro K hK); (refine wr ?_))
  all_goals ((refine awp_ret ?_); (simp [liW, ints, hv]))
end Go.Proofs.YtjlbpkokdlggiaaDoor
