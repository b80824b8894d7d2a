/- AsmReads: the walk. (Numbers of seat r2.D.) -/
import Derived.Test.YtjlbpkokdlggiaaDoorRefR
namespace Go.Proofs.YtjlbpkokdlggiaaDoor
open Go.Ab Go.RowKit
set_option linter.unusedSimpArgs false
set_option maxRecDepth 100000
set_option maxHeartbeats 16000000 in
theorem reads_ok (s : Str) : Meets Tryd.prog 8 [.str s] (.bool true) := by
  refine Meets.of Tryd.func8 rfl (by kernel_rfl) rfl ?_
  simp only [Tryd.ntmps8, St.start, argT]
  refine au  ?_
  repeat intro K hK
  refine wr ?_
  refine awp_cond rfl (fun h => ?_) (fun h => ?_)
  · refine au  ?_
    repeat intro K hK
    refine wr ?_
    refine ca (awake23_ok)  ?_
    refine au  ?_
    repeat intro K hK
    refine wr ?_
    refine awp_ret ?_
    simp
  · have hb : s.length ≤ 600 := by simp at h; omega
    have ha := agrees_ok s trivial (by omega) (asm_eq _) (sym_eq _)
    refine au  ?_
    repeat intro K hK
    refine wr ?_
    refine ca (ha)  ?_
    refine au  ?_
    repeat intro K hK
    refine wr ?_
    refine ca (awake23_ok)  ?_
    refine au  ?_
    repeat intro K hK
    refine wr ?_
    refine awp_ret ?_
    simp
end Go.Proofs.YtjlbpkokdlggiaaDoor
