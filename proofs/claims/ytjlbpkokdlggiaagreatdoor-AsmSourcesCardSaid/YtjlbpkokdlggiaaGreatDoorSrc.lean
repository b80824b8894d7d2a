/- AsmSources: the walk. (Numbers of seat r2.ZD.) -/
import Derived.Test.YtjlbpkokdlggiaaGreatDoorRefR
namespace Go.Proofs.YtjlbpkokdlggiaaGreatDoor
open Go.Ab Go.RowKit
set_option linter.unusedSimpArgs false
set_option maxRecDepth 100000
set_option maxHeartbeats 16000000 in
theorem sources_ok (l : List Int) (c : Int) : Meets Tryz.prog 3 [.sl 1 false (ints .i64 l), .int .i64 c] (.bool true) := by
  have hil := ints_len .i64 l
  refine Meets.of Tryz.func3 rfl (by kernel_rfl) rfl ?_
  simp only [Tryz.ntmps3, St.start, argT]
  refine au1 @hil ?_
  repeat intro K hK
  refine wr ?_
  refine awp_cond rfl (fun h => ?_) (fun h => ?_)
  · refine au  ?_
    repeat intro K hK
    refine wr ?_
    refine ca (awake23_ok)  ?_
    refine au  ?_
    repeat intro K hK
    refine wr ?_
    refine awp_ret ?_
    simp
  · have hb : l.length ≤ 30 := by simp at h; omega
    have hsl := source_len l
    have hsa := source_ascii l
    obtain ⟨k, hk⟩ : ∃ k : Nat, k = (c % ((sourceD l).length + 1)).toNat := ⟨_, rfl⟩
    have h1 := Int.emod_lt_of_pos c (show (0 : Int) < (sourceD l).length + 1 by omega)
    have h2 := Int.emod_nonneg c (show ((sourceD l).length : Int) + 1 ≠ 0 by omega)
    have hkc : c % ((sourceD l).length + 1) = (k : Int) := by omega
    have hkl : k ≤ (sourceD l).length := by omega
    have hw : IntKind.i64.wrap (((sourceD l).length : Int) + 1) = ((sourceD l).length : Int) + 1 := wrap_i64_in (by omega) (by omega)
    have ha := agrees_ok (sourceD l) hsa (by omega) (asm_eq _) (sym_eq _)
    have hb' := agrees_ok ((sourceD l).take k) (fun b hb => hsa b (List.mem_of_mem_take hb)) (by rw [List.length_take]; omega) (asm_eq _) (sym_eq _)
    have hr := round_ok c ((sourceD l).length + 1) (by omega) (by omega)
    rw [hkc] at hr
    refine au  ?_
    repeat intro K hK
    refine wr ?_
    refine ca (source_ok l hb)  ?_
    refine au  ?_
    repeat intro K hK
    refine wr ?_
    refine ca (ha)  ?_
    refine au1 @hw ?_
    repeat intro K hK
    refine wr ?_
    refine ca (hr)  ?_
    refine au  ?_
    repeat intro K hK
    refine wr ?_
    refine ca (hb')  ?_
    refine au  ?_
    repeat intro K hK
    refine wr ?_
    refine ca (awake23_ok)  ?_
    refine au  ?_
    repeat intro K hK
    refine wr ?_
    refine awp_ret ?_
    simp
theorem sources_row (l : List Int) (c : Int) : Meets Tryz.prog 3 [.sl 1 false (ints .i64 l), .int .i64 c] (.bool true) := sources_ok l c
end Go.Proofs.YtjlbpkokdlggiaaGreatDoor
