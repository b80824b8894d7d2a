/- Package vmfleetlaw3: awake, pieces, source. (Numbers of seat r2.D.) -/
import Derived.Test.YtjlbpkokdlggiaaGreatDoorAs11
import Derived.Test.YtjlbpkokdlggiaaGreatDoorRnd
namespace Go.Proofs.YtjlbpkokdlggiaaGreatDoor
open Go.Ab Go.RowKit
set_option linter.unusedSimpArgs false
set_option maxRecDepth 100000
abbrev awS1 : Str := [108, 111, 111, 112, 58, 32, 97, 100, 100, 105, 32, 114, 49, 44, 32, 114, 49, 44, 32, 45, 49, 10, 98, 110, 101, 32, 114, 49, 44, 32, 114, 48, 44, 32, 108, 111, 111, 112, 10]
abbrev awS2 : Str := [106, 97, 108, 32, 114, 49, 44, 32, 110, 111, 119, 104, 101, 114, 101]
theorem awS1_eq : asmD awS1 = .ok [269615103, 688979967] := by kernel_rfl
theorem awS2_eq : asmD awS2 = .error (302, 1) := by kernel_rfl
theorem awS1_ascii : isAscii awS1 := by unfold isAscii; decide
theorem awS2_ascii : isAscii awS2 := by unfold isAscii; decide
set_option maxHeartbeats 8000000 in
theorem awake23_ok : Meets Tryz.prog 5 [] (.bool true) := by
  have h1 := assemble_ok awS1 awS1_ascii (by decide)
  have h2 := assemble_ok awS2 awS2_ascii (by decide)
  have e1 : asmV awS1 = .tup [.sl 1 false (ints .u32 [269615103, 688979967]), errV (0, 0)] := by unfold asmV; rw [awS1_eq]
  have e2 : asmV awS2 = .tup [.sl 1 true [], errV (302, 1)] := by unfold asmV; rw [awS2_eq]
  rw [e1] at h1
  rw [e2] at h2
  refine Meets.of Tryz.func5 rfl (by kernel_rfl) rfl ?_
  simp only [Tryz.ntmps5, St.start, argT]
  repeat (first | (with_reducible first | refine awp_seqK fun K hK => ?_ | refine awp_block ?_) | ((with_reducible first | refine awp_region (by kernel_rfl) ?_ | refine gcall_tt ?_ | refine gcall_ff ?_ | refine gcall_tf ?_ | refine gcall_ft ?_ | refine awp_skip ?_ | refine awp_exit ?_); simp) | ((repeat ((fail_if_success ((with_reducible refine hK _ ?_))); clear hK)); (with_reducible refine hK _ ?_); clear hK) | refine And.intro (by first | omega | assumption | grind) ?_)
  first | refine .inl ⟨0, _, h1, ?_⟩ | refine .inl ⟨0, _, Meets.wk (h1) (by simp), ?_⟩ | refine ⟨0, _, h1, ?_⟩ | refine ⟨0, _, Meets.wk (h1) (by simp), ?_⟩
  simp [aftC, aftE]
  repeat (first | (with_reducible first | refine awp_seqK fun K hK => ?_ | refine awp_block ?_) | ((with_reducible first | refine awp_region (by kernel_rfl) ?_ | refine gcall_tt ?_ | refine gcall_ff ?_ | refine gcall_tf ?_ | refine gcall_ft ?_ | refine awp_skip ?_ | refine awp_exit ?_); simp) | ((repeat ((fail_if_success ((with_reducible refine hK _ ?_))); clear hK)); (with_reducible refine hK _ ?_); clear hK) | refine And.intro (by first | omega | assumption | grind) ?_)
  first | refine .inl ⟨0, _, h2, ?_⟩ | refine .inl ⟨0, _, Meets.wk (h2) (by simp), ?_⟩ | refine ⟨0, _, h2, ?_⟩ | refine ⟨0, _, Meets.wk (h2) (by simp), ?_⟩
  simp [aftC, aftE]
  repeat (first | (with_reducible first | refine awp_seqK fun K hK => ?_ | refine awp_block ?_) | ((with_reducible first | refine awp_region (by kernel_rfl) ?_ | refine gcall_tt ?_ | refine gcall_ff ?_ | refine gcall_tf ?_ | refine gcall_ft ?_ | refine awp_skip ?_ | refine awp_exit ?_); simp [ints]) | ((repeat ((fail_if_success ((with_reducible refine hK _ ?_))); clear hK)); (with_reducible refine hK _ ?_); clear hK) | refine And.intro (by first | omega | assumption | grind) ?_)
  refine awp_ret ?_
  simp
def piecesL : List Str := [[97, 100, 100, 32, 114, 49, 44, 32, 114, 50, 44, 32, 114, 51], [97, 100, 100, 105, 32, 114, 52, 44, 32, 114, 53, 44, 32, 45, 55], [108, 119, 32, 114, 49, 44, 32, 56, 40, 114, 50, 41], [32, 115, 119, 32, 32, 114, 49, 32, 44, 48, 32, 40, 32, 114, 50, 32, 41, 32], [98, 101, 113, 32, 114, 49, 44, 32, 114, 50, 44, 32, 97], [106, 97, 108, 32, 114, 49, 53, 44, 32, 98], [106, 97, 108, 114, 32, 114, 48, 44, 32, 114, 49, 53, 44, 32, 48], [108, 105, 32, 114, 51, 44, 32, 48, 120, 49, 50, 51, 52, 53], [108, 105, 32, 114, 51, 44, 32, 97], [46, 119, 111, 114, 100, 32, 45, 49], [46, 119, 111, 114, 100, 32, 98], [46, 115, 112, 97, 99, 101, 32, 51], [97, 58], [98, 58, 32, 110, 111, 112], [99, 32, 58, 32, 104, 97, 108, 116, 32, 59, 32, 101, 110, 100], [109, 118, 32, 114, 49, 44, 32, 114, 50], [], [59, 32, 99, 111, 109, 109, 101, 110, 116], [101, 99, 97, 108, 108], [99, 115, 114, 119, 32, 114, 49, 44, 32, 55], [105, 110, 32, 114, 49, 44, 32, 49, 50], [115, 104, 108, 105, 32, 114, 49, 44, 32, 114, 49, 44, 32, 51, 50], [97, 100, 100, 105, 32, 114, 49, 44, 32, 114, 49, 44, 32, 51, 50, 55, 54, 56], [108, 119, 32, 114, 49, 44, 32, 114, 50], [97], [46, 115, 112, 97, 99, 101, 32, 49, 48, 50, 53], [114, 49, 58, 32, 110, 111, 112], [98, 58], [111, 117, 116, 32, 114, 50, 44, 32, 48], [108, 117, 105, 32, 114, 49, 44, 32, 54, 53, 53, 51, 54], [98, 101, 113, 32, 114, 49, 44, 32, 114, 50, 44, 32, 53], [106, 97, 108, 32, 114, 49, 44, 32, 45, 51, 50, 55, 54, 57], [120, 121, 122, 32, 114, 49], [108, 105, 32, 114, 49, 54, 44, 32, 49], [115, 108, 116, 105, 32, 114, 49, 44, 32, 114, 50, 44, 32, 49, 50, 51, 52, 53, 54, 55, 56, 57, 48, 49], [46, 119, 111, 114, 100, 32, 52, 50, 57, 52, 57, 54, 55, 50, 57, 54]]
def pieceD (z : Int) : Str := piecesL.getD (z % 36).toNat []
def sourceD (l : List Int) : Str := l.flatMap fun z => pieceD z ++ [10]
end Go.Proofs.YtjlbpkokdlggiaaGreatDoor
