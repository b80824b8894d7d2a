/- Package vmfleetlaw3: awake, pieces, source. (Numbers of seat r2.D.) -/
import Derived.Test.YtjlbpkokdlggiaaDoorAs11
import Derived.Test.YtjlbpkokdlggiaaDoorRnd
namespace Go.Proofs.YtjlbpkokdlggiaaDoor
open Go.Ab Go.RowKit
set_option linter.unusedSimpArgs false
set_option maxRecDepth 100000
abbrev awS1 : Str := [108, 111, 111, 112, 58, 32, 97, 100, 100, 105, 32, 114, 49, 44, 32, 114, 49, 44, 32, 45, 49, 10, 98, 110, 101, 32, 114, 49, 44, 32, 114, 48, 44, 32, 108, 111, 111, 112, 10]
abbrev awS2 : Str := [106, 97, 108, 32, 114, 49, 44, 32, 110, 111, 119, 104, 101, 114, 101]
theorem awS1_eq : asmD awS1 = .ok [269615103, 688979967] := by kernel_rfl
theorem awS2_eq : asmD awS2 = .error (302, 1) := by kernel_rfl
theorem awS1_ascii : okText awS1 := trivial
theorem awS2_ascii : okText awS2 := trivial
set_option maxHeartbeats 8000000 in
theorem awake23_ok : Meets Tryd.prog 23 [] (.bool true) := by
  have h1 := assemble_ok awS1 awS1_ascii (by decide)
  have h2 := assemble_ok awS2 awS2_ascii (by decide)
  have e1 : asmV awS1 = .tup [.sl 1 false (ints .u32 [269615103, 688979967]), errV (0, 0)] := by unfold asmV; rw [awS1_eq]
  have e2 : asmV awS2 = .tup [.sl 1 true [], errV (302, 1)] := by unfold asmV; rw [awS2_eq]
  rw [e1] at h1
  rw [e2] at h2
  refine Meets.of Tryd.func23 rfl (by kernel_rfl) rfl ?_
  simp only [Tryd.ntmps23, St.start, argT]
  refine au  ?_
  repeat intro K hK
  refine wr ?_
  refine ca (h1)  ?_
  refine au  ?_
  repeat intro K hK
  refine wr ?_
  refine ca (h2)  ?_
  refine au1 @ints.eq_1 ?_
  repeat intro K hK
  refine wr ?_
  refine awp_ret ?_
  simp
def piecesL : List Str := [[97, 100, 100, 32, 114, 49, 44, 32, 114, 50, 44, 32, 114, 51], [97, 100, 100, 105, 32, 114, 52, 44, 32, 114, 53, 44, 32, 45, 55], [108, 119, 32, 114, 49, 44, 32, 56, 40, 114, 50, 41], [32, 115, 119, 32, 32, 114, 49, 32, 44, 48, 32, 40, 32, 114, 50, 32, 41, 32], [98, 101, 113, 32, 114, 49, 44, 32, 114, 50, 44, 32, 97], [106, 97, 108, 32, 114, 49, 53, 44, 32, 98], [106, 97, 108, 114, 32, 114, 48, 44, 32, 114, 49, 53, 44, 32, 48], [108, 105, 32, 114, 51, 44, 32, 48, 120, 49, 50, 51, 52, 53], [108, 105, 32, 114, 51, 44, 32, 97], [46, 119, 111, 114, 100, 32, 45, 49], [46, 119, 111, 114, 100, 32, 98], [46, 115, 112, 97, 99, 101, 32, 51], [97, 58], [98, 58, 32, 110, 111, 112], [99, 32, 58, 32, 104, 97, 108, 116, 32, 59, 32, 101, 110, 100], [109, 118, 32, 114, 49, 44, 32, 114, 50], [], [59, 32, 99, 111, 109, 109, 101, 110, 116], [101, 99, 97, 108, 108], [99, 115, 114, 119, 32, 114, 49, 44, 32, 55], [105, 110, 32, 114, 49, 44, 32, 49, 50], [115, 104, 108, 105, 32, 114, 49, 44, 32, 114, 49, 44, 32, 51, 50], [97, 100, 100, 105, 32, 114, 49, 44, 32, 114, 49, 44, 32, 51, 50, 55, 54, 56], [108, 119, 32, 114, 49, 44, 32, 114, 50], [97], [46, 115, 112, 97, 99, 101, 32, 49, 48, 50, 53], [114, 49, 58, 32, 110, 111, 112], [98, 58], [111, 117, 116, 32, 114, 50, 44, 32, 48], [108, 117, 105, 32, 114, 49, 44, 32, 54, 53, 53, 51, 54], [98, 101, 113, 32, 114, 49, 44, 32, 114, 50, 44, 32, 53], [106, 97, 108, 32, 114, 49, 44, 32, 45, 51, 50, 55, 54, 57], [120, 121, 122, 32, 114, 49], [108, 105, 32, 114, 49, 54, 44, 32, 49], [115, 108, 116, 105, 32, 114, 49, 44, 32, 114, 50, 44, 32, 49, 50, 51, 52, 53, 54, 55, 56, 57, 48, 49], [46, 119, 111, 114, 100, 32, 52, 50, 57, 52, 57, 54, 55, 50, 57, 54]]
theorem pieces_ok : Meets Tryd.prog 50 [] (.new 9 1 (strs piecesL)) := by
  refine Meets.of Tryd.func50 rfl (by kernel_rfl) rfl ?_
  simp only [Tryd.ntmps50, St.start, argT]
  refine au2 @piecesL.eq_1 @strs.eq_1 ?_
  repeat intro K hK
  refine wr ?_
  refine awp_ret ?_
  simp [piecesL, strs]
theorem pieces_fact : ∀ p ∈ piecesL, p.length ≤ 24 ∧ ∀ c ∈ p, c.toNat < 128 := by decide +kernel
theorem pieces_len : piecesL.length = 36 := rfl
def pieceD (z : Int) : Str := piecesL.getD (z % 36).toNat []
theorem piece_mem (z : Int) : pieceD z ∈ piecesL := by
  have h : (z % 36).toNat < piecesL.length := by rw [pieces_len]; omega
  unfold pieceD
  rw [List.getD_eq_getElem?_getD, List.getElem?_eq_getElem h]
  exact List.getElem_mem h
def sourceD (l : List Int) : Str := l.flatMap fun z => pieceD z ++ [10]
theorem source_ascii (l : List Int) : okText (sourceD l) := trivial
theorem source_len : ∀ l : List Int, (sourceD l).length ≤ 25 * l.length
  | [] => by simp [sourceD]
  | z :: l => by
    have h := source_len l
    have h1 := (pieces_fact _ (piece_mem z)).1
    simp only [sourceD, List.flatMap_cons, List.length_append, List.length_cons, List.length_nil] at h ⊢
    omega
set_option maxHeartbeats 8000000 in
theorem source_ok (l : List Int) (hl : l.length ≤ 30) : Meets Tryd.prog 28 [.sl 1 false (ints .i64 l)] (.str (sourceD l)) := by
  have hil := ints_len .i64 l
  refine Meets.of Tryd.func28 rfl (by kernel_rfl) rfl ?_
  simp only [Tryd.ntmps28, St.start, argT]
  refine au  ?_
  repeat intro K hK
  refine wr ?_
  refine ca (pieces_ok)  ?_
  refine au  ?_
  repeat intro K hK
  refine wr ?_
  obtain ⟨I, hI⟩ : ∃ I : Nat → St → Prop, I = (fun kk ss => ∃ (i : Nat) (s : Str), i ≤ l.length ∧ kk = l.length - i ∧ (s = sourceD (l.take i)) ∧ ss = ⟨27, [(5, .int .i64 i), (4, .str s), (3, .own 0), (0, .sl 1 false (ints .i64 l))], 1, [(0, some ⟨9, 1, false, false, strs piecesL⟩)], 0⟩) := ⟨_, rfl⟩
  refine awp_loopA I (k0 := l.length) (st0 := (fun (i : Nat) (s : Str) => (⟨27, [(5, .int .i64 i), (4, .str s), (3, .own 0), (0, .sl 1 false (ints .i64 l))], 1, [(0, some ⟨9, 1, false, false, strs piecesL⟩)], 0⟩ : St)) 0 []) (ρ0 := id) ⟨rfl, by simp [leT, ltV, lt1, ren, ren1], by simp [leO, lt1, ren1], by simp, by simp⟩ (by rw [hI]; exact ⟨0, [], by simp, by simp, rfl, rfl⟩) ?_
  intro kk ss hIk _
  rw [hI] at hIk
  obtain ⟨i, s, hi, rfl, hx, rfl⟩ := hIk
  subst hx
  have hw : IntKind.i64.wrap ((i : Int) + 1) = ((i + 1 : Nat) : Int) := by rw [wrap_i64_in (by omega) (by omega)]; omega
  refine au1 @hil ?_
  repeat intro K hK
  refine wr ?_
  by_cases hi : i < l.length
  · obtain ⟨z, hz⟩ : ∃ z, z = l[i] := ⟨_, rfl⟩
    have hget : (ints .i64 l)[i]? = some [.int .i64 z] := by rw [hz]; exact iint_at _ l i hi
    have hpl : (strs piecesL).length = 36 := rfl
    have hzm : 0 ≤ z % 36 ∧ z % 36 < 36 := by omega
    have hzn : (z % 36).toNat < 36 := by omega
    have hpg : (strs piecesL)[(z % 36).toNat]? = some [.str (pieceD z)] := by
      have h : (z % 36).toNat < piecesL.length := by rw [pieces_len]; omega
      rw [strs_at _ _ h]
      unfold pieceD
      rw [List.getD_eq_getElem?_getD, List.getElem?_eq_getElem h]; rfl
    have hst : sourceD (l.take (i + 1)) = sourceD (l.take i) ++ (pieceD z ++ [10]) := by
      rw [List.take_succ_eq_append_getElem hi, ← hz]; simp [sourceD]
    have hln := source_len (l.take i)
    have hln2 : (l.take i).length ≤ 30 := by simp; omega
    have hln3 := (pieces_fact _ (piece_mem z)).1
    refine awp_cond rfl (fun _ => ?_) (fun h => by simp [hi] at h)
    refine au3 @hget @hil @hpl ?_
    repeat intro K hK
    refine wr ?_
    refine ca2 (round_ok z 36 (by decide) (by decide)) @hpl @hpg ?_
    refine au2 @hpl @hpg ?_
    repeat intro K hK
    refine wr ?_
    refine again_of (l.length - (i + 1)) ((fun (i : Nat) (s : Str) => (⟨27, [(5, .int .i64 i), (4, .str s), (3, .own 0), (0, .sl 1 false (ints .i64 l))], 1, [(0, some ⟨9, 1, false, false, strs piecesL⟩)], 0⟩ : St)) (i + 1) (sourceD (l.take (i + 1)))) (id) (by omega) (by rw [hI]; exact ⟨i + 1, (sourceD (l.take (i + 1))), by omega, rfl, rfl, rfl⟩) ⟨rfl, ?_, ?_, ?_, by simp⟩
    · simp [leT, ltV, lt1, ren, ren1, wrap_i64_in (n := (i : Int) + 1) (by omega) (by omega), hw, hst]
    · simp [leO, lt1, ren1, hw, hst]
    · (simp; try omega)
  · have hil' : i = l.length := by omega
    subst hil'
    refine awp_cond rfl (fun h => by simp at h) (fun _ => ?_)
    refine au  ?_
    repeat intro K hK
    refine wr ?_
    refine awp_ret ?_
    simp
end Go.Proofs.YtjlbpkokdlggiaaDoor
