/- A part of the proof of ReplicaJoins. -/
import Derived.Test.YtjmhjieflbnehaaGreatP04
import Derived.Test.YtjmhjieflbnehaaGreatP05
import Derived.Test.YtjmhjieflbnehaaGreatP10
import Derived.Test.YtjmhjieflbnehaaGreatP23
import Derived.Test.YtjmhjieflbnehaaGreatP24
import Derived.Test.YtjmhjieflbnehaaGreatP27
import Derived.Test.YtjmhjieflbnehaaGreatP30
import Derived.Test.YtjmhjieflbnehaaGreatP31
set_option linter.unusedSimpArgs false
set_option linter.unusedVariables false
set_option maxHeartbeats 16000000
set_option maxRecDepth 100000
section
namespace Go.Proofs.YtjmhjieflbnehaaGreat
open Go.Ab Go.RowKit
theorem rm1_ok (r : RepD) (hro : r.role = 1) (hm : r.rec_.m.mem.length ≤ 100000) : zAD Tryz.prog 11 [.st r.row] (.st r.rec_.m.row) := by
 refine sZ Tryz.func11 Tryz.ntmps11 ?_
 exact wx1 (qX1 (zBc r.rec_.m hm)) trivial @hro
theorem rm2_ok (r : RepD) (hro : r.role = 2) (hm : r.rpl.m.mem.length ≤ 100000) : zAD Tryz.prog 11 [.st r.row] (.st r.rpl.m.row) := by
 refine sZ Tryz.func11 Tryz.ntmps11 ?_
 exact wx1 (qX1 (zBc r.rpl.m hm)) trivial @hro
end Go.Proofs.YtjmhjieflbnehaaGreat
end
section
namespace Go.Proofs.YtjmhjieflbnehaaGreat
open Go.Ab Go.RowKit Fx
theorem zRf {C D E G : Prop} (c : C) (d : D) (e : E) (t : C → D → E → G := by intro c d e; (refine af1 e ?_; (repeat intro K hK); refine wr ?_); repeat' ((first | (refine zAA rfl (fun h => ?_) (fun h => ?_) <;> (first | (simp [e] at h; done) | (simp [e] at h) | skip) <;> (first | (exfalso; omega) | skip)) | ((first | refine .inl ⟨1, _, d.1, ?_⟩ | refine ⟨1, _, d.1, ?_⟩); simp [aftC, aftE, noX, noXc, noX1, e]; first | refine And.intro zAL ?_ | skip) | ((first | refine .inl ⟨1, _, d.2.1, ?_⟩ | refine ⟨1, _, d.2.1, ?_⟩); simp [aftC, aftE, noX, noXc, noX1, e]; first | refine And.intro zAL ?_ | skip) | refine cc1 c.1 e ?_ | refine cc1 c.2.1 e ?_ | refine cc1 c.2.2.1 e ?_ | refine cc1 c.2.2.2.1 e ?_ | refine cc1 c.2.2.2.2.1 e ?_ | refine cc1 c.2.2.2.2.2.1 e ?_ | (refine zAE (rid := 9) ([0, 1, 2, 3, 4, 5, 6, 7, 8, 9, 10, 11] : List Nat) ([[], [0], [], [], [2, 3], [2, 3, 4], [2, 3, 4, 5], [], [7], [0, 1, 2, 3, 4, 5, 6, 7, 8], [0, 1, 2, 3, 4, 5, 6, 7, 8, 9], [0, 1, 2, 3, 4, 5, 6, 7, 8, 9, 10]] : List (List Nat)) ([(9, ([[], [0], [], [], [2, 3], [2, 3, 4], [2, 3, 4, 5], [], [7]], [(1, 6), (8, 6)])), (1, ([], [])), (1, ([], [])), (1, ([], []))] : List (Nat × List (List Nat) × List (Nat × Nat))) (by kernel_rfl) (by kernel_rfl) (by kernel_rfl) ?_) | (refine zAE (rid := 17) ([0, 1, 2, 3, 4, 5, 6, 7, 8, 9, 10, 11, 12, 13, 14, 15, 16, 17, 18, 19, 20, 21, 22, 23, 24] : List Nat) ([[], [0], [0, 1], [0, 1, 2], [0, 1, 2, 3], [0, 1, 2, 3, 4], [0, 1, 2, 3, 4, 5], [0, 1, 2, 3, 4, 5, 6], [0, 1, 2, 3, 4, 5, 6, 7], [0, 1, 2, 3, 4, 5, 6, 7, 8], [0, 1, 2, 3, 4, 5, 6, 7], [0, 1, 2, 3, 4, 5, 6, 7, 8, 9, 10], [0, 1, 2, 3, 4, 5, 6, 7, 8, 9, 10, 11], [0, 1, 2, 3, 4, 5, 6, 7, 8, 9, 10, 11, 12], [0, 1, 2, 3, 4, 5, 6, 7, 8, 9, 10, 11, 12, 13], [0, 1, 2, 3, 4, 5, 6, 7, 8, 9, 10, 11, 12, 13, 14], [0, 1, 2, 3, 4, 5, 6, 7, 8, 9, 10, 11, 12, 13, 14, 15], [0, 1, 2, 3, 4, 5, 6, 7, 8, 9, 10, 11, 12, 13, 14], [0, 1, 2, 3, 4, 5, 6, 7, 8, 9, 10, 11, 12, 13, 14, 17], [0, 1, 2, 3, 4, 5, 6, 7, 8, 9, 10, 11, 12, 13, 14, 15, 16, 17, 18], [0, 1, 2, 3, 4, 5, 6, 7, 8, 9, 10, 11, 12, 13, 14, 15, 16, 17, 18, 19], [0, 1, 2, 3, 4, 5, 6, 7, 8, 9, 10, 11, 12, 13, 14, 15, 16, 17, 18, 19, 20], [0, 1, 2, 3, 4, 5, 6, 7, 8, 9, 10, 11, 12, 13, 14, 15, 16, 17, 18, 19, 20, 21], [0, 1, 2, 3, 4, 5, 6, 7, 8, 9, 10, 11, 12, 13, 14, 15, 16, 17, 18, 19, 20, 21, 22], [0, 1, 2, 3, 4, 5, 6, 7, 8, 9, 10, 11, 12, 13, 14, 15, 16, 17, 18, 19, 20, 21, 22, 23]] : List (List Nat)) ([(1, ([], [])), (1, ([], [])), (1, ([], [])), (1, ([], [])), (1, ([], [])), (1, ([], [])), (1, ([], [])), (1, ([], [])), (3, ([[], [0], []], [(2, 1)])), (1, ([], [])), (1, ([], [])), (1, ([], [])), (1, ([], [])), (4, ([[], [0], [], [2]], [])), (1, ([], [])), (1, ([], [])), (1, ([], [])), (1, ([], [])), (1, ([], [])), (1, ([], []))] : List (Nat × List (List Nat) × List (Nat × Nat))) (by kernel_rfl) (by kernel_rfl) (by kernel_rfl) ?_) | exact rt1 e | fail) <;> (refine af1 e ?_; (repeat intro K hK); refine wr ?_))) : G := t c d e
theorem zRep_p : OkP zRep 40000 := ⟨zOB.up (by omega), zOn, by simp, by simp, by intro g hg; simp at hg, by simp, by intro g hg; simp at hg, by simp, by simp⟩
theorem joins_ok (kind : Int) (l runs : List Int) (limit : Int) : zAD Tryz.prog 4 [iv kind, .sl 1 false (ints .i64 l), .sl 1 false (ints .i64 runs), iv limit] (.bool true) := by
 have hl1 := zAP .i64 l
 have hl2 := zAP .i64 runs
 by_cases hc : (60 : Int) < l.length ∨ (8 : Int) < runs.length
 ·rcases hc with hc | hc
  ·refine sZ Tryz.func4 Tryz.ntmps4 ?_
   exact zRf (qX1 (zFP)) trivial (kX3 @hl1 @hl2 @hc)
  ·refine sZ Tryz.func4 Tryz.ntmps4 ?_
   exact zRf (qX1 (zFP)) trivial (kX3 @hl1 @hl2 @hc)
 ·have c1 : ¬ (60 : Int) < l.length := fun q => hc (.inl q)
  have c2 : ¬ (8 : Int) < runs.length := fun q => hc (.inr q)
  obtain ⟨hM, hmay, hs⟩ := mkD_ok (kind % 3) l (by omega)
  have hm := zPn kind l (by omega)
  generalize mkD (kind % 3) l = M at *
  have hst := zEs kind l M hmay hs ⟨hM.gv.1, by have := hM.gv.2; omega⟩ (by have := hM.n; omega) hm
  have ha := prim_l hM 2
  have hb := back_p hM 2
  have hbl : zC3 (zDp 1 M 1 2) = false := rfl
  have hbh : (zDp 1 M 1 2).host = 1 := rfl
  generalize zF3 0 M 1 2 = a0 at *
  generalize zDp 1 M 1 2 = b at *
  refine sY Tryz.func4 Tryz.ntmps4 (kX2 @hl1 @hl2) ?_;intros;refine wr ?_
  refine gF10 (kX4 @hl1 @hl2 @c1 @c2) rfl ?_;intros;refine wr ?_
  refine ccB (hst) ?_
  refine auB ?_;intros;refine wr ?_
  refine cF0 rfl ?_
  refine auB ?_;intros;refine wr ?_
  obtain ⟨I, hI⟩ : ∃ I : Nat → St → Prop, I = (fun kk ss => ∃ (i : Nat) (r : RepD), i ≤ runs.length ∧ kk = runs.length - i ∧ (OkL r i) ∧ ss = ⟨125, [(11, .int .i64 i), (9, .ptr 256 255 0 0), (2, .sl 1 false (ints .i64 runs)), (3, iv limit)], 257, [(256, some ⟨66, 255, true, false, [wldR r b]⟩)], 0⟩) := ⟨_, rfl⟩
  refine lX I (id) (by rw [hI]; exact ⟨0, a0, by simp, rfl, ha, rfl⟩) ?_
  intro kk ss hIk _
  rw [hI] at hIk
  obtain ⟨i, r, hi, rfl, hx, rfl⟩ := hIk
  refine auB1 @hl2 ?_;intros;refine wr ?_
  refine zAA rfl (fun hh => ?_) (fun hh => ?_)
  ·simp at hh
   have hlt : i < runs.length := by omega
   obtain ⟨x, hx'⟩ : ∃ x, runs[i]? = some x := ⟨_, List.getElem?_eq_getElem hlt⟩
   have hget := zB7 (k := .i64) hx'
   have hwi : IntKind.u32.wrap (i : Int) = i := u32_in (by omega) (by omega)
   have hon := hx.on
   have hgl := hx.g
   have hrun := zSc r (x % 30) i (by unfold zC3; rw [hx.role]; rfl) (hx.okP (by omega)) ⟨by omega, by omega⟩ (by rw [hx.q]; simp) (by omega) hx.t
   refine auB ?_;intros;refine wr ?_
   refine zAE ([0, 1, 2, 3, 4, 5, 6, 7, 8, 9, 10, 11] : List Nat) ([[], [0], [], [], [2, 3], [2, 3, 4], [2, 3, 4, 5], [], [7], [0, 1, 2, 3, 4, 5, 6, 7, 8], [0, 1, 2, 3, 4, 5, 6, 7, 8, 9], [0, 1, 2, 3, 4, 5, 6, 7, 8, 9, 10]] : List (List Nat)) ([(9, ([[], [0], [], [], [2, 3], [2, 3, 4], [2, 3, 4, 5], [], [7]], [(1, 6), (8, 6)])), (1, ([], [])), (1, ([], [])), (1, ([], []))] : List (Nat × List (List Nat) × List (Nat × Nat))) (by kernel_rfl) (by kernel_rfl) (by kernel_rfl) ?_
   refine afB1 (kX2 @hl2 @hget) ?_;intros;refine wr ?_
   refine ccB (zAq x 30 (by decide) (by decide)) ?_
   refine afB1 @hwi ?_;intros;refine wr ?_
   refine ccB1 (hrun) @hwi ?_
   refine afB1 @hwi ?_;intros;refine wr ?_
   have hnx := hx.run (x % 30) (clock := (i : Int)) ⟨by omega, by omega⟩
   have hw1 : IntKind.i64.wrap ((i : Int) + 1) = ((i + 1 : Nat) : Int) := by rw [zAC (by omega) (by omega)]; omega
   generalize zGU r (x % 30) i = r' at *
   exact aX (id) (by rw [hI]; exact ⟨i + 1, r', by omega, rfl, hnx, rfl⟩) (kX2 (zAC (n := (i : Int) + 1) (by omega) (by omega)) @hw1)
  ·simp at hh
   have hi8 : i ≤ 100 := by omega
   have hP := (hx.okP hi8).up (show 400 ≤ 40000 by omega)
   have hj := zNJ r limit hP (by rw [hx.host]; decide)
   have hj2 := zQe r limit (by have := hx.m.n; omega) (by rw [hx.host]; decide)
   have hjb := zNJ b limit hb (by rw [hbh]; decide)
   have eb : zGY b limit = .tup [.st b.row, .st zRep.row, .bool false] := by unfold zGY; rw [if_neg (fun q => by rw [hbl] at q; simp at q)]
   rw [eb] at hjb
   have hlr : zC3 r = true := by unfold zC3; rw [hx.role]; rfl
   by_cases hd : zDf limit = true
   ·have er : zGY r limit = .tup [.st (joinA r limit).row, .st (joinB r limit).row, .bool true] := by unfold zGY; rw [if_pos ⟨hd, hlr⟩]
    rw [er] at hj hj2
    have sA := zFX (joinA r limit) (hx.joinA hi8 limit) hx.e
    have sB := zFX (joinB r limit) (hx.joinB hi8 limit) rfl
    have m1 := rm1_ok (joinA r limit) rfl (by have := hx.m.n; exact Nat.le_trans this (by omega))
    have m2 := rm2_ok (joinB r limit) rfl (by have := hx.m.n; exact Nat.le_trans this (by omega))
    have s1 := zHO r.rec_.m (by have := hx.m.n; omega)
    have s2 := zIb r.gate (by have := hx.g; omega)
    have f1 : (joinA r limit).rec_.m = r.rec_.m := rfl
    have f2 : (joinB r limit).rpl.m = r.rec_.m := rfl
    have f3 : (joinA r limit).gate = r.gate := rfl
    have f4 : (joinB r limit).gate = r.gate := rfl
    have f5 : (joinB r limit).host = 1 := by show 1 - r.host = 1; rw [hx.host]; rfl
    rw [f1] at m1
    rw [f2] at m2
    rw [← f3] at s2
    have f6 : (joinB r limit).gate = (joinA r limit).gate := rfl
    have f7 : ((joinB r limit).host == 1) = true := by rw [f5]; rfl
    have s3 : zAD Tryz.prog 19 [.st (joinA r limit).gate.row, .st (joinB r limit).gate.row] (.bool true) := by rw [f6]; exact s2
    generalize joinA r limit = a' at *
    generalize joinB r limit = b' at *
    refine afB ?_;intros;refine wr ?_
    refine ccB (hj) ?_
    refine afB ?_;intros;refine wr ?_
    refine ccB (hj2) ?_
    refine afB ?_;intros;refine wr ?_
    refine ccB (sA) ?_
    refine afB ?_;intros;refine wr ?_
    refine ccB (sB) ?_
    refine afB ?_;intros;refine wr ?_
    refine cF0 rfl ?_
    refine afB ?_;intros;refine wr ?_
    refine ccB (hjb) ?_
    refine afB ?_;intros;refine wr ?_
    refine cF0 rfl ?_
    refine afB ?_;intros;refine wr ?_
    refine zAE ([0, 1, 2, 3, 4, 5, 6, 7, 8, 9, 10, 11, 12, 13, 14, 15, 16, 17, 18, 19, 20, 21, 22, 23, 24] : List Nat) ([[], [0], [0, 1], [0, 1, 2], [0, 1, 2, 3], [0, 1, 2, 3, 4], [0, 1, 2, 3, 4, 5], [0, 1, 2, 3, 4, 5, 6], [0, 1, 2, 3, 4, 5, 6, 7], [0, 1, 2, 3, 4, 5, 6, 7, 8], [0, 1, 2, 3, 4, 5, 6, 7], [0, 1, 2, 3, 4, 5, 6, 7, 8, 9, 10], [0, 1, 2, 3, 4, 5, 6, 7, 8, 9, 10, 11], [0, 1, 2, 3, 4, 5, 6, 7, 8, 9, 10, 11, 12], [0, 1, 2, 3, 4, 5, 6, 7, 8, 9, 10, 11, 12, 13], [0, 1, 2, 3, 4, 5, 6, 7, 8, 9, 10, 11, 12, 13, 14], [0, 1, 2, 3, 4, 5, 6, 7, 8, 9, 10, 11, 12, 13, 14, 15], [0, 1, 2, 3, 4, 5, 6, 7, 8, 9, 10, 11, 12, 13, 14], [0, 1, 2, 3, 4, 5, 6, 7, 8, 9, 10, 11, 12, 13, 14, 17], [0, 1, 2, 3, 4, 5, 6, 7, 8, 9, 10, 11, 12, 13, 14, 15, 16, 17, 18], [0, 1, 2, 3, 4, 5, 6, 7, 8, 9, 10, 11, 12, 13, 14, 15, 16, 17, 18, 19], [0, 1, 2, 3, 4, 5, 6, 7, 8, 9, 10, 11, 12, 13, 14, 15, 16, 17, 18, 19, 20], [0, 1, 2, 3, 4, 5, 6, 7, 8, 9, 10, 11, 12, 13, 14, 15, 16, 17, 18, 19, 20, 21], [0, 1, 2, 3, 4, 5, 6, 7, 8, 9, 10, 11, 12, 13, 14, 15, 16, 17, 18, 19, 20, 21, 22], [0, 1, 2, 3, 4, 5, 6, 7, 8, 9, 10, 11, 12, 13, 14, 15, 16, 17, 18, 19, 20, 21, 22, 23]] : List (List Nat)) ([(1, ([], [])), (1, ([], [])), (1, ([], [])), (1, ([], [])), (1, ([], [])), (1, ([], [])), (1, ([], [])), (1, ([], [])), (3, ([[], [0], []], [(2, 1)])), (1, ([], [])), (1, ([], [])), (1, ([], [])), (1, ([], [])), (4, ([[], [0], [], [2]], [])), (1, ([], [])), (1, ([], [])), (1, ([], [])), (1, ([], [])), (1, ([], [])), (1, ([], []))] : List (Nat × List (List Nat) × List (Nat × Nat))) (by kernel_rfl) (by kernel_rfl) (by kernel_rfl) ?_
    refine afB1 @f7 ?_;intros;refine wr ?_
    refine ccB (m1) ?_
    refine afB ?_;intros;refine wr ?_
    refine ccB (m2) ?_
    refine afB ?_;intros;refine wr ?_
    refine ccB (s1) ?_
    refine afB ?_;intros;refine wr ?_
    refine ccB (s3) ?_
    refine afB ?_;intros;refine wr ?_
    refine ccB (zFP) ?_
    refine afB ?_;intros;refine wr ?_
    refine zAB ?_
    simp
   ·have er : zGY r limit = .tup [.st r.row, .st zRep.row, .bool false] := by unfold zGY; rw [if_neg (fun q => hd q.1)]
    rw [er] at hj hj2
    have sA := zFX r hP hx.e
    have sB := zFX zRep zRep_p rfl
    refine afB ?_;intros;refine wr ?_
    refine ccB (hj) ?_
    refine afB ?_;intros;refine wr ?_
    refine ccB (hj2) ?_
    refine afB ?_;intros;refine wr ?_
    refine ccB (sA) ?_
    refine afB ?_;intros;refine wr ?_
    refine ccB (sB) ?_
    refine afB ?_;intros;refine wr ?_
    refine cF0 rfl ?_
    refine afB ?_;intros;refine wr ?_
    refine ccB (hjb) ?_
    refine afB ?_;intros;refine wr ?_
    refine cT0 rfl ?_
    refine afB ?_;intros;refine wr ?_
    refine ccB (zFP) ?_
    refine afB ?_;intros;refine wr ?_
    refine zAB ?_
    simp
end Go.Proofs.YtjmhjieflbnehaaGreat
end
section
namespace Go.Proofs.YtjmhjieflbnehaaGreat
open Go.Ab Go.ChangeShapes Go.WideShapes Go.ChangeAt Go.RowKit
variable {w : World} {base : Nat} {spare : Nat → Bool} {held : Bool} {H : Type} {enc : TypeId × Value → H} {v : Value} {d : DataW H} {p : List MemPlace} {r : Reach} {b0 : Nat}
set_option maxRecDepth 100000
theorem intsOf (k : IntKind) : ∀ xs : List (List V), (∀ x ∈ xs, ∃ n, (k.min ≤ n ∧ n ≤ k.max) ∧ x = [V.int k n]) → ∃ l, xs = ints k l
 | [], _ => ⟨[], rfl⟩
 | x :: xs, h => by
  obtain ⟨l, rfl⟩ := intsOf k xs fun y hy => h y (List.mem_cons_of_mem _ hy)
  obtain ⟨n, hn, rfl⟩ := h x (List.mem_cons_self ..)
  exact ⟨n :: l, by simp [ints]⟩
theorem zRb (hv : Value.okWide Tryz.prog w r b0 22 v) (h : DataW.Trod enc Tryz.prog w base spare held 22 v d p) : ∃ l : List Int, R M0 w (X0 w) 0 (.sl 1 false (ints .i64 l)) v ∧ True := by
 obtain ⟨xs, h1, h2⟩ := zTU 1 (by kernel_rfl) Tryz.underlying22 hv h
 simp only [isV, Tryz.underlying3] at h1
 obtain ⟨l, rfl⟩ := intsOf .i64 xs h1
 rw [show Tryz.prog.cellsOf 3 = 1 by kernel_rfl] at h2
 exact ⟨l, h2, trivial⟩
end Go.Proofs.YtjmhjieflbnehaaGreat
end
