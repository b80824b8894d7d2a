/- A part of the proof of ReplicaJoins. -/
import Derived.Test.YtjmhjieflbnehaaGreatP06
import Derived.Test.YtjmhjieflbnehaaGreatP12
import Derived.Test.YtjmhjieflbnehaaGreatP20
import Derived.Test.YtjmhjieflbnehaaGreatP23
set_option linter.unusedSimpArgs false
set_option linter.unusedVariables false
set_option maxHeartbeats 16000000
set_option maxRecDepth 100000
section
namespace Go.Proofs.YtjmhjieflbnehaaGreat
open Go.Ab Go.RowKit
theorem zPy (r : RepD) : zAD Tryz.prog 45 [.st r.row] (.bool (zC3 r)) := by
 refine sZ Tryz.func45 Tryz.ntmps45 ?_
 exact wx1 trivial trivial @zC3.eq_1
theorem zQe (r : RepD) (limit : Int) (hm : r.rec_.m.mem.length ≤ 100000) (hh : IntKind.i64.wrap (1 - r.host) = 1 - r.host) : zAD Tryz.prog 17 [.st r.row, iv limit] (zGY r limit) := by
 have hhb := zNg limit
 have hlv := zPy r
 unfold zGY
 by_cases hj : zDf limit = true ∧ zC3 r = true
 ·rw [if_pos hj]
  obtain ⟨j1, j2⟩ := hj
  rw [j1] at hhb
  rw [j2] at hlv
  simp only [if_true] at hhb
  have hnw := zL7 r.rec_.m hm
  refine sX Tryz.func17 Tryz.ntmps17 ?_;(repeat intro K hK);refine wr ?_
  refine cX (hhb) ?_;(repeat intro K hK);refine wr ?_
  refine cX (hlv) ?_;(repeat intro K hK);refine wr ?_
  refine gF00 rfl ?_;(repeat intro K hK);refine wr ?_
  refine zBe (.node 11 16 (.leaf [0, 1, 2, 3, 4, 5, 6, 7, 8, 9, 10, 11, 12, 13, 14, 15, 16, 17] [[], [0], [0, 1], [], [3], [], [5], [], [7], [7, 8], [], [10], [], [], [13], [0, 1, 2, 3, 4, 5, 6, 7, 8, 9, 10, 11, 12, 13, 14], [10, 11], [0, 1, 2, 3, 4, 5, 6, 7, 8, 9, 10, 11, 12, 13, 14, 15, 16]] [(17, ([[], [0], [0, 1], [], [3], [], [5], [], [7], [7, 8], [], [10], [], [], [13], [0, 1, 2, 3, 4, 5, 6, 7, 8, 9, 10, 11, 12, 13, 14], [10, 11]], [(1, 11), (1, 16), (4, 11), (4, 16), (6, 11), (6, 16), (9, 11), (9, 16), (12, 11), (12, 16), (14, 11), (14, 16)])), (1, ([], []))]) (.leaf [0, 1, 2, 3, 4, 5, 6, 7, 8, 9, 10, 12, 13, 14, 16, 11, 15, 17] [[], [0], [0, 1], [], [3], [], [5], [], [7], [7, 8], [], [], [], [12], [], [10, 14], [0, 1, 2, 3, 4, 5, 6, 7, 8, 9, 10, 11, 12, 13, 14, 15], [0, 1, 2, 3, 4, 5, 6, 7, 8, 9, 10, 11, 12, 13, 14, 15, 16]] [(16, ([[], [0], [0, 1], [], [3], [], [5], [], [7], [7, 8], [], [], [], [12], [], [10, 14]], [(1, 14), (1, 15), (4, 14), (4, 15), (6, 14), (6, 15), (9, 14), (9, 15), (10, 14), (11, 14), (11, 15), (13, 14), (13, 15)])), (1, ([], [])), (1, ([], []))])) (by kernel_rfl) (by kernel_rfl) ?_
  simp only [PT.run]
  repeat' (with_reducible apply And.intro)
  all_goals (simp only [zB0, List.map_cons, List.map_nil, List.getD_cons_zero, List.getD_cons_succ]; repeat (first | (with_reducible first | refine zAj fun K hK => ?_ | refine zAa ?_) | ((with_reducible first | refine zAV (by kernel_rfl) ?_ | refine zAm ?_ | refine zAi ?_ | refine zAn ?_ | refine zAl ?_ | refine zBG ?_ | refine zBK ?_ | refine zBL ?_ | refine zBM ?_ | refine zAk ?_ | refine zAh ?_); simp) | ((repeat ((fail_if_success ((with_reducible first | refine hK _ ?_ | refine hK _ _ _ _ ?_))); clear hK)); (with_reducible first | refine hK _ ?_ | refine hK _ _ _ _ ?_); clear hK) | (with_reducible refine zBV fun K hK => ?_; simp) | (with_reducible refine zBX ?_; try simp only [thn, blk]) | (with_reducible refine zBT fun K hK => ?_; simp only [List.take_succ_cons, List.take_zero]) | (with_reducible refine zBI fun K hK => ?_; simp) | (with_reducible refine zBU ?_) | (with_reducible refine zBH ?_; simp only [List.drop_succ_cons, List.drop_zero]; simp only [stS, eT, eO, List.cons_append, List.nil_append, cond_true, cond_false, Bool.and_true, Bool.and_false, Bool.true_and, Bool.false_and]) | (with_reducible refine zA4 ?_ ?_; (· (simp <;> first | omega | grind))) | refine And.intro (by first | omega | assumption | grind) ?_))
  all_goals ((refine cc (hnw) ?_))
  all_goals ((refine af1 @hh ?_); (repeat intro K hK); (refine wr ?_))
  all_goals ((refine cc (zMD r.rec_.m.count) ?_))
  all_goals ((refine af ?_); (repeat intro K hK); (refine wr ?_))
  all_goals ((refine zAE ([0, 1, 2, 3, 4] : List Nat) ([[], [], [0], [0, 1, 2], [0, 1, 2, 3]] : List (List Nat)) ([(3, ([[], [], [0]], [(1, 2)])), (1, ([], [])), (1, ([], []))] : List (Nat × List (List Nat) × List (Nat × Nat))) (by kernel_rfl) (by kernel_rfl) (by kernel_rfl) ?_); (refine af ?_); (repeat intro K hK); (refine wr ?_))
  all_goals ((refine af ?_); (repeat intro K hK); (refine wr ?_))
  all_goals ((refine zAI ?_); (refine zAB ?_); (simp [joinA, joinB, hh]))
 ·rw [if_neg hj]
  have hjb : (!zDf limit || !zC3 r) = true := by cases q1 : zDf limit <;> cases q2 : zC3 r <;> simp [q1, q2] at hj ⊢
  refine sX Tryz.func17 Tryz.ntmps17 ?_;(repeat intro K hK);refine wr ?_
  refine cXf (hhb) ?_;(repeat intro K hK);refine wr ?_
  refine cXf (hlv) ?_;(repeat intro K hK);refine wr ?_
  refine zEG @hjb rfl ?_;(repeat intro K hK);refine wr ?_
  refine zAI ?_
  refine zAB ?_
  simp
theorem zFM (l : List EntD) (hb : l.length ≤ 100000) : zAD Tryz.prog 52 [.sl 4 false (ents l), .sl 4 false (ents l)] (.bool true) := by
 have hl := zBB l
 refine sY Tryz.func52 Tryz.ntmps52 @hl ?_;intros;refine wr ?_
 refine gF01 rfl @hl ?_;intros;refine wr ?_
 obtain ⟨I, hI⟩ : ∃ I : Nat → St → Prop, I = (fun kk ss => ∃ (i : Nat) , i ≤ l.length ∧ kk = l.length - i ∧ (True) ∧ ss = ⟨26, [(5, .int .i64 i), (0, .sl 4 false (ents l)), (1, .sl 4 false (ents l))], 0, [], 0⟩) := ⟨_, rfl⟩
 refine lX I (id) (by rw [hI]; exact ⟨0, by simp, rfl, trivial, rfl⟩) ?_
 intro kk ss hIk _
 rw [hI] at hIk
 obtain ⟨i, hi, rfl, hx, rfl⟩ := hIk
 refine au1 @hl ?_;intros;refine wr ?_
 refine zAA rfl (fun h => ?_) (fun h => ?_)
 ·simp at h
  obtain ⟨x, hx, -, -, -⟩ := get_at h
  have hg := zCu hx
  refine au1 @hg ?_;intros;refine wr ?_
  refine zAE ([0, 1, 2, 3, 4, 5, 6, 7, 8] : List Nat) ([[], [], [0, 1], [0, 1, 2], [], [], [4, 5], [4, 5, 6], [0, 1, 2, 3, 4, 5, 6, 7]] : List (List Nat)) ([(8, ([[], [], [0, 1], [0, 1, 2], [], [], [4, 5], [4, 5, 6]], [])), (1, ([], []))] : List (Nat × List (List Nat) × List (Nat × Nat))) (by kernel_rfl) (by kernel_rfl) (by kernel_rfl) ?_
  refine afm1 (kX3 @hl @hg @eqCs.eq_1) ?_;intros;refine wr ?_
  refine zC9 rfl ?_;intros;refine wr ?_
  exact aX (id) (by rw [hI]; exact ⟨i + 1, by omega, rfl, trivial, rfl⟩) (zAC (n := (i : Int) + 1) (by omega) (by omega))
 ·simp at h
  refine af ?_;intros;refine wr ?_
  refine zAB ?_
  simp
theorem zQp (l : List OutD) (hb : l.length ≤ 100000) : zAD Tryz.prog 15 [.sl 4 false (outs l), .sl 4 false (outs l)] (.bool true) := by
 have hl := zB8 l
 refine sY Tryz.func15 Tryz.ntmps15 @hl ?_;intros;refine wr ?_
 refine gF01 rfl @hl ?_;intros;refine wr ?_
 obtain ⟨I, hI⟩ : ∃ I : Nat → St → Prop, I = (fun kk ss => ∃ (i : Nat) , i ≤ l.length ∧ kk = l.length - i ∧ (True) ∧ ss = ⟨26, [(5, .int .i64 i), (0, .sl 4 false (outs l)), (1, .sl 4 false (outs l))], 0, [], 0⟩) := ⟨_, rfl⟩
 refine lX I (id) (by rw [hI]; exact ⟨0, by simp, rfl, trivial, rfl⟩) ?_
 intro kk ss hIk _
 rw [hI] at hIk
 obtain ⟨i, hi, rfl, hx, rfl⟩ := hIk
 refine au1 @hl ?_;intros;refine wr ?_
 refine zAA rfl (fun h => ?_) (fun h => ?_)
 ·simp at h
  obtain ⟨x, hx, -, -, -⟩ := get_at h
  have hg := zFL hx
  refine au1 @hg ?_;intros;refine wr ?_
  refine zAE ([0, 1, 2, 3, 4, 5, 6, 7, 8] : List Nat) ([[], [], [0, 1], [0, 1, 2], [], [], [4, 5], [4, 5, 6], [0, 1, 2, 3, 4, 5, 6, 7]] : List (List Nat)) ([(8, ([[], [], [0, 1], [0, 1, 2], [], [], [4, 5], [4, 5, 6]], [])), (1, ([], []))] : List (Nat × List (List Nat) × List (Nat × Nat))) (by kernel_rfl) (by kernel_rfl) (by kernel_rfl) ?_
  refine afm1 (kX3 @hl @hg @eqCs.eq_1) ?_;intros;refine wr ?_
  refine zC9 rfl ?_;intros;refine wr ?_
  exact aX (id) (by rw [hI]; exact ⟨i + 1, by omega, rfl, trivial, rfl⟩) (zAC (n := (i : Int) + 1) (by omega) (by omega))
 ·simp at h
  refine af ?_;intros;refine wr ?_
  refine zAB ?_
  simp
theorem zPq (l : List SegD) (hb : l.length ≤ 100000) (h : ∀ g ∈ l, g.ents.length ≤ 100000) : zAD Tryz.prog 96 [.sl 3 false (segs l), .sl 3 false (segs l)] (.bool true) := by
 have hl := zCS l
 refine sY Tryz.func96 Tryz.ntmps96 @hl ?_;intros;refine wr ?_
 refine gF01 rfl @hl ?_;intros;refine wr ?_
 obtain ⟨I, hI⟩ : ∃ I : Nat → St → Prop, I = (fun kk ss => ∃ (i : Nat) , i ≤ l.length ∧ kk = l.length - i ∧ (True) ∧ ss = ⟨55, [(5, .int .i64 i), (0, .sl 3 false (segs l)), (1, .sl 3 false (segs l))], 0, [], 0⟩) := ⟨_, rfl⟩
 refine lX I (id) (by rw [hI]; exact ⟨0, by simp, rfl, trivial, rfl⟩) ?_
 intro kk ss hIk _
 rw [hI] at hIk
 obtain ⟨i, hi, rfl, hx, rfl⟩ := hIk
 refine au1 @hl ?_;intros;refine wr ?_
 refine zAA rfl (fun hh => ?_) (fun hh => ?_)
 ·simp at hh
  obtain ⟨x, hx, -, -, hm⟩ := get_at hh
  have hg := zDq hx
  refine au1 @hg ?_;intros;refine wr ?_
  refine zAE ([0, 1, 2, 3, 4, 5, 6, 7, 8, 9, 10, 11, 12, 13, 14, 15, 16, 17, 18, 19, 20, 21, 22, 23, 24, 25, 26, 27, 28, 29, 30, 31, 32, 33, 34, 35, 36, 37] : List Nat) ([[], [], [0, 1], [0, 1, 2], [0, 1, 2, 3], [], [], [5, 6], [5, 6, 7], [5, 6, 7, 8], [0, 1, 2, 3, 4, 5, 6, 7, 8, 9], [0, 1, 2, 3, 4, 5, 6, 7, 8, 9, 10], [0, 1, 2, 3, 4, 5, 6, 7, 8, 9, 10, 11], [0, 1, 2, 3, 4, 5, 6, 7, 8, 9, 10, 11], [0, 1, 2, 3, 4, 5, 6, 7, 8, 9, 10, 11, 12, 13], [0, 1, 2, 3, 4, 5, 6, 7, 8, 9, 10, 11, 12, 13, 14], [0, 1, 2, 3, 4, 5, 6, 7, 8, 9, 10, 11, 12, 13, 14, 15], [0, 1, 2, 3, 4, 5, 6, 7, 8, 9, 10, 11], [0, 1, 2, 3, 4, 5, 6, 7, 8, 9, 10, 11], [0, 1, 2, 3, 4, 5, 6, 7, 8, 9, 10, 11, 17, 18], [0, 1, 2, 3, 4, 5, 6, 7, 8, 9, 10, 11, 17, 18, 19], [0, 1, 2, 3, 4, 5, 6, 7, 8, 9, 10, 11, 17, 18, 19, 20], [0, 1, 2, 3, 4, 5, 6, 7, 8, 9, 10, 11, 12, 13, 14, 15, 16, 17, 18, 19, 20, 21], [0, 1, 2, 3, 4, 5, 6, 7, 8, 9, 10, 11, 12, 13, 14, 15, 16, 17, 18, 19, 20, 21, 22], [0, 1, 2, 3, 4, 5, 6, 7, 8, 9, 10, 11, 12, 13, 14, 15, 16, 17, 18, 19, 20, 21, 22, 23], [0, 1, 2, 3, 4, 5, 6, 7, 8, 9, 10, 11, 12, 13, 14, 15, 16, 17, 18, 19, 20, 21, 22, 23, 24], [0, 1, 2, 3, 4, 5, 6, 7, 8, 9, 10, 11, 12, 13, 14, 15, 16, 17, 18, 19, 20, 21, 22, 23, 24], [0, 1, 2, 3, 4, 5, 6, 7, 8, 9, 10, 11, 12, 13, 14, 15, 16, 17, 18, 19, 20, 21, 22, 23, 24, 25, 26], [0, 1, 2, 3, 4, 5, 6, 7, 8, 9, 10, 11, 12, 13, 14, 15, 16, 17, 18, 19, 20, 21, 22, 23, 24, 25, 26, 27], [0, 1, 2, 3, 4, 5, 6, 7, 8, 9, 10, 11, 12, 13, 14, 15, 16, 17, 18, 19, 20, 21, 22, 23, 24, 25, 26, 27, 28], [0, 1, 2, 3, 4, 5, 6, 7, 8, 9, 10, 11, 12, 13, 14, 15, 16, 17, 18, 19, 20, 21, 22, 23, 24], [0, 1, 2, 3, 4, 5, 6, 7, 8, 9, 10, 11, 12, 13, 14, 15, 16, 17, 18, 19, 20, 21, 22, 23, 24], [0, 1, 2, 3, 4, 5, 6, 7, 8, 9, 10, 11, 12, 13, 14, 15, 16, 17, 18, 19, 20, 21, 22, 23, 24, 30, 31], [0, 1, 2, 3, 4, 5, 6, 7, 8, 9, 10, 11, 12, 13, 14, 15, 16, 17, 18, 19, 20, 21, 22, 23, 24, 30, 31, 32], [0, 1, 2, 3, 4, 5, 6, 7, 8, 9, 10, 11, 12, 13, 14, 15, 16, 17, 18, 19, 20, 21, 22, 23, 24, 30, 31, 32, 33], [0, 1, 2, 3, 4, 5, 6, 7, 8, 9, 10, 11, 12, 13, 14, 15, 16, 17, 18, 19, 20, 21, 22, 23, 24, 25, 26, 27, 28, 29, 30, 31, 32, 33, 34], [0, 1, 2, 3, 4, 5, 6, 7, 8, 9, 10, 11, 12, 13, 14, 15, 16, 17, 18, 19, 20, 21, 22, 23, 24, 25, 26, 27, 28, 29, 30, 31, 32, 33, 34, 35], [0, 1, 2, 3, 4, 5, 6, 7, 8, 9, 10, 11, 12, 13, 14, 15, 16, 17, 18, 19, 20, 21, 22, 23, 24, 25, 26, 27, 28, 29, 30, 31, 32, 33, 34, 35, 36]] : List (List Nat)) ([(10, ([[], [], [0, 1], [0, 1, 2], [0, 1, 2, 3], [], [], [5, 6], [5, 6, 7], [5, 6, 7, 8]], [])), (1, ([], [])), (1, ([], [])), (10, ([[], [], [0, 1], [0, 1, 2], [0, 1, 2, 3], [], [], [5, 6], [5, 6, 7], [5, 6, 7, 8]], [])), (1, ([], [])), (1, ([], [])), (1, ([], [])), (10, ([[], [], [0, 1], [0, 1, 2], [0, 1, 2, 3], [], [], [5, 6], [5, 6, 7], [5, 6, 7, 8]], [])), (1, ([], [])), (1, ([], [])), (1, ([], []))] : List (Nat × List (List Nat) × List (Nat × Nat))) (by kernel_rfl) (by kernel_rfl) (by kernel_rfl) ?_
  refine afm1 (kX2 @hl @hg) ?_;intros;refine wr ?_
  refine cXf (zFM x.ents (h x hm)) ?_;intros;refine wr ?_
  refine zC9 rfl ?_;intros;refine wr ?_
  exact aX (id) (by rw [hI]; exact ⟨i + 1, by omega, rfl, trivial, rfl⟩) (zAC (n := (i : Int) + 1) (by omega) (by omega))
 ·simp at hh
  refine af ?_;intros;refine wr ?_
  refine zAB ?_
  simp
theorem zIb (g : GateD) (hb : g.held.length ≤ 100000) : zAD Tryz.prog 19 [.st g.row, .st g.row] (.bool true) := by
 refine sZ Tryz.func19 Tryz.ntmps19 ?_
 exact wx (qX1 (zQp g.held hb)) trivial
theorem zQN (s : SndD) (hb : s.queue.length ≤ 100000) (h : ∀ g ∈ s.queue, g.ents.length ≤ 100000) : zAD Tryz.prog 50 [.st s.row, .st s.row] (.bool true) := by
 refine sZ Tryz.func50 Tryz.ntmps50 ?_
 exact wx (qX1 (zPq s.queue hb h)) trivial
theorem zP2 (r : RplD) (h1 : r.m.mem.length ≤ 100000) (h2 : r.log.length ≤ 100000) : zAD Tryz.prog 49 [.st r.row, .st r.row] (.bool true) := by
 refine sZ Tryz.func49 Tryz.ntmps49 ?_
 exact wx (qX2 (zHO r.m h1) (zFM r.log h2)) trivial
theorem zPm (r : RecD) (h1 : r.m.mem.length ≤ 100000) (h2 : r.log.length ≤ 100000) (h3 : r.queue.length ≤ 100000) : zAD Tryz.prog 48 [.st r.row, .st r.row] (.bool true) := by
 have hl := zFa r.queue
 refine sX Tryz.func48 Tryz.ntmps48 ?_;intros;refine wr ?_
 refine cX (zHO r.m h1) ?_;intros;refine wr ?_
 refine cY (zFM r.log h2) @hl ?_;intros;refine wr ?_
 refine gF01 rfl @hl ?_;intros;refine wr ?_
 obtain ⟨I, hI⟩ : ∃ I : Nat → St → Prop, I = (fun kk ss => ∃ (i : Nat) , i ≤ r.queue.length ∧ kk = r.queue.length - i ∧ (True) ∧ ss = ⟨54, [(5, .int .i64 i), (2, .ptr 0 52 0 0), (3, .ptr 1 52 0 0)], 2, [(0, some ⟨46, 52, true, false, [r.row]⟩), (1, some ⟨46, 52, true, false, [r.row]⟩)], 0⟩) := ⟨_, rfl⟩
 refine lX I (id) (by rw [hI]; exact ⟨0, by simp, rfl, trivial, rfl⟩) ?_
 intro kk ss hIk _
 rw [hI] at hIk
 obtain ⟨i, hi, rfl, hx, rfl⟩ := hIk
 refine au1 @hl ?_;intros;refine wr ?_
 refine zAA rfl (fun hh => ?_) (fun hh => ?_)
 ·simp at hh
  obtain ⟨x, hx, -, -, hm⟩ := get_at hh
  have hg := zNp hx
  refine au1 @hg ?_;intros;refine wr ?_
  refine zAE ([0, 1, 2, 3, 4, 5, 6, 7, 8, 9, 10] : List Nat) ([[], [0], [], [0, 1, 2], [0, 1, 2, 3], [], [5], [], [5, 6, 7], [5, 6, 7, 8], [0, 1, 2, 3, 4, 5, 6, 7, 8, 9]] : List (List Nat)) ([(10, ([[], [0], [], [0, 1, 2], [0, 1, 2, 3], [], [5], [], [5, 6, 7], [5, 6, 7, 8]], [])), (1, ([], []))] : List (Nat × List (List Nat) × List (Nat × Nat))) (by kernel_rfl) (by kernel_rfl) (by kernel_rfl) ?_
  refine afm1 (kX3 @hl @hg @eqCs.eq_1) ?_;intros;refine wr ?_
  refine zC9 rfl ?_;intros;refine wr ?_
  exact aX (id) (by rw [hI]; exact ⟨i + 1, by omega, rfl, trivial, rfl⟩) (zAC (n := (i : Int) + 1) (by omega) (by omega))
 ·simp at hh
  refine af ?_;intros;refine wr ?_
  refine zAB ?_
  simp
theorem zFX (r : RepD) (h : OkP r 40000) (he : r.inn.early = []) : zAD Tryz.prog 18 [.st r.row, .st r.row] (.bool true) := by
 have c1 := zPm r.rec_ (by have := h.c.m.n; omega) (by have := h.c.l; omega) (by have := h.c.q; omega)
 have c2 := zP2 r.rpl (by have := h.p.n; omega) (by have := h.pl; omega)
 have c3 := zIb r.gate (by have := h.g; omega)
 have c4 := zQN r.out (by have := h.on; omega) (fun g hg => by have := (h.o g hg).n; omega)
 have c5 : zAD Tryz.prog 51 [.st r.inn.row, .st r.inn.row] (.bool true) := by
  have q := zLt r.inn.next r.inn.known
  rwa [← he] at q
 have c6 := zFM r.hist (by have := h.h; omega)
 refine sZ Tryz.func18 Tryz.ntmps18 ?_
 exact wx1 (qX6 (c1) (c2) (c3) (c4) (c5) (c6)) trivial @eqCs.eq_1
theorem encW_w {i : InstD} (h : validD i = true) : W32 (encW i) := by
 obtain ⟨f1, f2, f3, f4, f5, f6⟩ := zDj h
 unfold encW
 constructor <;> rcases f6 with h | h <;> omega
theorem zO4 (op a b c k z : Int) (hk : 0 ≤ k ∧ k < 24) (hz : z = 0 ∨ z = 1) : -2147483648 ≤ (zB5 op a b c k z).imm ∧ (zB5 op a b c k z).imm ≤ 2147483647 := by
 have hkz : 0 ≤ k * z ∧ k * z < 24 := by rcases hz with rfl | rfl <;> omega
 generalize hq : k * z = q at hkz
 unfold zB5
 rw [hq]
 (repeat' split) <;> simp only <;> omega
theorem zOP (n : Int) : -2147483648 ≤ (zGQ n).imm ∧ (zGQ n).imm ≤ 2147483647 :=
 zO4 _ _ _ _ _ _ (by unfold kA; omega) (by unfold zA; omega)
noncomputable def zJn (x : Int) : Int := if x.tmod 17 = 0 then x % 4294967296 else encW (zGQ x)
theorem zSt (x : Int) : W32 (zJn x) := by
 unfold zJn
 split
 ·omega
 ·exact encW_w (zF0 x)
noncomputable def zB9 (l : List Int) : List Int := l.map zJn
theorem zOO (l : List Int) : OkW (zB9 l) := by
 intro w hw
 obtain ⟨x, _, rfl⟩ := List.mem_map.1 hw
 exact zSt x
theorem zC5 (l : List Int) : (zB9 l).length = l.length := by simp [zB9]
@[simp] theorem codeL_nil : ints .u32 (zB9 []) = [] := rfl
theorem zSb (n : Int) : zAD Tryz.prog 88 [.st (zGQ n).row] (.tup [.int .u32 (encW (zGQ n)), .bool true]) := by
 have h := zDW (zGQ n) (zOP n)
 simpa [zF0 n] using h
theorem andF (x : Int) : IntKind.u32.wrap (IntKind.i64.wrap ((BitVec.ofInt 64 x &&& 4294967295#64).toNat : Int)) = x % 4294967296 := by
 have e : (BitVec.ofInt 64 x &&& 4294967295#64).toNat = (x % 4294967296).toNat := by
  rw [BitVec.toNat_and, BitVec.toNat_ofInt, show (4294967295#64).toNat = 2 ^ 32 - 1 from rfl, Nat.and_two_pow_sub_one_eq_mod]
  omega
 rw [e, zAC (by omega) (by omega), IntKind.wrap_u32]; omega
theorem zPK (l : List Int) (hb : l.length ≤ 100000) : zAD Tryz.prog 38 [.sl 1 false (ints .i64 l)] (.new 25 1 (ints .u32 (zB9 l))) := by
 have hl := zAP .i64 l
 refine sX Tryz.func38 Tryz.ntmps38 ?_;intros;refine wr ?_
 refine zAc 3 25 1 (by decide) rfl ?_
 obtain ⟨I, hI⟩ : ∃ I : Nat → St → Prop, I = (fun kk ss => ∃ (i : Nat) , i ≤ l.length ∧ kk = l.length - i ∧ (True) ∧ ss = ⟨42, [(4, .int .i64 i), (3, .own 0), (0, .sl 1 false (ints .i64 l))], 1, [(0, some ⟨25, 1, false, false, ints .u32 (zB9 (l.take i))⟩)], 0⟩) := ⟨_, rfl⟩
 refine lX I (id) (by rw [hI]; exact ⟨0, by simp, rfl, trivial, rfl⟩) ?_
 intro kk ss hIk _
 rw [hI] at hIk
 obtain ⟨i, hi, rfl, hx, rfl⟩ := hIk
 refine au1 @hl ?_;intros;refine wr ?_
 refine zAA rfl (fun h => ?_) (fun h => ?_)
 ·simp at h
  have hlt : i < l.length := by omega
  obtain ⟨x, hx⟩ : ∃ x, l[i]? = some x := ⟨_, List.getElem?_eq_getElem hlt⟩
  have hg : (ints .i64 l)[i]? = some [.int .i64 x] := zB7 hx
  have hS : zB9 (l.take (i + 1)) = zB9 (l.take i) ++ [zJn x] := by
   rw [zB9, List.take_add_one, List.map_append, hx]; rfl
  have hn : (ints .u32 (zB9 (l.take i))).length = i := by rw [zAP, zC5, List.length_take]; omega
  have hS' : ints .u32 (zB9 (l.take i)) ++ [[V.int .u32 (zJn x)]] = ints .u32 (zB9 (l.take (i + 1))) := by rw [hS]; simp [ints]
  refine au1 (kX2 @hg @hl) ?_;intros;refine wr ?_
  refine zAA rfl (fun hm => ?_) (fun hm => ?_)
  ·simp at hm
   have hw : zJn x = x % 4294967296 := if_pos hm
   rw [hw] at hS'
   have hF : IntKind.u32.wrap (iand .i64 x 4294967295) = x % 4294967296 := andF x
   refine aum1 (kX5 @hg @hl @hn @hF @maxLen.eq_1) ?_;intros;refine wr ?_
   exact aX (fun x => if x = 0 then 2 else x) (by rw [hI]; exact ⟨i + 1, by omega, rfl, trivial, rfl⟩) (kX2 (zAC (n := (i : Int) + 1) (by omega) (by omega)) @hS')
  ·simp at hm
   have hw : zJn x = encW (zGQ x) := if_neg hm
   rw [hw] at hS'
   refine au1 (kX2 @hg @hl) ?_;intros;refine wr ?_
   refine cX (zJ7 x) ?_;intros;refine wr ?_
   refine cc (zSb x) ?_
   refine aum1 (kX2 @hn @maxLen.eq_1) ?_;intros;refine wr ?_
   exact aX (fun x => if x = 0 then 9 else x) (by rw [hI]; exact ⟨i + 1, by omega, rfl, trivial, rfl⟩) (kX2 (zAC (n := (i : Int) + 1) (by omega) (by omega)) @hS')
 ·simp at h
  have ht : l.take i = l := List.take_of_length_le h
  rw [ht]
  refine au ?_;intros;refine wr ?_
  refine zAB ?_
  simp
def padW (w : List Int) : List Int := w ++ List.replicate (256 - w.length) 0
def newD (w : List Int) : MchD := { zMch with cpu := ⟨fun _ => 0, 0, fun i => if i = 0 then 1 else 0⟩, mem := padW w, dk := { zDsk with blocks := 4 } }
theorem zKT (w : List Int) (h : w.length ≤ 256) : (padW w).length = 256 := by simp [padW]; omega
theorem zTM {α : Type} (z : α) (us : List α) (n : Nat) (h : us.length ≤ n) : spl (List.replicate n z) 0 us = us ++ List.replicate (n - us.length) z := by
 apply List.ext_getElem?
 intro j
 rw [zBz _ _ _ _ (by simpa using h)]
 by_cases hj : j < us.length
 ·rw [if_pos ⟨by omega, by omega⟩, List.getElem?_append_left hj]; rfl
 ·rw [if_neg (by omega), List.getElem?_append_right (by omega), List.getElem?_replicate, List.getElem?_replicate]
  by_cases h2 : j < n
  ·rw [if_pos h2, if_pos (by omega)]
  ·rw [if_neg h2, if_neg (by omega)]
theorem zQM (w : List Int) (h : w.length ≤ 256) : spl (ints .u32 mem0) 0 (ints .u32 w) = ints .u32 (padW w) := by
 rw [← zKM, zTM _ _ _ (by rw [zAP]; exact h), zAP]
 unfold padW ints
 rw [List.map_append, List.map_replicate]
theorem zRz (w : List Int) (h : w.length ≤ 256) : zAD Tryz.prog 39 [iv 8, iv 4, .sl 1 false (ints .u32 w)] (.tup [.st (newD w).row, .bool true]) := by
 have hl := zAP .u32 w
 have hs := zQM w h
 refine sY Tryz.func39 Tryz.ntmps39 @hl ?_;intros;refine wr ?_
 refine zAA rfl (fun h1 => ?_) (fun h1 => ?_)
 ·simp at h1; exfalso; omega
 refine au1 @hl ?_;intros;refine wr ?_
 refine cX (zKL) ?_;intros;refine wr ?_
 refine cc (zM8) ?_
 have hsl : min w.length 256 = w.length := by omega
 refine au1 (kX3 @hl @zCU @hsl) ?_;intros;refine wr ?_
 refine zAI ?_
 refine zAB ?_
 have ht : (ints .u32 w).take 256 = ints .u32 w := List.take_of_length_le (by omega)
 simp [newD, hs, hsl, ht]
end Go.Proofs.YtjmhjieflbnehaaGreat
end
