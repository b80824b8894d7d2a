/- A part of the proof of ReplicaJoins. -/
import Derived.Test.YtjmhjieflbnehaaGreatP04
import Derived.Test.YtjmhjieflbnehaaGreatP06
import Derived.Test.YtjmhjieflbnehaaGreatP16
import Derived.Test.YtjmhjieflbnehaaGreatP20
import Derived.Test.YtjmhjieflbnehaaGreatP21
import Derived.Test.YtjmhjieflbnehaaGreatP22
import Derived.Lib.AppendZerosOnto
import Derived.Lib.SliceRun
import Derived.Lib.Walk
set_option linter.unusedSimpArgs false
set_option linter.unusedVariables false
set_option maxHeartbeats 16000000
set_option maxRecDepth 100000
section
namespace Go.Proofs.YtjmhjieflbnehaaGreat
open Go.Ab Go.RowKit
theorem zN3 (t : TimD) (k : Int) : zAD Tryz.prog 111 [.st t.row, uv k] (.bool (dueD t k)) := by
 refine sZ Tryz.func111 Tryz.ntmps111 ?_
 exact wx1 trivial trivial @dueD.eq_1
abbrev recC (m : MchD) (c : Int) (lg q : V) : List V := m.row ++ [uv c, lg, q]
abbrev recO (m : MchD) (c : Int) (lg q : V) : Ob := ⟨46, 52, true, false, [recC m c lg q]⟩
abbrev logO (l : List EntD) : Ob := ⟨107, 4, false, false, ents l⟩
theorem zME (r : RecD) (h1 : r.m.mem.length ≤ 100000) (h2 : r.log.length ≤ 100000) (h3 : r.queue.length ≤ 100000) : zAD Tryz.prog 67 [.st r.row] (.st (recC r.m r.clock (.new 107 4 (ents r.log)) (.sl 3 false (evs r.queue)))) := by
 refine sX Tryz.func67 Tryz.ntmps67 ?_;(repeat intro K hK);refine wr ?_
 (refine au ?_; (repeat intro K hK); refine wr ?_)
 repeat' ((first | (refine zAA rfl (fun h => ?_) (fun h => ?_) <;> (first | (simp at h; done) | (simp at h) | skip) <;> (first | (exfalso; omega) | skip)) | refine cc (zBQ (ints .u32 r.m.mem) false 1 (.inl rfl) (by rw [zAP]; exact h1)) ?_ | refine cc (zC0 (ents r.log) false 4 (.inl rfl) (by rw [zBB]; exact h2)) ?_ | refine cc (zJF (evs r.queue) false 3 (.inl rfl) (by rw [zFa]; exact h3)) ?_ | exact rt | fail) <;> (refine au ?_; (repeat intro K hK); refine wr ?_))
 refine awp_fz [2, 4] ?_
 simp
 refine zAB ?_
 simp
def LPost (nx : Nat) (ob : List (Nat × Option Ob)) (id j : Nat) (m : MchD) (c : Int) (l : List EntD) (q : V) (nx' : Nat) (ob' : List (Nat × Option Ob)) : Prop :=
 ∃ k, (k = j ∨ nx ≤ k) ∧ k < nx' ∧ nx ≤ nx' ∧ lookO ob' k = some (logO l) ∧ lookO ob' id = some (recO m c (.own k) q) ∧ ∀ i, i < nx → i ≠ id → i ≠ j → lookO ob' i = lookO ob i
theorem zEl {nx : Nat} {ob : List (Nat × Option Ob)} (id j : Nat) (m : MchD) (c : Int) (l : List EntD) (q : V) (e : EvD) (hob : lookO ob id = some (recO m c (.own j) q)) (hj : lookO ob j = some (logO l)) (hi : id < nx) (hjn : j < nx) (hne : id ≠ j) (hl : l.length ≤ 90000) :
  InlC Tryz.prog 108 [.st e.row, .ptr id 52 0 0] nx ob fun r nx' ob' => r = .tup [] ∧ LPost nx ob id j m c (l ++ [⟨m.count, e⟩]) q nx' ob' := by
 have hll := zBB l
 have n1 : ¬ j = id := fun e => hne e.symm
 have n2 : ¬ id = nx := by omega
 have n3 : ¬ j = nx := by omega
 have n4 : ¬ nx = id := by omega
 have n5 : ¬ nx = j := by omega
 have p1 : ¬ id = nx + 1 := by omega
 have p2 : ¬ nx + 1 = id := by omega
 have p3 : ¬ j = nx + 1 := by omega
 have p4 : ¬ nx + 1 = j := by omega
 have q1 : ¬ id = nx + 1 + 1 := by omega
 have q2 : ¬ nx + 1 + 1 = id := by omega
 have q3 : ¬ j = nx + 1 + 1 := by omega
 refine InlC.of Tryz.func108 rfl (by kernel_rfl) rfl ?_
 simp only [Tryz.ntmps108, St.startI, argT]
 refine au1 (kX15 @hob @hj @hne @n1 @n2 @n3 @p1 @p2 @p3 @p4 @q1 @q2 @q3 @hll @maxLen.eq_1) ?_;intros;refine wr ?_
 exact ⟨nx + 1 + 1, .inr (by omega), by omega, by omega, by simp [lookO, q2, logO, zKX, zQB], by simp [lookO], fun i h1 h2 h3 => by
  have r1 : ¬ i = nx := by omega
  have r2 : ¬ i = nx + 1 := by omega
  have r3 : ¬ i = nx + 1 + 1 := by omega
  simp [lookO, h2, h3, r1, r2, r3]⟩
theorem zEW {nx : Nat} {ob : List (Nat × Option Ob)} (id j b : Nat) (m : MchD) (c : Int) (l : List EntD) (q : V) (e : EvD) (hM : OkM m) (he : OkV e) (hob : lookO ob id = some (recO m c (.own j) q)) (hj : lookO ob j = some (logO l))
  (hb : lookO ob b = some ⟨205, 1, true, false, [[.cap 108 [] [some (id, 52)]]]⟩) (hi : id < nx) (hjn : j < nx) (hbn : b < nx) (hne : id ≠ j) (hnb : id ≠ b) (hjb : j ≠ b) (hl : l.length ≤ 90000) :
  InlC Tryz.prog 109 [.st e.row, .ptr id 52 0 0, .ptr b 1 0 0] nx ob fun r nx' ob' => r = .tup [] ∧ LPost nx ob id j (zA9 ⟨m, c, l, []⟩ e).m c (zA9 ⟨m, c, l, []⟩ e).log q nx' ob' := by
 have hA := zQE m e hM he.n he.d
 have n1 : ¬ j = id := fun e => hne e.symm
 have n2 : ¬ id = nx := by omega
 have n3 : ¬ j = nx := by omega
 have n4 : ¬ b = nx := by omega
 have n5 : ¬ b = id := fun e => hnb e.symm
 have n6 : ¬ nx = id := by omega
 have hct := (zNu hM he.n).2
 have n7 : ¬ id = nx + 1 + 50 := by omega
 have n8 : ¬ b = nx + 1 + 50 := by omega
 have n9 : ¬ j = nx + 1 + 50 := by omega
 have na : ¬ nx = nx + 1 + 50 := by omega
 unfold zA9
 simp only
 generalize zAz m e = R at *
 obtain ⟨m', ok⟩ := R
 simp only at *
 cases ok with
 | false =>
  simp only [Bool.false_eq_true, if_false]
  refine InlC.of Tryz.func109 rfl (by kernel_rfl) rfl ?_
  simp only [Tryz.ntmps109, St.startI, argT]
  refine au1 (kX4 @hob @hb @n2 @n4) ?_;intros;refine wr ?_
  refine cZ (hA) (kX4 @hob @hb @n2 @n4) (kX4 @hob @hb @n2 @n4) ?_;intros;refine wr ?_
  refine gF00 rfl ?_;intros;refine wr ?_
  exact ⟨j, .inl rfl, by omega, by omega, by simp [lookO, n3, n9, hj], by simp [lookO, n2, n7, hob], fun i h1 h2 h3 => by
   have r1 : ¬ i = nx := by omega
   have r2 : ¬ i = nx + 1 + 50 := by omega
   simp [lookO, r1, r2]⟩
 | true =>
  simp only [if_true]
  refine InlC.of Tryz.func109 rfl (by kernel_rfl) rfl ?_
  simp only [Tryz.ntmps109, St.startI, argT]
  refine au1 (kX4 @hob @hb @n2 @n4) ?_;intros;refine wr ?_
  refine cZ (hA) (kX4 @hob @hb @n2 @n4) (kX4 @hob @hb @n2 @n4) ?_;intros;refine wr ?_
  refine gT01 rfl (kX9 @hob @hb @n2 @n4 @n5 @n7 @n8 @na @n6) ?_;intros;refine wr ?_
  first | refine .inr ((zEl id j m' c l q e (by simp [lookO]) (by simp [lookO, n1, n3, n9, hj]) (by omega) (by omega) hne hl).mono fun r nx' ob' hp => ?_) | refine (zEl id j m' c l q e (by simp [lookO]) (by simp [lookO, n1, n3, n9, hj]) (by omega) (by omega) hne hl).mono fun r nx' ob' hp => ?_ | refine ((zEl id j m' c l q e (by simp [lookO]) (by simp [lookO, n1, n3, n9, hj]) (by omega) (by omega) hne hl).mono fun r nx' ob' hp => ?_).2
  simp only [aftI]
  obtain ⟨rfl, k, g0, g1, g2, g3, g4, g5⟩ := hp
  simp
  rw [hct] at g3
  refine ⟨k, by omega, g1, by omega, g3, g4, fun i h1 h2 h3 => ?_⟩
  have r1 : ¬ i = nx := by omega
  have r2 : ¬ i = nx + 1 + 50 := by omega
  rw [g5 i (by omega) h2 h3]
  simp [lookO, h2, r1, r2]
abbrev zMR : List V := [uv 0, uv 0, uv 0, uv 0, uv 0, uv 0, uv 0, uv 0, uv 0, uv 0, uv 0, uv 0, uv 0, uv 0, uv 0, uv 0, uv 0, uv 0, uv 0, uv 0, uv 0, uv 0, uv 0, uv 0, uv 0, .sl 0 true [], .str [], .bool false, uv 0, .bool false, uv 0, uv 0, uv 0, iv 0, iv 0, uv 0, uv 0, .str [], uv 0, uv 0, .bool false, uv 0, .bool false, uv 0, uv 0, uv 0, lv 0, .bool false, .bool false]
theorem zJl (m : MchD) (c : Int) (l : List EntD) (q : List EvD) (e : EvD) : zA9 ⟨m, c, l, q⟩ e = ⟨(zA9 ⟨m, c, l, []⟩ e).m, c, (zA9 ⟨m, c, l, []⟩ e).log, q⟩ := by
 unfold zA9
 simp only
 split <;> rfl
abbrev advB (m : MchD) (c : Int) (l : List EntD) (q : V) : List (Nat × Option Ob) := [(0, some (recO m c (.own 52) q)), (55, some ⟨205, 1, true, false, [[.cap 108 [] [some (0, 52)]]]⟩), (52, some (logO l)), (1, some ⟨46, 52, true, false, [zMR ++ [uv 0, .sl 0 true [], .sl 0 true []]]⟩)]
theorem zNT (r : RecD) (steps clock : Int) (k : Nat) (hR : OkR r k) (hk : k ≤ 1000) (hc : W32 clock) : zAD Tryz.prog 70 [.st r.row, iv steps, uv clock] (.tup [.st (advD r steps clock).1.row, .sl 4 false (outs (advD r steps clock).2)]) := by
 have hmem := hR.m.n
 have hll := hR.l
 have hql := hR.q
 have hcop := zME r (by omega) (by omega) (by omega)
 have hmay := zEu r.m hR.m.gv.1 (by have := hR.m.gv.2; omega)
 cases hM : mayD r.m with
 | false =>
  have hE : advD r steps clock = (r, []) := by unfold advD; rw [hM]; rfl
  rw [hM] at hmay
  rw [hE]
  refine sX Tryz.func70 Tryz.ntmps70 ?_;(repeat intro K hK);refine wr ?_
  refine cX (hcop) ?_;(repeat intro K hK);refine wr ?_
  refine cX (hmay) ?_;(repeat intro K hK);refine wr ?_
  refine gT00 rfl ?_;(repeat intro K hK);refine wr ?_
  refine zAI ?_
  refine zAB ?_
  simp
 | true =>
  rw [hM] at hmay
  refine sX Tryz.func70 Tryz.ntmps70 ?_;(repeat intro K hK);refine wr ?_
  refine cX (hcop) ?_;(repeat intro K hK);refine wr ?_
  refine cX (hmay) ?_;(repeat intro K hK);refine wr ?_
  refine gF01 rfl @zFa ?_;(repeat intro K hK);refine wr ?_
  obtain ⟨C, hC⟩ : ∃ C, C = max r.clock clock := ⟨_, rfl⟩
  have hCi : (if r.clock < clock then clock else r.clock) = C := by rw [hC]; split <;> omega
  have hr0 : OkR { r with clock := C } k := ⟨hR.m, by rw [hC]; exact max_w hR.c hc, hR.l, hR.q, hR.v, hR.t⟩
  obtain ⟨I, hI⟩ : ∃ I : Nat → St → Prop, I = (fun kk ss => ∃ (i : Nat) (m : MchD) (l : List EntD), i ≤ r.queue.length ∧ kk = r.queue.length - i ∧ ((r.queue.take i).foldl zA9 { r with clock := C } = ⟨m, C, l, r.queue⟩ ∧ OkR ⟨m, C, l, r.queue⟩ (k + i)) ∧ ss = ⟨95, [(31, .int .i64 i), (30, .int .i64 r.queue.length), (29, .sl 3 false (evs r.queue)), (9, .cap 109 [] [some (0, 52), some (55, 1)]), (3, .ptr 0 52 0 0), (1, iv steps), (8, .ptr 55 1 0 0), (6, .ptr 1 52 0 0)], 56, advB m C l (.sl 3 false (evs r.queue)), 0⟩) := ⟨_, rfl⟩
  refine lX1 I (id) (by rw [hI]; exact ⟨0, r.m, r.log, by simp, rfl, ⟨rfl, hr0⟩, rfl⟩) @hCi ?_
  intro kk ss hIk _
  rw [hI] at hIk
  obtain ⟨i, m, l, hi, rfl, hx, rfl⟩ := hIk
  obtain ⟨hx1, hx2⟩ := hx
  refine au ?_;(repeat intro K hK);refine wr ?_
  refine zAA rfl (fun hh => ?_) (fun hh => ?_)
  ·simp at hh
   obtain ⟨e, he, -, ht, hmem⟩ := get_at hh
   have hget := zNp he
   have heV := hR.v e hmem
   have hll2 := hx2.l
   simp only at hll2
   refine au1 @hget ?_;(repeat intro K hK);refine wr ?_
   first | refine .inr ((zEW 0 52 55 m C l (.sl 3 false (evs r.queue)) e hx2.m heV (by simp [lookO]) (by simp [lookO]) (by simp [lookO]) (by decide) (by decide) (by decide) (by decide) (by decide) (by decide) (by omega)).mono fun r nx' ob' hp => ?_) | refine (zEW 0 52 55 m C l (.sl 3 false (evs r.queue)) e hx2.m heV (by simp [lookO]) (by simp [lookO]) (by simp [lookO]) (by decide) (by decide) (by decide) (by decide) (by decide) (by decide) (by omega)).mono fun r nx' ob' hp => ?_ | refine ((zEW 0 52 55 m C l (.sl 3 false (evs r.queue)) e hx2.m heV (by simp [lookO]) (by simp [lookO]) (by simp [lookO]) (by decide) (by decide) (by decide) (by decide) (by decide) (by decide) (by omega)).mono fun r nx' ob' hp => ?_).2
   simp only [aftI]
   obtain ⟨rfl, j, g0, g1, g2, g3, g4, g5⟩ := hp
   have f55 := g5 55 (by decide) (by decide) (by decide)
   have f1 := g5 1 (by decide) (by decide) (by decide)
   simp [lookO] at f55 f1
   obtain ⟨h1, -, -, -⟩ := hx2.offer heV
   rw [zJl] at h1
   have hst : (r.queue.take (i + 1)).foldl zA9 { r with clock := C } = ⟨(zA9 ⟨m, C, l, []⟩ e).m, C, (zA9 ⟨m, C, l, []⟩ e).log, r.queue⟩ := by rw [ht, List.foldl_append, hx1]; exact zJl _ _ _ _ _
   generalize (zA9 ⟨m, C, l, []⟩ e).m = m' at *
   generalize (zA9 ⟨m, C, l, []⟩ e).log = l' at *
   simp
   refine au ?_;(repeat intro K hK);refine wr ?_
   exact aX (fun x => if x = 52 then j else x) (by rw [hI]; exact ⟨i + 1, m', l', by omega, rfl, ⟨hst, h1⟩, rfl⟩) (kX5 (zAC (n := (i : Int) + 1) (by omega) (by omega)) @g3 @g4 @f55 @f1)
  ·simp at hh
   rw [zFE hh] at hx1
   have hQ : zGh r clock = ⟨m, C, l, []⟩ := by unfold zGh; rw [← hC, hx1]
   have hQ2 : OkR ⟨m, C, l, []⟩ 2000 := ⟨hx2.m, hx2.c, by have := hx2.l; simp only at this ⊢; omega, by simp, by simp, hx2.t⟩
   clear hx1 hx2 hr0
   refine au ?_;(repeat intro K hK);refine wr ?_
   refine zAc 12 81 4 (by decide) rfl ?_
   have hlim : (if 4000 < if steps < 0 then 0 else steps then 4000 else if steps < 0 then 0 else steps) = (limS steps : Int) := by unfold limS; (repeat' split) <;> omega
   have hl4 := zOe steps
   obtain ⟨Iu, hIu⟩ : ∃ I : Nat → St → Prop, I = (fun kk ss => ∃ (u : Nat) (m' : MchD) (c : Int) (l' : List EntD) (o : List OutD), u ≤ limS steps ∧ kk = limS steps - u ∧ (runR (limS steps) ⟨m, C, l, []⟩ [] = runR (limS steps - u) ⟨m', c, l', []⟩ o ∧ OkR ⟨m', c, l', []⟩ (2000 + 2 * u) ∧ o.length ≤ u) ∧ ss = ⟨95, [(43, .int .i64 u), (42, .int .i64 (limS steps)), (12, .own 56), (9, .cap 109 [] [some (0, 52), some (55, 1)]), (3, .ptr 0 52 0 0), (8, .ptr 55 1 0 0), (6, .ptr 1 52 0 0)], 57, (56, some ⟨81, 4, false, false, outs o⟩) :: advB m' c l' (.sl 0 true []), 0⟩) := ⟨_, rfl⟩
   refine lX1 Iu (id) (by rw [hIu]; exact ⟨0, m, C, l, [], by simp, rfl, ⟨rfl, hQ2, by simp⟩, rfl⟩) @hlim ?_
   intro kk ss hIk _
   rw [hIu] at hIk
   obtain ⟨u, m', c, l', o, hu, rfl, hxu, rfl⟩ := hIk
   obtain ⟨hx1, hx2, hx3⟩ := hxu
   have hl2 := hx2.l
   simp only at hl2
   refine au ?_;(repeat intro K hK);refine wr ?_
   refine zAA rfl (fun hh2 => ?_) (fun hh2 => ?_)
   ·simp at hh2
    have hrun : runR (limS steps - u) ⟨m', c, l', []⟩ o = if zMe (zCR ⟨m', c, l', []⟩).m = true then (zCR ⟨m', c, l', []⟩, o) else runR (limS steps - (u + 1)) (goR (zCR ⟨m', c, l', []⟩)).1 (o ++ (goR (zCR ⟨m', c, l', []⟩)).2) := by
     rw [show limS steps - u = (limS steps - (u + 1)) + 1 by omega]; rfl
    rw [hrun] at hx1
    obtain ⟨hT, -, -, -⟩ := hx2.tick
    refine au ?_;(repeat intro K hK);refine wr ?_
    refine cX (zN3 m'.tim c) ?_;(repeat intro K hK);refine wr ?_
    clear hK; clear K; rename_i K hK
    refine zBs (α := MchD × List EntD) (fun ⟨m2, l2⟩ => (⟨95, [(43, .int .i64 u), (42, .int .i64 (limS steps)), (12, .own 56), (9, .cap 109 [] [some (0, 52), some (55, 1)]), (3, .ptr 0 52 0 0), (8, .ptr 55 1 0 0), (6, .ptr 1 52 0 0)], 57, (56, some ⟨81, 4, false, false, outs o⟩) :: advB m2 c l2 (.sl 0 true []), 0⟩ : St)) (fun ⟨m2, l2⟩ => zCR ⟨m', c, l', []⟩ = ⟨m2, c, l2, []⟩) hK (fun ⟨m2, l2⟩ hxhJ => ?_) (fun hJ => ?_)
    all_goals clear hK
    ·rw [hxhJ] at hx1 hT
     have hT2 := hT.m
     simp only at hT2 hx1
     have hl3 := hT.l
     simp only at hl3
     refine au ?_;(repeat intro K hK);refine wr ?_
     refine cX (zNd m2 hT2) ?_;(repeat intro K hK);refine wr ?_
     refine zAA rfl (fun hs => ?_) (fun hs => ?_)
     ·have hS : zMe m2 = true := by unfold zMe; simpa using hs
      rw [if_pos hS] at hx1
      have hE : advD r steps clock = (⟨m2, c, l2, []⟩, o) := by unfold advD; rw [if_pos hM, hQ]; exact hx1
      refine au ?_;(repeat intro K hK);refine wr ?_
      refine zAI ?_
      refine zAB ?_
      simp [hE]
     ·have hS : ¬ zMe m2 = true := by unfold zMe; simpa using hs
      rw [if_neg hS] at hx1
      refine au ?_;(repeat intro K hK);refine wr ?_
      refine cX (zPR m2 hT2) ?_;(repeat intro K hK);refine wr ?_
      clear hK; clear K; rename_i K hK
      refine zBs (α := List EntD) (fun l3 => (⟨95, [(43, .int .i64 u), (42, .int .i64 (limS steps)), (12, .own 56), (9, .cap 109 [] [some (0, 52), some (55, 1)]), (3, .ptr 0 52 0 0), (8, .ptr 55 1 0 0), (6, .ptr 1 52 0 0)], 57, (56, some ⟨81, 4, false, false, outs o⟩) :: advB m2 c l3 (.sl 0 true []), 0⟩ : St)) (fun l3 => clkR ⟨m2, c, l2, []⟩ = ⟨m2, c, l3, []⟩) hK (fun l3 hxhG => ?_) (fun hG => ?_)
      all_goals clear hK
      ·obtain ⟨hK2, -, -, -⟩ := hT.clk
       rw [hxhG] at hK2
       have hgo : goR ⟨m2, c, l2, []⟩ = (⟨(stepD m2 c).1, uw (c + 1), l3, []⟩, (stepD m2 c).2) := by unfold goR; rw [hxhG]
       have hG2 := hT.go
       rw [hgo] at hx1 hG2
       have hso := zIv m2 c
       have hlo := zB8 o
       refine au ?_;(repeat intro K hK);refine wr ?_
       refine cc (step_ok m2 c hT2) ?_
       generalize stepD m2 c = S at *
       have hlS := zB8 S.2
       refine au1 (kX3 @hlo @hlS @maxLen.eq_1) ?_;(repeat intro K hK);refine wr ?_
       simp only at hx1
       exact aX (fun x => if x = 56 then 107 else x) (by rw [hIu]; exact ⟨u + 1, S.1, (uw (c + 1)), l3, (o ++ S.2), by omega, rfl, ⟨hx1, hG2.up (by omega), by rw [List.length_append]; omega⟩, rfl⟩) (kX2 (zAC (n := (u : Int) + 1) (by omega) (by omega)) @zKC)
      ·refine zAA rfl (fun hr => ?_) (fun hr => ?_)
       ·have hcl : clkR ⟨m2, c, l2, []⟩ = ⟨m2, c, l2 ++ [⟨m2.count, ⟨1, c, []⟩⟩], []⟩ := by unfold clkR; rw [if_pos hr]
        refine au ?_;(repeat intro K hK);refine wr ?_
        first | refine .inr ((zEl 0 52 m2 c l2 (.sl 0 true []) ⟨1, c, []⟩ (by simp [lookO]) (by simp [lookO]) (by decide) (by decide) (by decide) (by omega)).mono fun r nx' ob' hp => ?_) | refine (zEl 0 52 m2 c l2 (.sl 0 true []) ⟨1, c, []⟩ (by simp [lookO]) (by simp [lookO]) (by decide) (by decide) (by decide) (by omega)).mono fun r nx' ob' hp => ?_ | refine ((zEl 0 52 m2 c l2 (.sl 0 true []) ⟨1, c, []⟩ (by simp [lookO]) (by simp [lookO]) (by decide) (by decide) (by decide) (by omega)).mono fun r nx' ob' hp => ?_).2
        simp only [aftI]
        obtain ⟨rfl, j, g0, g1, g2, g3, g4, g5⟩ := hp
        have f55 := g5 55 (by decide) (by decide) (by decide)
        have f1 := g5 1 (by decide) (by decide) (by decide)
        have f56 := g5 56 (by decide) (by decide) (by decide)
        simp [lookO] at f55 f1 f56
        generalize l2 ++ [⟨m2.count, ⟨1, c, []⟩⟩] = l3 at *
        simp
        refine au ?_;(repeat intro K hK);refine wr ?_
        refine hG l3 _ (fun x => if x = 52 then j else x) (hcl) ⟨rfl, ?_, ?_, ?_, by simp⟩
        ·simp [leT, ltV, lt1, ren, ren1, g3, g4, f55, f1, f56]
        ·simp [leO, lt1, ren1, g3, g4, f55, f1, f56]
        ·(simp; try omega)
       ·have hcl : clkR ⟨m2, c, l2, []⟩ = ⟨m2, c, l2, []⟩ := by unfold clkR; rw [if_neg (by simp [hr])]
        refine au ?_;(repeat intro K hK);refine wr ?_
        refine hG l2 _ (id) (hcl) ⟨rfl, ?_, ?_, ?_, by simp⟩
        ·simp [leT, ltV, lt1, ren, ren1]
        ·simp [leO, lt1, ren1]
        ·(simp; try omega)
    ·refine zAA rfl (fun hd => ?_) (fun hd => ?_)
     ·have hTd : zCR ⟨m', c, l', []⟩ = ⟨(zA9 ⟨m', c, l', []⟩ ⟨2, 0, []⟩).m, c, (zA9 ⟨m', c, l', []⟩ ⟨2, 0, []⟩).log, []⟩ := by unfold zCR; rw [if_pos hd]; exact zJl _ _ _ _ _
      refine au ?_;(repeat intro K hK);refine wr ?_
      first | refine .inr ((zEW 0 52 55 m' c l' (.sl 0 true []) ⟨2, 0, []⟩ hx2.m timV (by simp [lookO]) (by simp [lookO]) (by simp [lookO]) (by decide) (by decide) (by decide) (by decide) (by decide) (by decide) (by omega)).mono fun r nx' ob' hp => ?_) | refine (zEW 0 52 55 m' c l' (.sl 0 true []) ⟨2, 0, []⟩ hx2.m timV (by simp [lookO]) (by simp [lookO]) (by simp [lookO]) (by decide) (by decide) (by decide) (by decide) (by decide) (by decide) (by omega)).mono fun r nx' ob' hp => ?_ | refine ((zEW 0 52 55 m' c l' (.sl 0 true []) ⟨2, 0, []⟩ hx2.m timV (by simp [lookO]) (by simp [lookO]) (by simp [lookO]) (by decide) (by decide) (by decide) (by decide) (by decide) (by decide) (by omega)).mono fun r nx' ob' hp => ?_).2
      simp only [aftI]
      obtain ⟨rfl, j, g0, g1, g2, g3, g4, g5⟩ := hp
      have f55 := g5 55 (by decide) (by decide) (by decide)
      have f1 := g5 1 (by decide) (by decide) (by decide)
      have f56 := g5 56 (by decide) (by decide) (by decide)
      simp [lookO] at f55 f1 f56
      simp
      generalize (zA9 ⟨m', c, l', []⟩ ⟨2, 0, []⟩).m = m3 at *
      generalize (zA9 ⟨m', c, l', []⟩ ⟨2, 0, []⟩).log = l3 at *
      refine au ?_;(repeat intro K hK);refine wr ?_
      refine hJ ⟨m3, l3⟩ _ (fun x => if x = 52 then j else x) (hTd) ⟨rfl, ?_, ?_, ?_, by simp⟩
      ·simp [leT, ltV, lt1, ren, ren1, g3, g4, f55, f1, f56]
      ·simp [leO, lt1, ren1, g3, g4, f55, f1, f56]
      ·(simp; try omega)
     ·have hTd : zCR ⟨m', c, l', []⟩ = ⟨m', c, l', []⟩ := by unfold zCR; rw [if_neg (by simp [hd])]
      refine au ?_;(repeat intro K hK);refine wr ?_
      refine hJ ⟨m', l'⟩ _ (id) (hTd) ⟨rfl, ?_, ?_, ?_, by simp⟩
      ·simp [leT, ltV, lt1, ren, ren1]
      ·simp [leO, lt1, ren1]
      ·(simp; try omega)
   ·simp at hh2
    have hE : advD r steps clock = (⟨m', c, l', []⟩, o) := by unfold advD; rw [if_pos hM, hQ, hx1, show limS steps - u = 0 by omega]; rfl
    refine au ?_;(repeat intro K hK);refine wr ?_
    refine zAI ?_
    refine zAB ?_
    simp [hE]
structure OkG (g : SegD) : Prop where
 f : L64 g.from_
 k : L64 g.known
 e : ∀ e ∈ g.ents, OkT e
 n : g.ents.length ≤ 50000
theorem zII (g : SegD) (h : OkG g) : zAD Tryz.prog 118 [.st g.row] (.tup [.str (zCZ g).1, iv (zCZ g).2]) := by
 have hb := zOm g.ents g.known
 have he := zS3 g.ents g.from_ h.f h.e (by have := h.n; omega)
 have hxd : zCZ g = if (decide (g.known < g.from_) || zCn g.ents g.known) = true then ([], 2400) else logD g.ents g.from_ := by unfold zCZ; simp
 rw [hxd]
 refine sX Tryz.func118 Tryz.ntmps118 ?_;intros;refine wr ?_
 refine cX (hb) ?_;intros;refine wr ?_
 refine zAA rfl (fun hx => ?_) (fun hx => ?_)
 ·rw [if_pos hx]
  exact wx trivial trivial
 ·rw [if_neg (by simp [hx])]
  exact wx (qX1 (he)) trivial
theorem zSr (g : SegD) (h : OkG g) : zAD Tryz.prog 149 [.st g.row] (.bool (zOR g)) := by
 refine sZ Tryz.func149 Tryz.ntmps149 ?_
 exact wx1 (qX1 (zII g h)) trivial @zOR.eq_1
theorem zIH (g : SegD) (h : g.ents.length ≤ 100000) : zAD Tryz.prog 119 [.st g.row] (.st g.row) := by
 refine sZ Tryz.func119 Tryz.ntmps119 ?_
 exact wx (qX1 (zC0 (ents g.ents) false 4 (.inl rfl) (by rw [zBB]; exact h))) trivial
theorem zLa (s : SndD) (h : ∀ g ∈ s.queue, OkG g) : zAD Tryz.prog 97 [.st s.row] (.bool (zDN s)) := by
 have hl := zCS s.queue
 by_cases h0 : s.base < 1 ∨ 4611686018427387904 < s.base ∨ 8 < s.queue.length
 ·have hE : zDN s = false := by unfold zDN; rw [if_pos h0]
  rw [hE]
  have h1 : s.base < 1 ∨ 4611686018427387904 < s.base ∨ (8 : Int) < s.queue.length := by omega
  refine sY Tryz.func97 Tryz.ntmps97 @hl ?_;(repeat intro K hK);refine wr ?_
  have h2 : (decide (s.base < 1) || decide (4611686018427387904 < s.base) || decide ((8 : Int) < s.queue.length)) = true := by simpa [or_assoc] using h1
  refine gT10 @h2 rfl ?_;(repeat intro K hK);refine wr ?_
  refine zAB ?_
  simp [hE]
 ·obtain ⟨b1, b2, b3⟩ : ¬ s.base < 1 ∧ ¬ 4611686018427387904 < s.base ∧ ¬ (8 : Int) < s.queue.length := by omega
  cases hq : s.queue with
  | nil =>
   have hE : zDN s = decide (s.known ≤ s.tail) := by unfold zDN; rw [if_neg h0]; simp only [hq]
   have hz : (s.queue.length : Int) = 0 := by rw [hq]; rfl
   rw [hE]
   refine sZ Tryz.func97 Tryz.ntmps97 ?_
   (refine af1 (kX5 @hl @b1 @b2 @b3 @hz) ?_; (repeat intro K hK); refine wr ?_)
   repeat' ((first | (refine zAA rfl (fun h => ?_) (fun h => ?_) <;> (first | (simp [hl, b1, b2, b3, hz] at h; done) | (simp [hl, b1, b2, b3, hz] at h) | skip) <;> (first | (exfalso; omega) | skip)) | (refine zAE ([0, 1, 2, 3, 4, 5, 6, 7] : List Nat) ([[], [0], [0, 1], [0, 1, 2], [0, 1, 2, 3], [], [5], [0, 1, 2, 3, 4, 5, 6]] : List (List Nat)) ([(7, ([[], [0], [0, 1], [0, 1, 2], [0, 1, 2, 3], [], [5]], [])), (1, ([], []))] : List (Nat × List (List Nat) × List (Nat × Nat))) (by kernel_rfl) (by kernel_rfl) (by kernel_rfl) ?_) | exact rt1 (kX5 @hl @b1 @b2 @b3 @hz) | fail) <;> (refine af1 (kX5 @hl @b1 @b2 @b3 @hz) ?_; (repeat intro K hK); refine wr ?_))
  | cons g0 q =>
   have hE : zDN s = (decide (s.known ≤ g0.from_) && zCX g0.from_ s.queue && decide (s.tail = zGM g0.from_ s.queue)) := by unfold zDN; rw [if_neg h0]; simp only [hq]
   have hg0 := zDq (show s.queue[0]? = some g0 by rw [hq]; rfl)
   have hpos : 0 < s.queue.length := by rw [hq]; simp
   have hz : ¬ (s.queue.length : Int) = 0 := by omega
   have hne : ¬ s.queue = [] := by rw [hq]; simp
   clear hq
   rw [hE]
   refine sY Tryz.func97 Tryz.ntmps97 (kX4 @hl @b1 @b2 @b3) ?_;(repeat intro K hK);refine wr ?_
   refine gF01 rfl @hl ?_;(repeat intro K hK);refine wr ?_
   refine gF11 @hne rfl (kX4 @hl @hpos @hg0 (getE hg0)) ?_;(repeat intro K hK);refine wr ?_
   refine zAE ([0, 1, 2, 3, 4, 5, 6, 7] : List Nat) ([[], [0], [0, 1], [0, 1, 2], [0, 1, 2, 3], [], [5], [0, 1, 2, 3, 4, 5, 6]] : List (List Nat)) ([(7, ([[], [0], [0, 1], [0, 1, 2], [0, 1, 2, 3], [], [5]], [])), (1, ([], []))] : List (Nat × List (List Nat) × List (Nat × Nat))) (by kernel_rfl) (by kernel_rfl) (by kernel_rfl) ?_
   refine af1 (kX4 @hl @hpos @hg0 (getE hg0)) ?_;(repeat intro K hK);refine wr ?_
   by_cases hk : g0.from_ < s.known
   ·have hn : ¬ s.known ≤ g0.from_ := by omega
    refine zEG @hk rfl ?_;(repeat intro K hK);refine wr ?_
    refine zAB ?_
    simp [hn]
   ·have hn : s.known ≤ g0.from_ := by omega
    refine zEn @hk rfl (kX4 @hl @hpos @hg0 (getE hg0)) ?_;(repeat intro K hK);refine wr ?_
    obtain ⟨I, hI⟩ : ∃ I : Nat → St → Prop, I = (fun kk ss => ∃ (i : Nat) (a : Int), i ≤ s.queue.length ∧ kk = s.queue.length - i ∧ (zCX g0.from_ s.queue = zCX a (s.queue.drop i) ∧ zGM g0.from_ s.queue = zGM a (s.queue.drop i)) ∧ ss = ⟨65, [(45, .int .i64 i), (44, .int .i64 s.queue.length), (43, .sl 3 false (segs s.queue)), (1, .ptr 0 4 0 0), (3, lv a)], 1, [(0, some ⟨54, 4, true, false, [s.row]⟩)], 0⟩) := ⟨_, rfl⟩
    refine lX I (id) (by rw [hI]; exact ⟨0, g0.from_, by simp, rfl, ⟨rfl, rfl⟩, rfl⟩) ?_
    intro kk ss hIk _
    rw [hI] at hIk
    obtain ⟨i, a, hi, rfl, hx, rfl⟩ := hIk
    obtain ⟨hx1, hx2⟩ := hx
    refine af1 @hl ?_;(repeat intro K hK);refine wr ?_
    refine zAA rfl (fun hh => ?_) (fun hh => ?_)
    ·simp at hh
     obtain ⟨g, hg, hd, -, hmem⟩ := get_at hh
     have hget := zDq hg
     rw [hd, zCX] at hx1
     rw [hd, zGM] at hx2
     refine af1 @hget ?_;(repeat intro K hK);refine wr ?_
     refine cXf (zSr g (h g hmem)) ?_;(repeat intro K hK);refine wr ?_
     refine zAA rfl (fun hb => ?_) (fun hb => ?_)
     ·have hF : zCX g0.from_ s.queue = false := by
       rw [hx1]
       cases hs : zOR g <;> simp [hs] at hb ⊢
       intro z; exact absurd z hb
      refine af ?_;(repeat intro K hK);refine wr ?_
      refine zAB ?_
      simp [hF]
     ·have hF : zCX g0.from_ s.queue = zCX g.known (s.queue.drop (i + 1)) := by
       rw [hx1]
       cases hs : zOR g <;> simp [hs] at hb ⊢
       simp [hb]
      refine af ?_;(repeat intro K hK);refine wr ?_
      exact aX (id) (by rw [hI]; exact ⟨i + 1, g.known, by omega, rfl, ⟨hF, hx2⟩, rfl⟩) (zAC (n := (i : Int) + 1) (by omega) (by omega))
    ·simp at hh
     rw [zCT hh, zCX] at hx1
     rw [zCT hh, zGM] at hx2
     refine af ?_;(repeat intro K hK);refine wr ?_
     refine zAB ?_
     simp [hx1, hx2, hn]
     rfl
theorem zLX (s : SndD) (h : ∀ g ∈ s.queue, g.ents.length ≤ 100000) (hn : s.queue.length ≤ 1000) : zAD Tryz.prog 117 [.st s.row] (.st [lv s.base, lv s.tail, lv s.known, .new 140 3 (segs s.queue)]) := by
 have hl := zCS s.queue
 have hw : IntKind.i64.wrap ((s.queue.length : Int) + 1) = s.queue.length + 1 := zAC (by omega) (by omega)
 refine sZ Tryz.func117 Tryz.ntmps117 ?_
 refine aum1 (kX3 @hl @hw @maxLen.eq_1) ?_;intros;refine wr ?_
 obtain ⟨I, hI⟩ : ∃ I : Nat → St → Prop, I = (fun kk ss => ∃ (i : Nat) , i ≤ s.queue.length ∧ kk = s.queue.length - i ∧ (True) ∧ ss = ⟨27, [(14, .int .i64 i), (13, .int .i64 s.queue.length), (12, .sl 3 false (segs s.queue)), (1, .ptr 0 4 0 0), (2, .ptr 1 4 0 0), (3, .own 2)], 3, [(0, some ⟨54, 4, true, false, [s.row]⟩), (1, some ⟨54, 4, true, false, [[lv 0, lv 0, lv 0, .sl 0 true []]]⟩), (2, some ⟨140, 3, false, false, segs (s.queue.take i)⟩)], 0⟩) := ⟨_, rfl⟩
 refine lX I (id) (by rw [hI]; exact ⟨0, by simp, rfl, trivial, rfl⟩) ?_
 intro kk ss hIk _
 rw [hI] at hIk
 obtain ⟨i, hi, rfl, hx, rfl⟩ := hIk
 refine au1 @hl ?_;intros;refine wr ?_
 refine zAA rfl (fun hh => ?_) (fun hh => ?_)
 ·simp at hh
  obtain ⟨g, hg, -, ht, hmem⟩ := get_at hh
  have hget := zDq hg
  have hlt : (segs (s.queue.take i)).length = i := by rw [zCS, List.length_take]; omega
  refine au1 @hget ?_;intros;refine wr ?_
  refine cc (zIH g (h g hmem)) ?_
  have hts : segs (s.queue.take (i + 1)) = segs (s.queue.take i) ++ [[lv g.from_, lv g.known, zB6 g.ents]] := by rw [ht, zCA]; rfl
  refine aum1 (kX2 @hlt @maxLen.eq_1) ?_;intros;refine wr ?_
  exact aX (fun x => if x = 2 then 8 else x) (by rw [hI]; exact ⟨i + 1, by omega, rfl, trivial, rfl⟩) (kX2 (zAC (n := (i : Int) + 1) (by omega) (by omega)) @hts)
 ·simp at hh
  rw [zFE hh]
  refine au ?_;intros;refine wr ?_
  refine zAB ?_
  simp
theorem zIh {C D E G : Prop} (c : C) (d : D) (e : E) (t : C → D → E → G := by intro c d e; (refine au1 e ?_; (repeat intro K hK); refine wr ?_); repeat' ((first | (refine zAA rfl (fun h => ?_) (fun h => ?_) <;> (first | (simp [e] at h; done) | (simp [e] at h) | skip) <;> (first | (exfalso; omega) | skip)) | ((first | refine .inl ⟨1, _, d.1, ?_⟩ | refine ⟨1, _, d.1, ?_⟩); simp [aftC, aftE, noX, noXc, noX1, e]; first | refine And.intro zAL ?_ | skip) | ((first | refine .inl ⟨1, _, d.2.1, ?_⟩ | refine ⟨1, _, d.2.1, ?_⟩); simp [aftC, aftE, noX, noXc, noX1, e]; first | refine And.intro zAL ?_ | skip) | refine cc1 c.1 e ?_ | refine cc1 c.2.1 e ?_ | refine cc1 c.2.2.1 e ?_ | refine cc1 c.2.2.2.1 e ?_ | refine cc1 c.2.2.2.2.1 e ?_ | refine cc1 c.2.2.2.2.2.1 e ?_ | refine zAK 3 ?_ | refine zAF fun K hK => ?_ | exact rt1 e | fail) <;> (refine au1 e ?_; (repeat intro K hK); refine wr ?_))) : G := t c d e
theorem infoE : ∃ (j : TypeInfo) (z : Value), Tryz.prog.info? 107 = some j ∧ j.size = 4 ∧ j.bytes = 40 ∧ j.zero = some z ∧ z.cells.size = 4 := by
 have h : (Tryz.prog.info? 107).map (fun j => (j.size, j.bytes, j.zero.map fun z => z.cells.size)) = some (4, 40, some 4) := by kernel_rfl
 obtain ⟨j, hj, e⟩ := Option.map_eq_some_iff.1 h
 simp only [Prod.mk.injEq] at e
 obtain ⟨z, hz, e3⟩ := Option.map_eq_some_iff.1 e.2.2
 exact ⟨j, z, hj, e.1, e.2.1, hz, e3⟩
theorem zQm (n : Nat) (h0 : 0 < n) (hn : n ≤ 100000) (w : World) : Calls Tryz.prog 116 #[.slice none 0 0, .int .i64 n] w fun e w' =>
  ∃ (cap : Nat) (cur : Array Value), e = .returned (.slice (some ⟨w.heap.size, 0, none⟩) 0 cap) ∧ cap ≤ maxLen ∧ cur.size = cap * 4 ∧ w' = w.drew.alloc (.cells cur 107) := by
 obtain ⟨j, z, hj, hs, hb, hz, hzs⟩ := infoE
 have h1 : ¬ ((n : Int) < 0) := by omega
 have h2 : wrap64 ((0 : Int) - (0 : Int)) = 0 := by unfold wrap64; omega
 have h3 : wrap64 ((n : Int) - 0) = (n : Int) := by unfold wrap64; omega
 have h4 : (n : Int) > 0 := by omega
 have hrz : ∀ ty, (Builtin.append_ #[43, 3] ty #[.slice none 0 0, .int .i64 (n : Int)]).run Tryz.prog w =
   .ok (.slice (some ⟨w.heap.size, 0, none⟩) n (grownCap w n 0 107)) (w.drew.alloc (.cells (Builtin.zeroCells z.cells n ++ Builtin.zeroCells z.cells (grownCap w n 0 107 - n)) 107)) := fun ty => by
  have h := Lib.run_append_grow_zeros w 43 3 ty 107 j z .i64 .i64 Tryz.underlying43 Tryz.underlying3 hj hz none 0 0 [] (run_firstCells_none w.drew j.size 0 0 0) n h0 (by omega) (by omega) (by omega)
   (by rw [hb]; omega) (by rw [hb]; exact growslice_fits (by omega) (by omega))
  simpa using h
 clear hz
 generalize z.cells = zc at *
 have hGn : n ≤ grownCap w n 0 107 := grownCap_ge w _ _ _
 have hG63 := grownCap_le_maxLen w n 0 107 (by unfold maxLen; omega)
 generalize grownCap w n 0 107 = G at *
 have hG' : G ≤ 9223372036854775807 := by unfold maxLen at hG63; omega
 go_enter Tryz.func116, Tryz.ntmps116
 go_wp2_with (at_builtin; refine Lib.wpList_append_run _ rfl _ _ _ _ rfl _ _ rfl rfl _ _ (hrz _) ?_)
 all_goals (go_ret; exact ⟨G, rfl, hG63, _, by simp only [Array.size_append, size_zeroCells, hzs]; omega, rfl⟩)
theorem zSS (n : Nat) (h0 : 0 < n) (hn : n ≤ 100000) : zAD Tryz.prog 116 [.sl 0 true [], iv n] (.new 107 4 []) := by
 refine ⟨by kernel_rfl, fun w Xa vals M hXa hs hrr => ?_⟩
 obtain ⟨A, c', f, hu, _, _, _, hnil, _⟩ := R_sl (hrr 0 _ rfl)
 obtain ⟨rfl, rfl⟩ := hnil rfl
 have hv1 := zBw (hrr 1 _ rfl)
 have hv : vals = #[.slice none 0 0, .int .i64 (n : Int)] := by
  apply Array.ext
  ·simpa using hs
  ·intro i hi hi'
   have : i = 0 ∨ i = 1 := by simp at hi'; omega
   rcases this with rfl | rfl
   ·simpa [Array.getD, hi] using hu
   ·simpa [Array.getD, hi] using hv1
 rw [hv]
 refine (zQm n h0 hn w).mono ?_
 rintro e w' ⟨cap, cur, rfl, hcap, hcur, rfl⟩
 have hB : Below w.heap.size w (w.drew.alloc (.cells cur 107)) := ⟨rfl, rfl, rfl, by simp, fun k hk => by
  rw [Below.heap_alloc _ _ _ (by simpa using hk)]; rfl⟩
 have hnew : (w.drew.alloc (.cells cur 107)).heap[w.heap.size]? = some (.cells cur 107 (0, 0)) := World.alloc_heap_new w.drew _
 refine ⟨_, rfl, hB, fun M n' hM => ?_⟩
 have hM0 := hM 0 (by simp [V.fcells, V.cells])
 simp [zFb, Value.cells] at hM0
 refine ⟨?_, ?_, ?_⟩
 ·exact .own _ _ _ _ _ (by simp [V.fcells, V.cells]) hM0
 ·intro id o ho
  simp [V.fcells, V.cells, obsL, lookO] at ho
  obtain ⟨rfl, rfl⟩ := ho
  refine ⟨fun _ => by decide, by simp, [], ?_, by simp, fun j u h => by simp at h⟩
  rw [hM0]
  exact ⟨by simp, .inr (.inl ⟨w.heap.size, cap, cur, rfl, Nat.le_refl _, .plain hnew, Nat.zero_le _, hcap, hcur, by simp⟩)⟩
 ·intro id id' o o' g ho ho' hne
  simp [V.fcells, V.cells, obsL, lookO] at ho ho'
  omega
theorem zOC (a b : List EntD) (ha : a.length ≤ 50000) (hb : b.length ≤ 50000) : zAD Tryz.prog 74 [.sl 1 false [[zB6 a], [zB6 b]]] (zB6 (a ++ b)) := by
 rcases Nat.eq_zero_or_pos (a.length + b.length) with hz | hpos
 ·obtain rfl : a = [] := List.length_eq_zero_iff.1 (by omega)
  obtain rfl : b = [] := List.length_eq_zero_iff.1 (by omega)
  have hg0 : zAD Tryz.prog 116 [.sl 0 true [], iv 0] (.sl 0 true []) := by
   refine sZ Tryz.func116 Tryz.ntmps116 ?_
   exact wx1 trivial trivial @i64c
  refine sX Tryz.func74 Tryz.ntmps74 ?_;intros;refine wr ?_
  exact zIh (qX1 (hg0)) trivial @i64c
 ·have la := zBB a
  have lb := zBB b
  have hab := zKX a b
  have hg := zSS (a.length + b.length) hpos (by omega)
  push_cast at hg
  have w1 : IntKind.i64.wrap (a.length : Int) = a.length := zAC (by omega) (by omega)
  have w2 : IntKind.i64.wrap ((a.length : Int) + b.length) = a.length + b.length := zAC (by omega) (by omega)
  have n1 : ¬ (a.length : Int) < 0 := by omega
  have n2 : ¬ (a.length : Int) + b.length < 0 := by omega
  refine sX Tryz.func74 Tryz.ntmps74 ?_;intros;refine wr ?_
  exact zIh (qX1 (hg)) trivial (kX9 @la @lb @w1 @w2 @n1 @n2 @maxLen.eq_1 @hab @i64c)
theorem zOh {C D E G : Prop} (c : C) (d : D) (e : E) (t : C → D → E → G := by intro c d e; (refine af1 e ?_; (repeat intro K hK); refine wr ?_); repeat' ((first | (refine zAA rfl (fun h => ?_) (fun h => ?_) <;> (first | (simp [e] at h; done) | (simp [e] at h) | skip) <;> (first | (exfalso; omega) | skip)) | ((first | refine .inl ⟨1, _, d.1, ?_⟩ | refine ⟨1, _, d.1, ?_⟩); simp [aftC, aftE, noX, noXc, noX1, e]; first | refine And.intro zAL ?_ | skip) | ((first | refine .inl ⟨1, _, d.2.1, ?_⟩ | refine ⟨1, _, d.2.1, ?_⟩); simp [aftC, aftE, noX, noXc, noX1, e]; first | refine And.intro zAL ?_ | skip) | refine cc1 c.1 e ?_ | refine cc1 c.2.1 e ?_ | refine cc1 c.2.2.1 e ?_ | refine cc1 c.2.2.2.1 e ?_ | refine cc1 c.2.2.2.2.1 e ?_ | refine cc1 c.2.2.2.2.2.1 e ?_ | (refine zAE ([0, 1, 2, 3, 4, 5, 6, 7] : List Nat) ([[], [0], [], [2], [2, 3], [0, 1, 2, 3, 4], [0, 1, 2, 3, 4, 5], [0, 1, 2, 3, 4, 5, 6]] : List (List Nat)) ([(5, ([[], [0], [], [2], [2, 3]], [(1, 3), (1, 4)])), (1, ([], [])), (1, ([], [])), (1, ([], []))] : List (Nat × List (List Nat) × List (Nat × Nat))) (by kernel_rfl) (by kernel_rfl) (by kernel_rfl) ?_) | exact rt1 e | fail) <;> (refine af1 e ?_; (repeat intro K hK); refine wr ?_))) : G := t c d e
theorem cut_ok (r : RecD) (h1 : r.m.mem.length ≤ 100000) (h2 : r.log.length ≤ 100000) (h3 : r.queue.length ≤ 100000) : zAD Tryz.prog 73 [.st r.row] (.tup [.st (cutD r).row, zB6 r.log, lv r.m.count]) := by
 refine sZ Tryz.func73 Tryz.ntmps73 ?_
 (refine af1 @cutD.eq_1 ?_; (repeat intro K hK); refine wr ?_)
 repeat' ((first | (refine zAA rfl (fun h => ?_) (fun h => ?_) <;> (first | (simp [cutD] at h; done) | (simp [cutD] at h) | skip) <;> (first | (exfalso; omega) | skip)) | refine cc1 (zEC r h1 h2 h3) @cutD.eq_1 ?_ | (refine zAE ([0, 1, 2, 3, 4, 5, 6, 7] : List Nat) ([[], [], [], [2], [2, 3], [0], [0, 1, 5], [0, 1, 2, 3, 4, 5, 6]] : List (List Nat)) ([(7, ([[], [], [], [2], [2, 3], [0], [0, 1, 5]], [(4, 5)])), (1, ([], []))] : List (Nat × List (List Nat) × List (Nat × Nat))) (by kernel_rfl) (by kernel_rfl) (by kernel_rfl) ?_) | exact rt1 @cutD.eq_1 | fail) <;> (refine af1 @cutD.eq_1 ?_; (repeat intro K hK); refine wr ?_))
theorem zSj (s : SndD) (g : SegD) (hs : ∀ g ∈ s.queue, OkG g) (hg : OkG g) (hn : s.queue.length ≤ 1000) : zAD Tryz.prog 75 [.st s.row, .st g.row] (.tup [.st (zDi s g).1.row, iv (zDi s g).2]) := by
 have hc := zLX s (fun g h => by have := (hs g h).n; omega) hn
 have hse := zLa s hs
 have hE := zII g hg
 have hcg := zIH g (by have := hg.n; omega)
 have hl := zCS s.queue
 by_cases h1 : g.from_ ≠ s.tail ∨ zDN s = false
 ·have hR : zDi s g = (s, 2400) := by unfold zDi; rw [if_pos h1]
  have h1b : (g.from_ != s.tail || !zDN s) = true := by rcases h1 with q | q <;> simp [q]
  rw [hR]
  refine sX Tryz.func75 Tryz.ntmps75 ?_;(repeat intro K hK);refine wr ?_
  refine cX (hc) ?_;(repeat intro K hK);refine wr ?_
  refine cX (hse) ?_;(repeat intro K hK);refine wr ?_
  refine gT10 @h1b rfl ?_;(repeat intro K hK);refine wr ?_
  refine zAI ?_
  refine zAB ?_
  simp
 ·have h2 : g.from_ = s.tail := by simpa using fun z => h1 (.inl z)
  have h3 : zDN s = true := by simpa using fun z => h1 (.inr z)
  rw [h3] at hse
  refine sX Tryz.func75 Tryz.ntmps75 ?_;(repeat intro K hK);refine wr ?_
  refine cX (hc) ?_;(repeat intro K hK);refine wr ?_
  refine cX (hse) ?_;(repeat intro K hK);refine wr ?_
  refine cF1 @h2 rfl ?_
  by_cases h4 : (zCZ g).2 ≠ 0
  ·have hR : zDi s g = (s, (zCZ g).2) := by unfold zDi; rw [if_neg h1, if_pos h4]
   rw [hR]
   exact zOh (qX1 (hE)) trivial @h4
  ·have h4' : (zCZ g).2 = 0 := by simpa using h4
   rw [h4'] at hE
   by_cases h5 : 8 ≤ s.queue.length
   ·have hR : zDi s g = (s, 2401) := by unfold zDi; rw [if_neg h1, if_neg h4, if_pos h5]
    rw [hR]
    have h6 : (8 : Int) ≤ s.queue.length := by omega
    exact zOh (qX1 (hE)) trivial (kX2 @h6 @hl)
   ·have hR : zDi s g = ({ s with queue := s.queue ++ [g], tail := g.known }, 0) := by unfold zDi; rw [if_neg h1, if_neg h4, if_neg h5]
    rw [hR]
    have h6 : ¬ (8 : Int) ≤ s.queue.length := by omega
    (refine af1 (kX5 @h6 @hl @zCA @zBx @maxLen.eq_1) ?_; (repeat intro K hK); refine wr ?_)
    repeat' ((first | (refine zAA rfl (fun h => ?_) (fun h => ?_) <;> (first | (simp [h6, hl, zCA, zBx, maxLen] at h; done) | (simp [h6, hl, zCA, zBx, maxLen] at h) | skip) <;> (first | (exfalso; omega) | skip)) | refine cc1 (hE) (kX5 @h6 @hl @zCA @zBx @maxLen.eq_1) ?_ | refine cc1 (hcg) (kX5 @h6 @hl @zCA @zBx @maxLen.eq_1) ?_ | (refine zAE ([0, 1, 2, 3, 4, 5, 6, 7] : List Nat) ([[], [0], [], [2], [2, 3], [0, 1, 2, 3, 4], [0, 1, 2, 3, 4, 5], [0, 1, 2, 3, 4, 5, 6]] : List (List Nat)) ([(5, ([[], [0], [], [2], [2, 3]], [(1, 3), (1, 4)])), (1, ([], [])), (1, ([], [])), (1, ([], []))] : List (Nat × List (List Nat) × List (Nat × Nat))) (by kernel_rfl) (by kernel_rfl) (by kernel_rfl) ?_) | exact rt1 (kX5 @h6 @hl @zCA @zBx @maxLen.eq_1) | fail) <;> (refine af1 (kX5 @h6 @hl @zCA @zBx @maxLen.eq_1) ?_; (repeat intro K hK); refine wr ?_))
    refine zAI ?_
    refine zAB ?_
    simp [hR, zCA, zBx]
theorem zEf (r : RepD) : zAD Tryz.prog 20 [.st r.row] (.bool (zC3 r)) := by
 refine sZ Tryz.func20 Tryz.ntmps20 ?_
 exact wx1 trivial trivial @zC3.eq_1
theorem zJ9 (r : RepD) : zAD Tryz.prog 72 [.st r.row] (.bool (zL5 r)) := by
 refine sZ Tryz.func72 Tryz.ntmps72 ?_
 exact wx1 (qX1 (zEf r)) trivial @zL5.eq_1
theorem zBc (m : MchD) (h1 : m.mem.length ≤ 100000) : zAD Tryz.prog 34 [.st m.row] (.st m.row) := by
 refine sZ Tryz.func34 Tryz.ntmps34 ?_
 exact wx (qX1 (zBQ (ints .u32 m.mem) false 1 (.inl rfl) (by rw [zAP]; exact h1))) trivial
theorem zFN (g : SegD) (h : g.ents.length ≤ 100000) : zAD Tryz.prog 65 [.st g.row] (.st g.row) := by
 refine sZ Tryz.func65 Tryz.ntmps65 ?_
 exact wx (qX1 (zC0 (ents g.ents) false 4 (.inl rfl) (by rw [zBB]; exact h))) trivial
theorem zK5 {α : Type} {L : List α} {i : Nat} {x : α} (h : L[i]? = some x) : L.set i x = L := by
 apply List.ext_getElem?
 intro j
 rw [List.getElem?_set]
 split
 ·rename_i e; subst e
  split
  ·exact h.symm
  ·rw [List.getElem?_eq_none (by omega)]
 ·rfl
structure OkP (r : RepD) (k : Nat) : Prop where
 c : OkR r.rec_ k
 p : OkM r.rpl.m
 pl : r.rpl.log.length ≤ 50000
 g : r.gate.held.length ≤ 40000
 o : ∀ g ∈ r.out.queue, OkG g
 on : r.out.queue.length ≤ 100
 i : ∀ e ∈ r.inn.early, OkG e.2
 en : r.inn.early.length ≤ 100
 h : r.hist.length ≤ 40000
abbrev repC (r : RepD) (a b c d e f g : V) : List V := [iv r.host, iv r.role, lv r.gen] ++ (r.rec_.m.row ++ ([uv r.rec_.clock, a, b] ++ (r.rpl.m.row ++ [c, lv r.rpl.known, uv r.rpl.clock, d, lv r.gate.acked, lv r.gate.bytes, lv r.mark, lv r.out.base, lv r.out.tail, lv r.out.known, e, lv r.inn.next, lv r.inn.known, f, iv r.watch.limit, iv r.watch.silent, lv r.watch.seen, lv r.beats, iv r.cmd, lv r.cmdAt, g])))
abbrev zRR : List V := [iv 0, iv 0, lv 0] ++ (zMR ++ ([uv 0, .sl 0 true [], .sl 0 true []] ++ (zMR ++ [.sl 0 true [], lv 0, uv 0, .sl 0 true [], lv 0, lv 0, lv 0, lv 0, lv 0, lv 0, .sl 0 true [], lv 0, lv 0, .sl 0 true [], iv 0, iv 0, lv 0, lv 0, iv 0, lv 0, .sl 0 true []])))
abbrev repO (cs : List V) : Ob := ⟨61, 125, true, false, [cs]⟩
theorem zHH (r : RepD) (h : OkP r 40000) : zAD Tryz.prog 28 [.st r.row] (.st r.row) := by
 have c1 := zBc r.rec_.m (by have := h.c.m.n; omega)
 have c2 := zBc r.rpl.m (by have := h.p.n; omega)
 have c3 := zC0 (ents r.rec_.log) false 4 (.inl rfl) (by rw [zBB]; have := h.c.l; omega)
 have c4 := zJF (evs r.rec_.queue) false 3 (.inl rfl) (by rw [zFa]; have := h.c.q; omega)
 have c5 := zC0 (ents r.rpl.log) false 4 (.inl rfl) (by rw [zBB]; have := h.pl; omega)
 have c6 := zGs (outs r.gate.held) false 4 (.inl rfl) (by rw [zB8]; have := h.g; omega)
 have c7 := zN6 (segs r.out.queue) false 3 (.inl rfl) (by rw [zCS]; have := h.on; omega)
 have c8 := zNc (zGP r.inn.early) false 4 (.inl rfl) (by rw [zIx]; have := h.en; omega)
 have c9 := zC0 (ents r.hist) false 4 (.inl rfl) (by rw [zBB]; have := h.h; omega)
 have hl1 := zCS r.out.queue
 have hl2 := zIx r.inn.early
 have hon := h.on
 have hen := h.en
 refine sX Tryz.func28 Tryz.ntmps28 ?_;intros;refine wr ?_
 refine cX (c1) ?_;intros;refine wr ?_
 refine cX (c3) ?_;intros;refine wr ?_
 refine cX (c4) ?_;intros;refine wr ?_
 refine cX (c2) ?_;intros;refine wr ?_
 refine cX (c5) ?_;intros;refine wr ?_
 refine cX (c6) ?_;intros;refine wr ?_
 refine cY (c7) @hl1 ?_;intros;refine wr ?_
 obtain ⟨I, hI⟩ : ∃ I : Nat → St → Prop, I = (fun kk ss => ∃ (i : Nat) , i ≤ r.out.queue.length ∧ kk = r.out.queue.length - i ∧ (True) ∧ ss = ⟨96, [(53, .int .i64 i), (52, .int .i64 r.out.queue.length), (51, .own 104), (1, .ptr 0 125 0 0), (2, .ptr 1 125 0 0)], 105, [(0, some (repO (repC r (.own 51) (.own 52) (.own 102) (.own 103) (.own 104) (.sl 4 false (zGP r.inn.early)) (zB6 r.hist)))), (1, some (repO zRR)), (51, some (logO r.rec_.log)), (52, some ⟨72, 3, false, false, evs r.rec_.queue⟩), (102, some (logO r.rpl.log)), (103, some ⟨81, 4, false, false, outs r.gate.held⟩), (104, some ⟨140, 3, false, false, segs r.out.queue⟩)], 0⟩) := ⟨_, rfl⟩
 refine lX I (id) (by rw [hI]; exact ⟨0, by simp, rfl, trivial, rfl⟩) ?_
 intro kk ss hIk _
 rw [hI] at hIk
 obtain ⟨i, hi, rfl, hx, rfl⟩ := hIk
 refine au1 @hl1 ?_;intros;refine wr ?_
 refine zAA rfl (fun hh => ?_) (fun hh => ?_)
 ·simp at hh
  obtain ⟨g, hg, -, -, hmem⟩ := get_at hh
  have hget := zDq hg
  have hset := zK5 hget
  have cg := zFN g (by have := (h.o g hmem).n; omega)
  refine au1 @hget ?_;intros;refine wr ?_
  refine zAE ([0, 1, 2, 3, 4, 5, 6, 7] : List Nat) ([[], [0], [0, 1], [], [], [4], [0, 1, 2, 3, 4, 5], [0, 1, 2, 3, 4, 5, 6]] : List (List Nat)) ([(6, ([[], [0], [0, 1], [], [], [4]], [(2, 5)])), (1, ([], [])), (1, ([], []))] : List (Nat × List (List Nat) × List (Nat × Nat))) (by kernel_rfl) (by kernel_rfl) (by kernel_rfl) ?_
  refine af ?_;intros;refine wr ?_
  refine cYf (cg) @hl1 ?_;intros;refine wr ?_
  exact aX (id) (by rw [hI]; exact ⟨i + 1, by omega, rfl, trivial, rfl⟩) (kX3 (zAC (n := (i : Int) + 1) (by omega) (by omega)) @hget @hset)
 ·simp at hh
  refine af ?_;intros;refine wr ?_
  refine cYf (c8) @hl2 ?_;intros;refine wr ?_
  obtain ⟨Ij, hIj⟩ : ∃ I : Nat → St → Prop, I = (fun kk ss => ∃ (j : Nat) , j ≤ r.inn.early.length ∧ kk = r.inn.early.length - j ∧ (True) ∧ ss = ⟨96, [(76, .int .i64 j), (75, .int .i64 r.inn.early.length), (74, .own 105), (1, .ptr 0 125 0 0), (2, .ptr 1 125 0 0)], 106, [(0, some (repO (repC r (.own 51) (.own 52) (.own 102) (.own 103) (.own 104) (.own 105) (zB6 r.hist)))), (1, some (repO zRR)), (51, some (logO r.rec_.log)), (52, some ⟨72, 3, false, false, evs r.rec_.queue⟩), (102, some (logO r.rpl.log)), (103, some ⟨81, 4, false, false, outs r.gate.held⟩), (104, some ⟨140, 3, false, false, segs r.out.queue⟩), (105, some ⟨144, 4, false, false, zGP r.inn.early⟩)], 0⟩) := ⟨_, rfl⟩
  refine lX Ij (id) (by rw [hIj]; exact ⟨0, by simp, rfl, trivial, rfl⟩) ?_
  intro kk ss hIk _
  rw [hIj] at hIk
  obtain ⟨j, hj, rfl, hxj, rfl⟩ := hIk
  refine af1 @hl2 ?_;intros;refine wr ?_
  refine zAA rfl (fun hh2 => ?_) (fun hh2 => ?_)
  ·simp at hh2
   obtain ⟨e, he, -, -, hmem⟩ := get_at hh2
   have hget := zM5 he
   have hset := zK5 hget
   have cg := zFN e.2 (by have := (h.i e hmem).n; omega)
   refine af1 @hget ?_;intros;refine wr ?_
   refine zAE ([0, 1, 2, 3, 4, 5, 6, 7, 8, 9] : List Nat) ([[], [0], [0, 1], [], [], [4], [4, 5], [0, 1, 2, 3, 4, 5, 6], [0, 1, 2, 3, 4, 5, 6, 7], [0, 1, 2, 3, 4, 5, 6, 7, 8]] : List (List Nat)) ([(7, ([[], [0], [0, 1], [], [], [4], [4, 5]], [(2, 6)])), (1, ([], [])), (1, ([], [])), (1, ([], []))] : List (Nat × List (List Nat) × List (Nat × Nat))) (by kernel_rfl) (by kernel_rfl) (by kernel_rfl) ?_
   refine af ?_;intros;refine wr ?_
   refine cYf (cg) @hl2 ?_;intros;refine wr ?_
   exact aX (id) (by rw [hIj]; exact ⟨j + 1, by omega, rfl, trivial, rfl⟩) (kX3 (zAC (n := (j : Int) + 1) (by omega) (by omega)) @hget @hset)
  ·simp at hh2
   refine af ?_;intros;refine wr ?_
   refine cXf (c9) ?_;intros;refine wr ?_
   refine zAI ?_
   refine zAB ?_
   simp
theorem zMc (r : RepD) (steps clock : Int) (h : OkP r 400) (hc : W32 clock) (hq : r.rec_.queue.length ≤ 400) (hg : r.gate.held.length ≤ 30000) (ht : L64 r.out.tail) : zAD Tryz.prog 32 [.st r.row, iv steps, uv clock] (.st (zDT r steps clock).row) := by
 have hadv := zNT r.rec_ steps clock 400 h.c (by omega) hc
 have hA := h.c.adv steps hc
 have hO := zLC r.rec_ steps clock
 have hlim := zOe steps
 unfold zDT
 generalize advD r.rec_ steps clock = A at *
 obtain ⟨a, o⟩ := A
 simp only at *
 have hhold := zTj r.gate o (by omega) (by omega)
 have hlo := zB8 o
 have hAl := hA.l
 have hAm := hA.m.n
 obtain ⟨G, hG⟩ : ∃ G, G = zIG r.gate o := ⟨_, rfl⟩
 rw [← hG] at hhold
 refine sX Tryz.func32 Tryz.ntmps32 ?_;(repeat intro K hK);refine wr ?_
 refine cX (hadv) ?_;(repeat intro K hK);refine wr ?_
 refine cY (hhold) @hlo ?_;(repeat intro K hK);refine wr ?_
 obtain ⟨I, hI⟩ : ∃ I : Nat → St → Prop, I = (fun kk ss => ∃ (i : Nat) (c t : Int), i ≤ o.length ∧ kk = o.length - i ∧ (cmdL (r.cmd, r.cmdAt) (o.take i) = (c, t)) ∧ ss = ⟨95, [(31, .int .i64 i), (30, .int .i64 o.length), (29, .sl 4 false (outs o)), (3, .ptr 0 125 0 0), (6, .ptr 1 125 0 0)], 59, [(0, some (repO (RepD.row { r with rec_ := a, gate := G.1, cmd := c, cmdAt := t }))), (1, some (repO zRR))], 0⟩) := ⟨_, rfl⟩
 refine lX I (id) (by rw [hI]; exact ⟨0, r.cmd, r.cmdAt, by simp, rfl, rfl, rfl⟩) ?_
 intro kk ss hIk _
 rw [hI] at hIk
 obtain ⟨i, c, t, hi, rfl, hx, rfl⟩ := hIk
 refine au1 @hlo ?_;(repeat intro K hK);refine wr ?_
 refine zAA rfl (fun hh => ?_) (fun hh => ?_)
 ·simp at hh
  obtain ⟨x, hxo, -, htk, -⟩ := get_at hh
  have hget := zFL hxo
  have hst : cmdL (r.cmd, r.cmdAt) (o.take (i + 1)) = cmd1 (c, t) x := by unfold cmdL at hx ⊢; rw [htk, List.foldl_append, hx]; rfl
  refine au1 @hget ?_;(repeat intro K hK);refine wr ?_
  refine zAA rfl (fun hk => ?_) (fun hk => ?_)
  ·have hc1 : cmd1 (c, t) x = (0, x.at_) := by unfold cmd1; rw [if_pos (by simpa using hk)]
   rw [hc1] at hst
   refine au ?_;(repeat intro K hK);refine wr ?_
   refine zAE ([0, 1, 2, 3, 4, 5] : List Nat) ([[], [0], [], [2], [0, 1, 2, 3], [0, 1, 2, 3, 4]] : List (List Nat)) ([(4, ([[], [0], [], [2]], [(1, 3)])), (1, ([], [])), (1, ([], []))] : List (Nat × List (List Nat) × List (Nat × Nat))) (by kernel_rfl) (by kernel_rfl) (by kernel_rfl) ?_
   refine af ?_;(repeat intro K hK);refine wr ?_
   refine af ?_;(repeat intro K hK);refine wr ?_
   exact aX (id) (by rw [hI]; exact ⟨i + 1, 0, x.at_, by omega, rfl, hst, rfl⟩) (zAC (n := (i : Int) + 1) (by omega) (by omega))
  ·have hc1 : cmd1 (c, t) x = (c, t) := by unfold cmd1; rw [if_neg (by simpa using hk)]
   rw [hc1] at hst
   refine af ?_;(repeat intro K hK);refine wr ?_
   exact aX (id) (by rw [hI]; exact ⟨i + 1, c, t, by omega, rfl, hst, rfl⟩) (zAC (n := (i : Int) + 1) (by omega) (by omega))
 ·simp at hh
  rw [zFE hh] at hx
  refine af ?_;(repeat intro K hK);refine wr ?_
  refine cXf (zJ9 { r with rec_ := a, gate := G.1, cmd := c, cmdAt := t }) ?_;(repeat intro K hK);refine wr ?_
  have hbz : zL5 { r with rec_ := a, gate := G.1, cmd := c, cmdAt := t } = zL5 { r with rec_ := a } := rfl
  clear hK; clear K; rename_i K hK
  refine zBs (α := Int) (fun d => (⟨95, [(3, .ptr 0 125 0 0), (6, .ptr 1 125 0 0)], 60, [(0, some (repO (RepD.row { r with rec_ := a, gate := G.1, cmd := d, cmdAt := t }))), (1, some (repO zRR))], 0⟩ : St)) (fun d => d = (if zL5 { r with rec_ := a } = true then c else 0)) hK (fun d hxhJ => ?_) (fun hJ => ?_)
  all_goals clear hK
  ·have hR : runA r a o = { r with rec_ := a, gate := G.1, cmd := d, cmdAt := t } := by unfold runA; rw [hx, ← hG, hxhJ]
   have hcut := cut_ok a (by omega) (by omega) (by have := hA.q; omega)
   have hcc := zOC r.hist a.log (by have := h.h; omega) (by omega)
   have hcnt := zMn hA.m
   have hsg : OkG ⟨r.out.tail, a.m.count, a.log⟩ := ⟨ht, hcnt, hA.t, by show a.log.length ≤ _; omega⟩
   have hpush := zSj r.out ⟨r.out.tail, a.m.count, a.log⟩ h.o hsg (by have := h.on; omega)
   refine af ?_;(repeat intro K hK);refine wr ?_
   refine cXf (hcut) ?_;(repeat intro K hK);refine wr ?_
   refine cYf (hcc) @zBB ?_;(repeat intro K hK);refine wr ?_
   have hbb : (r.role == 1 && (decide (0 < a.log.length) || a.m.count != r.out.tail)) = decide (r.role = 1 ∧ (a.log ≠ [] ∨ a.m.count ≠ r.out.tail)) := by
    cases a.log <;> by_cases q1 : r.role = 1 <;> by_cases q2 : a.m.count = r.out.tail <;> simp [q1, q2]
   refine zAA rfl (fun hb => ?_) (fun hb => ?_)
   ·have hp : r.role = 1 ∧ (a.log ≠ [] ∨ a.m.count ≠ r.out.tail) := by rw [hbb] at hb; exact of_decide_eq_true hb
    have hF : logA (runA r a o) = { r with rec_ := cutD a, gate := G.1, cmd := d, cmdAt := t, hist := r.hist ++ a.log, out := (zDi r.out ⟨r.out.tail, a.m.count, a.log⟩).1 } := by rw [hR]; unfold logA segA; simp only; rw [if_pos hp]
    refine af ?_;(repeat intro K hK);refine wr ?_
    refine cXf (hpush) ?_;(repeat intro K hK);refine wr ?_
    refine zAI ?_
    refine zAB ?_
    simp [hF, cutD]
   ·have hp : ¬ (r.role = 1 ∧ (a.log ≠ [] ∨ a.m.count ≠ r.out.tail)) := by rw [hbb] at hb; exact of_decide_eq_false hb
    have hF : logA (runA r a o) = { r with rec_ := cutD a, gate := G.1, cmd := d, cmdAt := t, hist := r.hist ++ a.log } := by rw [hR]; unfold logA; simp only; rw [if_neg hp]
    refine af ?_;(repeat intro K hK);refine wr ?_
    refine zAI ?_
    refine zAB ?_
    simp [hF, cutD]
  ·refine zAA rfl (fun hb => ?_) (fun hb => ?_)
   ·refine af ?_;(repeat intro K hK);refine wr ?_
    refine hJ 0 _ (id) ((by rw [hbz] at hb; simp at hb; simp [hb])) ⟨rfl, ?_, ?_, ?_, by simp⟩
    ·simp [leT, ltV, lt1, ren, ren1]
    ·simp [leO, lt1, ren1]
    ·(simp; try omega)
   ·refine af ?_;(repeat intro K hK);refine wr ?_
    refine hJ c _ (id) ((by rw [hbz] at hb; simp at hb; simp [hb])) ⟨rfl, ?_, ?_, ?_, by simp⟩
    ·simp [leT, ltV, lt1, ren, ren1]
    ·simp [leO, lt1, ren1]
    ·(simp; try omega)
def stp (n : Int) : Int := min (max n 0) 64
def zGU (r : RepD) (steps clock : Int) : RepD := if r.role = 1 ∧ 8 ≤ r.out.queue.length then r else zDT r (stp steps) clock
theorem OkP.up {r : RepD} {k k' : Nat} (h : OkP r k) (hk : k ≤ k') : OkP r k' := ⟨h.c.up hk, h.p, h.pl, h.g, h.o, h.on, h.i, h.en, h.h⟩
theorem zSc (r : RepD) (steps clock : Int) (hl : zC3 r = true) (h : OkP r 400) (hc : W32 clock) (hq : r.rec_.queue.length ≤ 400) (hg : r.gate.held.length ≤ 30000) (ht : L64 r.out.tail) : zAD Tryz.prog 9 [.st r.row, iv steps, uv clock] (.st (zGU r steps clock).row) := by
 have hcl := zHH r (h.up (by omega))
 have hrl := zMc r (stp steps) clock h hc hq hg ht
 have hst : (if 64 < if steps < 0 then 0 else steps then 64 else if steps < 0 then 0 else steps) = stp steps := by unfold stp; (repeat' split) <;> omega
 have hlq := zCS r.out.queue
 refine sX Tryz.func9 Tryz.ntmps9 ?_;intros;refine wr ?_
 refine cY (hcl) (kX2 @hst @hlq) ?_;intros;refine wr ?_
 have h8 : (decide ((8 : Int) ≤ r.out.queue.length)) = decide (8 ≤ r.out.queue.length) := by simp; omega
 by_cases h1 : r.role = 1
 ·refine gT10 @h1 rfl ?_;intros;refine wr ?_
  refine gT11 @h1 rfl @hlq ?_;intros;refine wr ?_
  refine zAA rfl (fun hk => ?_) (fun hk => ?_)
  ·have hR : zGU r steps clock = r := by unfold zGU; rw [if_pos (by rw [h8] at hk; simpa using hk)]
   refine au ?_;intros;refine wr ?_
   refine zAI ?_
   refine zAB ?_
   simp [hR]
  ·have hR : zGU r steps clock = zDT r (stp steps) clock := by unfold zGU; rw [if_neg (by rw [h8] at hk; simpa using hk)]
   refine au ?_;intros;refine wr ?_
   refine cX (hrl) ?_;intros;refine wr ?_
   refine zAI ?_
   refine zAB ?_
   simp [hR]
 ·have h3 : r.role = 3 := by unfold zC3 at hl; simp [h1] at hl; exact hl
  have hR : zGU r steps clock = zDT r (stp steps) clock := by unfold zGU; rw [if_neg (fun z => h1 z.1)]
  refine gF10 @h1 rfl ?_;intros;refine wr ?_
  refine gT11 @h3 rfl @hlq ?_;intros;refine wr ?_
  refine gF10 @h1 rfl ?_;intros;refine wr ?_
  refine cX (hrl) ?_;intros;refine wr ?_
  refine zAI ?_
  refine zAB ?_
  simp [hR]
def joinA (r : RepD) (limit : Int) : RepD := { r with role := 1, out := ⟨1, r.rec_.m.count, r.rec_.m.count, []⟩, watch := ⟨limit, 0, 0⟩, beats := 0 }
def joinB (r : RepD) (limit : Int) : RepD := { zRep with host := 1 - r.host, role := 2, gen := r.gen, rpl := ⟨r.rec_.m, [], r.rec_.m.count, 0⟩, gate := r.gate, mark := r.gate.acked, inn := ⟨1, r.rec_.m.count, []⟩, watch := ⟨limit, 0, 0⟩, hist := r.hist }
def zGY (r : RepD) (limit : Int) : V := if zDf limit = true ∧ zC3 r = true then .tup [.st (joinA r limit).row, .st (joinB r limit).row, .bool true] else .tup [.st r.row, .st zRep.row, .bool false]
theorem zNJ (r : RepD) (limit : Int) (h : OkP r 40000) (hh : IntKind.i64.wrap (1 - r.host) = 1 - r.host) : zAD Tryz.prog 16 [.st r.row, iv limit] (zGY r limit) := by
 have hcl := zHH r h
 have hhb := zHM limit
 have hlv := zEf r
 unfold zGY
 by_cases hj : zDf limit = true ∧ zC3 r = true
 ·rw [if_pos hj]
  obtain ⟨j1, j2⟩ := hj
  rw [j1] at hhb
  rw [j2] at hlv
  simp only [if_true] at hhb
  refine sX Tryz.func16 Tryz.ntmps16 ?_;intros;refine wr ?_
  refine cX (hhb) ?_;intros;refine wr ?_
  refine cX (hlv) ?_;intros;refine wr ?_
  refine gF00 rfl ?_;intros;refine wr ?_
  refine cX (hcl) ?_;intros;refine wr ?_
  refine cX (zFj r.rec_.m.count) ?_;intros;refine wr ?_
  refine zAE ([0, 1, 2, 3, 4, 5, 6, 7, 8, 9] : List Nat) ([[], [], [], [2], [0, 2, 3], [0, 2, 3, 4], [0, 1, 2, 3, 4, 5], [0, 1, 2, 3, 4, 5, 6], [0, 1, 2, 3, 4, 5, 6, 7], [0, 1, 2, 3, 4, 5, 6, 7, 8]] : List (List Nat)) ([(6, ([[], [], [], [2], [0, 2, 3], [0, 2, 3, 4]], [(0, 3), (1, 3), (1, 5)])), (1, ([], [])), (1, ([], [])), (1, ([], [])), (1, ([], []))] : List (Nat × List (List Nat) × List (Nat × Nat))) (by kernel_rfl) (by kernel_rfl) (by kernel_rfl) ?_
  refine af ?_;intros;refine wr ?_
  refine af ?_;intros;refine wr ?_
  have hA : OkP (joinA r limit) 40000 := ⟨h.c, h.p, h.pl, h.g, by simp [joinA], by simp [joinA], h.i, h.en, h.h⟩
  have hcl2 := zHH (joinA r limit) hA
  have hnw := zIy r.rec_.m (by have := h.c.m.n; omega)
  refine cc1 (hcl2) @joinA.eq_1 ?_
  refine af ?_;intros;refine wr ?_
  refine zAE ([0, 1, 2, 3, 4, 5, 6, 7, 8, 9, 10, 11, 12, 13, 14, 15, 16, 17, 18, 19, 20] : List Nat) ([[], [], [1], [1, 2], [], [4], [], [6], [], [8], [], [10], [10, 11], [], [], [], [15], [1, 2, 3, 4, 5, 6, 7, 8, 9, 10, 11, 12, 13, 14, 15, 16], [0, 6, 7], [0, 1, 2, 3, 4, 5, 6, 7, 8, 9, 10, 11, 12, 13, 14, 15, 16, 17, 18], [0, 1, 2, 3, 4, 5, 6, 7, 8, 9, 10, 11, 12, 13, 14, 15, 16, 17, 18, 19]] : List (List Nat)) ([(19, ([[], [], [1], [1, 2], [], [4], [], [6], [], [8], [], [10], [10, 11], [], [], [], [15], [1, 2, 3, 4, 5, 6, 7, 8, 9, 10, 11, 12, 13, 14, 15, 16], [0, 6, 7]], [(0, 7), (2, 7), (2, 18), (5, 7), (5, 18), (9, 7), (9, 18), (12, 7), (12, 18), (13, 7), (13, 18), (14, 7), (14, 18), (16, 7), (16, 18)])), (1, ([], [])), (1, ([], []))] : List (Nat × List (List Nat) × List (Nat × Nat))) (by kernel_rfl) (by kernel_rfl) (by kernel_rfl) ?_
  refine af ?_;intros;refine wr ?_
  refine cYf (hnw) @hh ?_;intros;refine wr ?_
  refine zAI ?_
  refine zAB ?_
  simp [joinA, joinB, hh]
 ·rw [if_neg hj]
  refine sX Tryz.func16 Tryz.ntmps16 ?_;intros;refine wr ?_
  refine cXf (hhb) ?_;intros;refine wr ?_
  refine cXf (hlv) ?_;intros;refine wr ?_
  have hjb : (!zDf limit || !zC3 r) = true := by cases q1 : zDf limit <;> cases q2 : zC3 r <;> simp [q1, q2] at hj ⊢
  refine zEG @hjb rfl ?_;intros;refine wr ?_
  refine cXf (hcl) ?_;intros;refine wr ?_
  refine zAI ?_
  refine zAB ?_
  simp
end Go.Proofs.YtjmhjieflbnehaaGreat
end
