/- A part of the proof of ReplicaJoins. -/
import Derived.Test.YtjmhjieflbnehaaGreatP28
import Derived.Test.YtjmhjieflbnehaaGreatP29
import Derived.Test.YtjmhjieflbnehaaGreatP30
set_option linter.unusedSimpArgs false
set_option linter.unusedVariables false
set_option maxHeartbeats 16000000
set_option maxRecDepth 100000
section
namespace Go.Proofs.YtjmhjieflbnehaaGreat
open Go.Ab Go.RowKit
def aftM (m : MchD) (c : CpuD) (l : List Int) : MchD := { m with cpu := c, mem := l, waiting := false }
theorem zRp (m : MchD) : zCK m = aftM m (zAs (zAM m).cpu m.mem).1 (zAs (zAM m).cpu m.mem).2.1 := by
 unfold zCK aftM
 have h : ({ zAM m with cpu := m.cpu } : MchD) = { m with waiting := false } := by
  unfold zAM
  split
  ·rfl
  ·split <;> rfl
 have h2 := congrArg (fun x : MchD => ({ x with cpu := (zAs (zAM m).cpu m.mem).1, mem := (zAs (zAM m).cpu m.mem).2.1 } : MchD)) h
 exact h2
theorem zEp {nx : Nat} {ob : List (Nat × Option Ob)} (id j : Nat) (m A : MchD) (c2 : CpuD) (M2 : List Int) (e : EffD) (hM : OkM m) (hob : lookO ob id = some (mchO m (.own j))) (hj : lookO ob j = some (memO m.mem)) (hi : id < nx) (hjn : j < nx) (hne : id ≠ j)
  (hdo : ∀ {nx : Nat} {ob : List (Nat × Option Ob)}, lookO ob j = some (memO m.mem) → j < nx → InlC Tryz.prog 139 [.st (zAM m).cpu.row, .own j] nx ob fun r nx' ob' => r = .tup [.st c2.row, .st e.row] ∧ zE6 nx ob j M2 nx' ob')
  (hk : (e.kind = 0 ∧ A = aftM m c2 M2) ∨ (e.kind = 2 ∧ A.count = m.count ∧ ∀ {nx : Nat} {ob : List (Nat × Option Ob)}, lookO ob id = some (mchO (aftM m c2 M2) (.own j)) → lookO ob j = some (memO M2) → id < nx → j < nx → InlC Tryz.prog 142 [.ptr id 49 0 0, iv e.port, uv e.val] nx ob fun r nx' ob' => (r = .sl 0 true [] ∨ r = .sl 4 false []) ∧ zCm nx ob id j A nx' ob')) :
  InlC Tryz.prog 85 [.ptr id 49 0 0, uv 0] nx ob fun r nx' ob' => (r = .sl 0 true [] ∨ r = .sl 4 false []) ∧ zCm nx ob id j { A with count := m.count + 1 } nx' ob' := by
 have n1 : ¬ j = id := fun e => hne e.symm
 have k1 : ¬ id = nx + 25 := by omega
 have k2 : ¬ id = nx + 25 + 1 := by omega
 have k3 : ¬ nx + 25 = id := by omega
 have k4 : ¬ nx + 25 + 1 = id := by omega
 have l1 : ¬ j = nx + 25 := by omega
 have l2 : ¬ j = nx + 25 + 1 := by omega
 have l3 : ¬ nx + 25 = j := by omega
 have l4 : ¬ nx + 25 + 1 = j := by omega
 have hC := zEO hM
 have hct : IntKind.u64.wrap (m.count + 1) = m.count + 1 := u64_in (by have := hM.ct; omega) (by have := hM.ct; omega)
 refine InlC.of Tryz.func85 rfl (by kernel_rfl) rfl ?_
 simp only [Tryz.ntmps85, St.startI, argT]
 refine au1 (kX2 @hob @hj) ?_;(repeat intro K hK);refine wr ?_
 first | refine .inl ⟨1, _, zJh m hM, ?_⟩ | refine ⟨1, _, zJh m hM, ?_⟩
 simp [aftC, noX, noXc, noX1, hob, hj]
 first | refine And.intro zAL ?_ | skip
 refine au1 (kX3 @hob @hj @n1) ?_;(repeat intro K hK);refine wr ?_
 refine zBe (.node 8 12 (.node 8 13 (.node 12 13 (.leaf [0, 1, 2, 3, 4, 5, 6, 7, 8, 9, 10, 11, 12, 13, 14, 15] [[], [0], [0, 1], [0, 1, 2], [], [4], [4, 5], [4, 5, 6], [0, 1, 2, 3, 4, 5, 6, 7], [0, 1, 2, 3, 4, 5, 6, 7, 8], [0, 1, 2, 3, 4, 5, 6, 7, 8, 9], [0, 1, 2, 3, 4, 5, 6, 7, 8, 9], [0, 1, 2, 3, 4, 5, 6, 7, 8], [0, 1, 2, 3, 4, 5, 6, 7, 8, 12], [0, 1, 2, 3, 4, 5, 6, 7, 8, 9, 10, 12, 13], [0, 1, 2, 3, 4, 5, 6, 7, 8, 9, 10, 11, 12, 13, 14]] [(8, ([[], [0], [0, 1], [0, 1, 2], [], [4], [4, 5], [4, 5, 6]], [])), (1, ([], [])), (6, ([[], [0], [0], [], [3], [0, 1, 3, 4]], [])), (1, ([], []))]) (.leaf [0, 1, 2, 3, 4, 5, 6, 7, 8, 9, 10, 11, 13, 12, 14, 15] [[], [0], [0, 1], [0, 1, 2], [], [4], [4, 5], [4, 5, 6], [0, 1, 2, 3, 4, 5, 6, 7], [0, 1, 2, 3, 4, 5, 6, 7, 8], [0, 1, 2, 3, 4, 5, 6, 7, 8, 9], [0, 1, 2, 3, 4, 5, 6, 7, 8, 9], [0, 1, 2, 3, 4, 5, 6, 7, 8], [0, 1, 2, 3, 4, 5, 6, 7, 8, 12], [0, 1, 2, 3, 4, 5, 6, 7, 8, 9, 10, 12, 13], [0, 1, 2, 3, 4, 5, 6, 7, 8, 9, 10, 11, 12, 13, 14]] [(8, ([[], [0], [0, 1], [0, 1, 2], [], [4], [4, 5], [4, 5, 6]], [])), (1, ([], [])), (6, ([[], [0], [0], [], [3], [0, 1, 3, 4]], [])), (1, ([], []))])) (.leaf [0, 1, 2, 3, 4, 5, 6, 7, 13, 8, 9, 10, 11, 12, 14, 15] [[], [0], [0, 1], [0, 1, 2], [], [4], [4, 5], [4, 5, 6], [], [0, 1, 2, 3, 4, 5, 6, 7, 8], [0, 1, 2, 3, 4, 5, 6, 7, 8, 9], [0, 1, 2, 3, 4, 5, 6, 7, 8, 9, 10], [0, 1, 2, 3, 4, 5, 6, 7, 8, 9, 10], [0, 1, 2, 3, 4, 5, 6, 7, 8, 9], [0, 1, 2, 3, 4, 5, 6, 7, 8, 9, 10, 11, 13], [0, 1, 2, 3, 4, 5, 6, 7, 8, 9, 10, 11, 12, 13, 14]] [(9, ([[], [0], [0, 1], [0, 1, 2], [], [4], [4, 5], [4, 5, 6], []], [(3, 8), (7, 8)])), (1, ([], [])), (5, ([[], [0], [0], [], [0, 1, 3]], [])), (1, ([], []))])) (.node 12 13 (.node 8 13 (.leaf [0, 1, 2, 3, 4, 5, 6, 7, 12, 8, 9, 10, 11, 13, 14, 15] [[], [0], [0, 1], [0, 1, 2], [], [4], [4, 5], [4, 5, 6], [], [0, 1, 2, 3, 4, 5, 6, 7, 8], [0, 1, 2, 3, 4, 5, 6, 7, 8, 9], [0, 1, 2, 3, 4, 5, 6, 7, 8, 9, 10], [0, 1, 2, 3, 4, 5, 6, 7, 8, 9, 10], [0, 1, 2, 3, 4, 5, 6, 7, 8, 9], [0, 1, 2, 3, 4, 5, 6, 7, 8, 9, 10, 11, 13], [0, 1, 2, 3, 4, 5, 6, 7, 8, 9, 10, 11, 12, 13, 14]] [(9, ([[], [0], [0, 1], [0, 1, 2], [], [4], [4, 5], [4, 5, 6], []], [(3, 8), (7, 8)])), (1, ([], [])), (5, ([[], [0], [0], [], [0, 1, 3]], [])), (1, ([], []))]) (.leaf [0, 1, 2, 3, 4, 5, 6, 7, 12, 13, 8, 9, 10, 11, 14, 15] [[], [0], [0, 1], [0, 1, 2], [], [4], [4, 5], [4, 5, 6], [], [8], [0, 1, 2, 3, 4, 5, 6, 7, 8, 9], [0, 1, 2, 3, 4, 5, 6, 7, 8, 9, 10], [0, 1, 2, 3, 4, 5, 6, 7, 8, 9, 10, 11], [0, 1, 2, 3, 4, 5, 6, 7, 8, 9, 10, 11], [0, 1, 2, 3, 4, 5, 6, 7, 8, 9, 10, 11, 12], [0, 1, 2, 3, 4, 5, 6, 7, 8, 9, 10, 11, 12, 13, 14]] [(10, ([[], [0], [0, 1], [0, 1, 2], [], [4], [4, 5], [4, 5, 6], [], [8]], [(3, 8), (3, 9), (7, 8), (7, 9)])), (1, ([], [])), (1, ([], [])), (3, ([[], [], [0]], [])), (1, ([], []))])) (.leaf [0, 1, 2, 3, 4, 5, 6, 7, 13, 12, 8, 9, 10, 11, 14, 15] [[], [0], [0, 1], [0, 1, 2], [], [4], [4, 5], [4, 5, 6], [], [8], [0, 1, 2, 3, 4, 5, 6, 7, 8, 9], [0, 1, 2, 3, 4, 5, 6, 7, 8, 9, 10], [0, 1, 2, 3, 4, 5, 6, 7, 8, 9, 10, 11], [0, 1, 2, 3, 4, 5, 6, 7, 8, 9, 10, 11], [0, 1, 2, 3, 4, 5, 6, 7, 8, 9, 10, 11, 12], [0, 1, 2, 3, 4, 5, 6, 7, 8, 9, 10, 11, 12, 13, 14]] [(10, ([[], [0], [0, 1], [0, 1, 2], [], [4], [4, 5], [4, 5, 6], [], [8]], [(3, 8), (3, 9), (7, 8), (7, 9)])), (1, ([], [])), (1, ([], [])), (3, ([[], [], [0]], [])), (1, ([], []))]))) (by kernel_rfl) (by kernel_rfl) ?_
 simp only [PT.run]
 repeat' (with_reducible apply And.intro)
 all_goals (simp only [zB0, List.map_cons, List.map_nil, List.getD_cons_zero, List.getD_cons_succ]; repeat (first | (with_reducible first | refine zAj fun K hK => ?_ | refine zAa ?_) | ((with_reducible first | refine zAV (by kernel_rfl) ?_ | refine zAm ?_ | refine zAi ?_ | refine zAn ?_ | refine zAl ?_ | refine zBG ?_ | refine zBK ?_ | refine zBL ?_ | refine zBM ?_ | refine zAk ?_ | refine zAh ?_); simp [hob, hj, n1, k1, k2, k3, k4, l1, l2, l3, l4]) | ((repeat ((fail_if_success ((with_reducible first | refine hK _ ?_ | refine hK _ _ _ _ ?_))); clear hK)); (with_reducible first | refine hK _ ?_ | refine hK _ _ _ _ ?_); clear hK) | (with_reducible refine zBV fun K hK => ?_; simp [hob, hj, n1, k1, k2, k3, k4, l1, l2, l3, l4]) | (with_reducible refine zBX ?_; try simp only [thn, blk]) | (with_reducible refine zBT fun K hK => ?_; simp only [List.take_succ_cons, List.take_zero]) | (with_reducible refine zBI fun K hK => ?_; simp [hob, hj, n1, k1, k2, k3, k4, l1, l2, l3, l4]) | (with_reducible refine zBU ?_) | (with_reducible refine zBH ?_; simp only [List.drop_succ_cons, List.drop_zero]; simp only [stS, eT, eO, List.cons_append, List.nil_append, cond_true, cond_false, Bool.and_true, Bool.and_false, Bool.true_and, Bool.false_and]) | (with_reducible refine zA4 ?_ ?_; (· (simp [hob, hj, n1, k1, k2, k3, k4, l1, l2, l3, l4] <;> first | omega | grind))) | refine And.intro (by first | omega | assumption | grind) ?_))
 iterate 2
  ·first | refine .inr ((hdo (by simp [lookO, n1, hj, l1, l2, l3, l4]) (by omega)).mono fun r nx' ob' hp => ?_) | refine (hdo (by simp [lookO, n1, hj, l1, l2, l3, l4]) (by omega)).mono fun r nx' ob' hp => ?_ | refine ((hdo (by simp [lookO, n1, hj, l1, l2, l3, l4]) (by omega)).mono fun r nx' ob' hp => ?_).2
   simp only [aftI]
   obtain ⟨rfl, g1, g2, g3⟩ := hp
   have y1 := g3 id (by omega) hne
   simp [lookO, k1, k2, k3, k4, l1, l2, l3, l4] at y1
   have p1 : ¬ id = nx' := by omega
   have p2 : ¬ nx' = id := by omega
   have p3 : ¬ id = nx' + 1 := by omega
   have p4 : ¬ nx' + 1 = id := by omega
   have q1 : ¬ j = nx' := by omega
   have q2 : ¬ j = nx' + 1 := by omega
   simp
   refine af1 (kX9 @y1 @p1 @p2 @p3 @p4 @k1 @k2 @k3 @k4) ?_;(repeat intro K hK);refine wr ?_
   rcases hk with ⟨hk0, rfl⟩ | ⟨hk2, hcA, hout⟩
   ·refine zBY @hk0 rfl ?_;(repeat intro K hK);refine wr ?_
    refine zBY @hk0 rfl ?_;(repeat intro K hK);refine wr ?_
    refine zBY @hk0 rfl ?_;(repeat intro K hK);refine wr ?_
    refine zEn @hk0 rfl (kX9 @y1 @p1 @p2 @p3 @p4 @k1 @k2 @k3 @k4) ?_;(repeat intro K hK);refine wr ?_
    refine zAB ?_
    simp [hct]
    refine ⟨by omega, by simp [lookO, aftM], by simp [lookO, n1, q1, q2, l1, l2, g2, aftM], fun i h1 h2 h3 => ?_⟩
    have a1 : ¬ i = nx' := by omega
    have a2 : ¬ i = nx' + 1 := by omega
    have a3 : ¬ i = nx + 25 := by omega
    have a4 : ¬ i = nx + 25 + 1 := by omega
    have ee := g3 i (by omega) h3
    simp [lookO, a1, a2, a3, a4, h2] at ee
    simp [lookO, a1, a2, a3, a4, h2, ee]
   ·refine zBY @hk2 rfl ?_;(repeat intro K hK);refine wr ?_
    refine zCt @hk2 rfl (kX9 @y1 @p1 @p2 @p3 @p4 @k1 @k2 @k3 @k4) ?_;(repeat intro K hK);refine wr ?_
    obtain ⟨na, rfl⟩ : ∃ na, na = nx' := ⟨_, rfl⟩
    obtain ⟨oa, rfl⟩ : ∃ oa, oa = ob' := ⟨_, rfl⟩
    first | refine .inr ((hout (by simp [lookO, aftM]) (by simp [lookO, n1, q1, q2, l1, l2, g2]) (by omega) (by omega)).mono fun r nx' ob' hp => ?_) | refine (hout (by simp [lookO, aftM]) (by simp [lookO, n1, q1, q2, l1, l2, g2]) (by omega) (by omega)).mono fun r nx' ob' hp => ?_ | refine ((hout (by simp [lookO, aftM]) (by simp [lookO, n1, q1, q2, l1, l2, g2]) (by omega) (by omega)).mono fun r nx' ob' hp => ?_).2
    simp only [aftI]
    obtain ⟨hr, b1, b2, b3, b4⟩ := hp
    rcases hr with rfl | rfl
    ·simp
     refine af1 (kX2 @b2 @hcA) ?_;(repeat intro K hK);refine wr ?_
     refine zAB ?_
     simp [hct]
     refine ⟨by omega, by simp [lookO], by simp [lookO, n1, b3], fun i h1 h2 h3 => ?_⟩
     have a1 : ¬ i = na := by omega
     have a2 : ¬ i = na + 1 := by omega
     have a3 : ¬ i = nx + 25 := by omega
     have a4 : ¬ i = nx + 25 + 1 := by omega
     have ee := g3 i (by omega) h3
     have e2 := b4 i (by omega) h2 h3
     simp [lookO, a1, a2, a3, a4, h2] at ee e2
     simp [lookO, a1, a2, a3, a4, h2, ee, e2]
    ·simp
     refine af1 (kX2 @b2 @hcA) ?_;(repeat intro K hK);refine wr ?_
     refine zAB ?_
     simp [hct]
     refine ⟨by omega, by simp [lookO], by simp [lookO, n1, b3], fun i h1 h2 h3 => ?_⟩
     have a1 : ¬ i = na := by omega
     have a2 : ¬ i = na + 1 := by omega
     have a3 : ¬ i = nx + 25 := by omega
     have a4 : ¬ i = nx + 25 + 1 := by omega
     have ee := g3 i (by omega) h3
     have e2 := b4 i (by omega) h2 h3
     simp [lookO, a1, a2, a3, a4, h2] at ee e2
     simp [lookO, a1, a2, a3, a4, h2, ee, e2]
 iterate 2
  ·first | refine .inr ((hdo (by simp [lookO, n1, hj, l1, l2, l3, l4]) (by omega)).mono fun r nx' ob' hp => ?_) | refine (hdo (by simp [lookO, n1, hj, l1, l2, l3, l4]) (by omega)).mono fun r nx' ob' hp => ?_ | refine ((hdo (by simp [lookO, n1, hj, l1, l2, l3, l4]) (by omega)).mono fun r nx' ob' hp => ?_).2
   simp only [aftI]
   obtain ⟨rfl, g1, g2, g3⟩ := hp
   have y1 := g3 id (by omega) hne
   have y2 := g3 (nx + 25) (by omega) l3
   simp [lookO, k1, k2, k3, k4, l1, l2, l3, l4] at y1
   simp [lookO, k1, k2, k3, k4, l1, l2, l3, l4] at y2
   have p1 : ¬ id = nx' := by omega
   have p2 : ¬ nx' = id := by omega
   have p3 : ¬ id = nx' + 1 := by omega
   have p4 : ¬ nx' + 1 = id := by omega
   have q1 : ¬ j = nx' := by omega
   have q2 : ¬ j = nx' + 1 := by omega
   have r1 : ¬ nx + 25 = nx' := by omega
   have r2 : ¬ nx' = nx + 25 := by omega
   simp
   refine af1 (kX12 @y1 @y2 @p1 @p2 @p3 @p4 @k1 @k2 @k3 @k4 @r1 @r2) ?_;(repeat intro K hK);refine wr ?_
   rcases hk with ⟨hk0, rfl⟩ | ⟨hk2, hcA, hout⟩
   ·refine zBY @hk0 rfl ?_;(repeat intro K hK);refine wr ?_
    refine zBY @hk0 rfl ?_;(repeat intro K hK);refine wr ?_
    refine zBY @hk0 rfl ?_;(repeat intro K hK);refine wr ?_
    refine zEn @hk0 rfl (kX12 @y1 @y2 @p1 @p2 @p3 @p4 @k1 @k2 @k3 @k4 @r1 @r2) ?_;(repeat intro K hK);refine wr ?_
    refine zAB ?_
    simp [hct]
    refine ⟨by omega, by simp [lookO, aftM], by simp [lookO, n1, q1, q2, l1, l2, g2, aftM], fun i h1 h2 h3 => ?_⟩
    have a1 : ¬ i = nx' := by omega
    have a2 : ¬ i = nx' + 1 := by omega
    have a3 : ¬ i = nx + 25 := by omega
    have a4 : ¬ i = nx + 25 + 1 := by omega
    have ee := g3 i (by omega) h3
    simp [lookO, a1, a2, a3, a4, h2] at ee
    simp [lookO, a1, a2, a3, a4, h2, ee]
   ·refine zBY @hk2 rfl ?_;(repeat intro K hK);refine wr ?_
    refine zCt @hk2 rfl (kX12 @y1 @y2 @p1 @p2 @p3 @p4 @k1 @k2 @k3 @k4 @r1 @r2) ?_;(repeat intro K hK);refine wr ?_
    obtain ⟨na, rfl⟩ : ∃ na, na = nx' := ⟨_, rfl⟩
    obtain ⟨oa, rfl⟩ : ∃ oa, oa = ob' := ⟨_, rfl⟩
    first | refine .inr ((hout (by simp [lookO, aftM]) (by simp [lookO, n1, q1, q2, l1, l2, g2]) (by omega) (by omega)).mono fun r nx' ob' hp => ?_) | refine (hout (by simp [lookO, aftM]) (by simp [lookO, n1, q1, q2, l1, l2, g2]) (by omega) (by omega)).mono fun r nx' ob' hp => ?_ | refine ((hout (by simp [lookO, aftM]) (by simp [lookO, n1, q1, q2, l1, l2, g2]) (by omega) (by omega)).mono fun r nx' ob' hp => ?_).2
    simp only [aftI]
    obtain ⟨hr, b1, b2, b3, b4⟩ := hp
    rcases hr with rfl | rfl
    ·simp
     refine af1 (kX2 @b2 @hcA) ?_;(repeat intro K hK);refine wr ?_
     refine zAB ?_
     simp [hct]
     refine ⟨by omega, by simp [lookO], by simp [lookO, n1, b3], fun i h1 h2 h3 => ?_⟩
     have a1 : ¬ i = na := by omega
     have a2 : ¬ i = na + 1 := by omega
     have a3 : ¬ i = nx + 25 := by omega
     have a4 : ¬ i = nx + 25 + 1 := by omega
     have ee := g3 i (by omega) h3
     have e2 := b4 i (by omega) h2 h3
     simp [lookO, a1, a2, a3, a4, h2] at ee e2
     simp [lookO, a1, a2, a3, a4, h2, ee, e2]
    ·simp
     refine af1 (kX2 @b2 @hcA) ?_;(repeat intro K hK);refine wr ?_
     refine zAB ?_
     simp [hct]
     refine ⟨by omega, by simp [lookO], by simp [lookO, n1, b3], fun i h1 h2 h3 => ?_⟩
     have a1 : ¬ i = na := by omega
     have a2 : ¬ i = na + 1 := by omega
     have a3 : ¬ i = nx + 25 := by omega
     have a4 : ¬ i = nx + 25 + 1 := by omega
     have ee := g3 i (by omega) h3
     have e2 := b4 i (by omega) h2 h3
     simp [lookO, a1, a2, a3, a4, h2] at ee e2
     simp [lookO, a1, a2, a3, a4, h2, ee, e2]
 iterate 2
  ·first | refine .inr ((hdo (by simp [lookO, n1, hj, l1, l2, l3, l4]) (by omega)).mono fun r nx' ob' hp => ?_) | refine (hdo (by simp [lookO, n1, hj, l1, l2, l3, l4]) (by omega)).mono fun r nx' ob' hp => ?_ | refine ((hdo (by simp [lookO, n1, hj, l1, l2, l3, l4]) (by omega)).mono fun r nx' ob' hp => ?_).2
   simp only [aftI]
   obtain ⟨rfl, g1, g2, g3⟩ := hp
   have y1 := g3 id (by omega) hne
   have y2 := g3 (nx + 25) (by omega) l3
   have y3 := g3 (nx + 25 + 1) (by omega) l4
   simp [lookO, k1, k2, k3, k4, l1, l2, l3, l4] at y1
   simp [lookO, k1, k2, k3, k4, l1, l2, l3, l4] at y2
   simp [lookO, k1, k2, k3, k4, l1, l2, l3, l4] at y3
   have p1 : ¬ id = nx' := by omega
   have p2 : ¬ nx' = id := by omega
   have p3 : ¬ id = nx' + 1 := by omega
   have p4 : ¬ nx' + 1 = id := by omega
   have q1 : ¬ j = nx' := by omega
   have q2 : ¬ j = nx' + 1 := by omega
   simp
   refine af1 (kX11 @y1 @y2 @y3 @p1 @p2 @p3 @p4 @k1 @k2 @k3 @k4) ?_;(repeat intro K hK);refine wr ?_
   rcases hk with ⟨hk0, rfl⟩ | ⟨hk2, hcA, hout⟩
   ·refine zBY @hk0 rfl ?_;(repeat intro K hK);refine wr ?_
    refine zBY @hk0 rfl ?_;(repeat intro K hK);refine wr ?_
    refine zBY @hk0 rfl ?_;(repeat intro K hK);refine wr ?_
    refine zEn @hk0 rfl (kX11 @y1 @y2 @y3 @p1 @p2 @p3 @p4 @k1 @k2 @k3 @k4) ?_;(repeat intro K hK);refine wr ?_
    refine zAB ?_
    simp [hct]
    refine ⟨by omega, by simp [lookO, aftM], by simp [lookO, n1, q1, q2, l1, l2, g2, aftM], fun i h1 h2 h3 => ?_⟩
    have a1 : ¬ i = nx' := by omega
    have a2 : ¬ i = nx' + 1 := by omega
    have a3 : ¬ i = nx + 25 := by omega
    have a4 : ¬ i = nx + 25 + 1 := by omega
    have ee := g3 i (by omega) h3
    simp [lookO, a1, a2, a3, a4, h2] at ee
    simp [lookO, a1, a2, a3, a4, h2, ee]
   ·refine zBY @hk2 rfl ?_;(repeat intro K hK);refine wr ?_
    refine zCt @hk2 rfl (kX11 @y1 @y2 @y3 @p1 @p2 @p3 @p4 @k1 @k2 @k3 @k4) ?_;(repeat intro K hK);refine wr ?_
    obtain ⟨na, rfl⟩ : ∃ na, na = nx' := ⟨_, rfl⟩
    obtain ⟨oa, rfl⟩ : ∃ oa, oa = ob' := ⟨_, rfl⟩
    first | refine .inr ((hout (by simp [lookO, aftM]) (by simp [lookO, n1, q1, q2, l1, l2, g2]) (by omega) (by omega)).mono fun r nx' ob' hp => ?_) | refine (hout (by simp [lookO, aftM]) (by simp [lookO, n1, q1, q2, l1, l2, g2]) (by omega) (by omega)).mono fun r nx' ob' hp => ?_ | refine ((hout (by simp [lookO, aftM]) (by simp [lookO, n1, q1, q2, l1, l2, g2]) (by omega) (by omega)).mono fun r nx' ob' hp => ?_).2
    simp only [aftI]
    obtain ⟨hr, b1, b2, b3, b4⟩ := hp
    rcases hr with rfl | rfl
    ·simp
     refine af1 (kX2 @b2 @hcA) ?_;(repeat intro K hK);refine wr ?_
     refine zAB ?_
     simp [hct]
     refine ⟨by omega, by simp [lookO], by simp [lookO, n1, b3], fun i h1 h2 h3 => ?_⟩
     have a1 : ¬ i = na := by omega
     have a2 : ¬ i = na + 1 := by omega
     have a3 : ¬ i = nx + 25 := by omega
     have a4 : ¬ i = nx + 25 + 1 := by omega
     have ee := g3 i (by omega) h3
     have e2 := b4 i (by omega) h2 h3
     simp [lookO, a1, a2, a3, a4, h2] at ee e2
     simp [lookO, a1, a2, a3, a4, h2, ee, e2]
    ·simp
     refine af1 (kX2 @b2 @hcA) ?_;(repeat intro K hK);refine wr ?_
     refine zAB ?_
     simp [hct]
     refine ⟨by omega, by simp [lookO], by simp [lookO, n1, b3], fun i h1 h2 h3 => ?_⟩
     have a1 : ¬ i = na := by omega
     have a2 : ¬ i = na + 1 := by omega
     have a3 : ¬ i = nx + 25 := by omega
     have a4 : ¬ i = nx + 25 + 1 := by omega
     have ee := g3 i (by omega) h3
     have e2 := b4 i (by omega) h2 h3
     simp [lookO, a1, a2, a3, a4, h2] at ee e2
     simp [lookO, a1, a2, a3, a4, h2, ee, e2]
theorem zTH {nx : Nat} {ob : List (Nat × Option Ob)} (id j : Nat) (m : MchD) (hM : OkM m) (hob : lookO ob id = some (mchO m (.own j))) (hj : lookO ob j = some (memO m.mem)) (hi : id < nx) (hjn : j < nx) (hne : id ≠ j) (hq : zH3 m = true) (hsl : zPL m = true) :
  InlC Tryz.prog 85 [.ptr id 49 0 0, uv 0] nx ob fun r nx' ob' => (r = .sl 0 true [] ∨ r = .sl 4 false []) ∧ zCm nx ob id j (goD m 0).1 nx' ob' := by
 have hsl1 : zC1 (zAM m).cpu = false := by unfold zPL at hsl; simp only [Bool.and_eq_true, Bool.not_eq_true'] at hsl; exact hsl.1
 have hsl2 : sOp (decI (wAt (zAG (zAM m).cpu m.mem (zAM m).cpu.pc 4 1).2.1 ((zAG (zAM m).cpu m.mem (zAM m).cpu.pc 4 1).1 / 4))).op := by
  unfold zPL at hsl; simp only [Bool.and_eq_true] at hsl
  have h2 := hsl.2
  simp only [List.contains_cons, List.contains_nil, Bool.or_eq_true, beq_iff_eq, Bool.or_false] at h2
  exact h2
 have hdo : ∀ {nx : Nat} {ob : List (Nat × Option Ob)}, lookO ob j = some (memO m.mem) → j < nx → InlC Tryz.prog 139 [.st (zAM m).cpu.row, .own j] nx ob fun r nx' ob' => r = .tup [.st (zAs (zAM m).cpu m.mem).1.row, .st (zAs (zAM m).cpu m.mem).2.2.row] ∧ zE6 nx ob j (zAs (zAM m).cpu m.mem).2.1 nx' ob' := fun h1 h2 => rdo_ok j (zAM m).cpu m.mem (zEO hM) hM.w hsl1 hsl2 h1 h2
 have hgo : (goD m 0).1 = { (zBm (aftM m (zAs (zAM m).cpu m.mem).1 (zAs (zAM m).cpu m.mem).2.1) (zAs (zAM m).cpu m.mem).2.2 0 m.count).1 with count := (zBm (aftM m (zAs (zAM m).cpu m.mem).1 (zAs (zAM m).cpu m.mem).2.1) (zAs (zAM m).cpu m.mem).2.2 0 m.count).1.count + 1 } := by
  unfold goD; rw [zRp]; rfl
 have hMA := (zFO hM).1
 rw [zRp] at hMA
 unfold zH3 effD at hq
 generalize zAs (zAM m).cpu m.mem = E at *
 obtain ⟨c2, M2, e⟩ := E
 simp only [Bool.or_eq_true, Bool.and_eq_true, decide_eq_true_eq] at hdo hgo hMA hq
 rcases hq with hk | ⟨hk, hp⟩
 ·have hd : zBm (aftM m c2 M2) e 0 m.count = (aftM m c2 M2, []) := by
   unfold zBm; rw [if_neg (by omega), if_neg (by omega), if_neg (by omega), if_neg (by omega)]
  rw [hd] at hgo
  rw [hgo]
  exact zEp id j m (aftM m c2 M2) c2 M2 e hM hob hj hi hjn hne hdo (.inl ⟨hk, rfl⟩)
 ·have hd : zBm (aftM m c2 M2) e 0 m.count = zAO (aftM m c2 M2) e.port e.val m.count := by
   unfold zBm; rw [if_neg (by omega), if_pos hk]
  rw [hd] at hgo
  rcases hp with (hp | hp) | ⟨hp, hv⟩
  ·have hw : (zAO (aftM m c2 M2) e.port e.val m.count).1 = { aftM m c2 M2 with tim := armD e.val } := by unfold zAO; rw [hp]; rfl
   rw [hw] at hgo
   rw [hgo]
   refine zEp id j m { aftM m c2 M2 with tim := armD e.val } c2 M2 e hM hob hj hi hjn hne hdo (.inr ⟨hk, rfl, fun h1 h2 h3 h4 => ?_⟩)
   rw [hp]
   exact (zPW id j (aftM m c2 M2) e.val h1 h2 h3 h4 hne).mono fun r nx' ob' h => ⟨.inl h.1, h.2⟩
  ·have hw : (zAO (aftM m c2 M2) e.port e.val m.count).1 = { aftM m c2 M2 with nc := (zAd (aftM m c2 M2).nc (aftM m c2 M2).mem 7 e.val (aftM m c2 M2).count).1 } := by unfold zAO; rw [hp]; rfl
   rw [hw] at hgo
   rw [hgo]
   refine zEp id j m { aftM m c2 M2 with nc := (zAd (aftM m c2 M2).nc (aftM m c2 M2).mem 7 e.val (aftM m c2 M2).count).1 } c2 M2 e hM hob hj hi hjn hne hdo (.inr ⟨hk, rfl, fun h1 h2 h3 h4 => ?_⟩)
   rw [hp]
   exact (zQt id j (aftM m c2 M2) e.val hMA h1 h2 h3 h4 hne).mono fun r nx' ob' h => ⟨.inr h.1, h.2⟩
  ·have hw : (zAO (aftM m c2 M2) e.port e.val m.count).1 = { aftM m c2 M2 with nc := (zAd (aftM m c2 M2).nc (aftM m c2 M2).mem 9 e.val (aftM m c2 M2).count).1 } := by unfold zAO; rw [hp]; rfl
   rw [hw] at hgo
   rw [hgo]
   refine zEp id j m { aftM m c2 M2 with nc := (zAd (aftM m c2 M2).nc (aftM m c2 M2).mem 9 e.val (aftM m c2 M2).count).1 } c2 M2 e hM hob hj hi hjn hne hdo (.inr ⟨hk, rfl, fun h1 h2 h3 h4 => ?_⟩)
   rw [hp]
   exact (zRO id j (aftM m c2 M2) e.val hMA h1 h2 h3 h4 hne hv).mono fun r nx' ob' h => ⟨.inr h.1, h.2⟩
theorem zSk (l : List Int) (hl : l.length ≤ 60) : zAD Tryz.prog 35 [.st (newD (imgD 1 l)).row, nilE, lv 87] (.tup [.st (itD (newD (imgD 1 l)) 87).row, .sl 4 false [], iv 0, iv 0]) := by
 have hi := zHt 1 l
 have h1 := zRk (zRT 1 l) (by omega)
 have h2 := zKy (w := imgD 1 l) (by omega)
 have hq : ∀ j < 87, zFm (itD (newD (imgD 1 l)) j) = true := by
  intro j hj
  rw [zRn l hl]
  exact List.all_eq_true.1 (k_q1 fun i => (zB9 l).getD i 0) j (List.mem_range.2 hj)
 have h0 : (newD (imgD 1 l)).count = 0 := rfl
 generalize newD (imgD 1 l) = m at *
 have hit : ∀ k ≤ 87, OkM (itD m k) ∧ mayD (itD m k) = true ∧ (itD m k).count = k ∧ (itD m k).dk = m.dk := fun k hk => it_ok h1 h2 h0 k (by omega) fun j hj => hq j (by omega)
 refine run_ok m 87 h2 ⟨h1.gv.1, by have := h1.gv.2; omega⟩ h0 (by omega) (by have := h1.n; omega) (fun k hk => ?_) (fun k hk => (hit k hk).2.2.1) (fun k hk => zQv _ (hit k (by omega)).1) (fun k hk => zOX _ (hit k (by omega)).1) (zQ3 m (by have := h1.n; omega)) (fun k hk {nx ob} id j g1 g2 g3 g4 g5 => ?_)
 ·have q := hq k hk
  unfold zFm at q
  simp only [Bool.and_eq_true, Bool.not_eq_true'] at q
  exact ⟨q.1, q.2.1, q.2.2.1⟩
 ·have q := hq k hk
  unfold zFm at q
  simp only [Bool.and_eq_true, Bool.not_eq_true'] at q
  exact zTH id j (itD m k) (hit k (by omega)).1 g1 g2 g3 g4 g5 q.2.2.2.1 q.2.2.2.2
theorem zPn (kind : Int) (l : List Int) (hl : l.length ≤ 60) : zAD Tryz.prog 13 [iv kind, .sl 1 false (ints .i64 l)] (.st (mkD (kind % 3) l).row) := zQ8 kind l hl (zSk l hl)
end Go.Proofs.YtjmhjieflbnehaaGreat
end
