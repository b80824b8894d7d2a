/- A part of the proof of ReplicaJoins. -/
import Derived.Test.YtjmhjieflbnehaaGreatP19
import Derived.Test.YtjmhjieflbnehaaGreatP20
import Derived.Test.YtjmhjieflbnehaaGreatP25
set_option linter.unusedSimpArgs false
set_option linter.unusedVariables false
set_option maxHeartbeats 16000000
set_option maxRecDepth 100000
section
namespace Go.Proofs.YtjmhjieflbnehaaGreat
open Go.Ab Go.RowKit
def sOp (op : Int) : Prop := op = 1 ∨ op = 16 ∨ op = 18 ∨ op = 20 ∨ op = 24 ∨ op = 35 ∨ op = 42 ∨ op = 57 ∨ op = 59 ∨ op = 61
theorem rdo_ok {nx : Nat} {ob : List (Nat × Option Ob)} (j : Nat) (c : CpuD) (l : List Int) (hc : OkC c) (hl : OkW l) (hp0 : zC1 c = false) (ho : sOp (decI (wAt (zAG c l c.pc 4 1).2.1 ((zAG c l c.pc 4 1).1 / 4))).op) (hj : lookO ob j = some (memO l)) (hjn : j < nx) :
  InlC Tryz.prog 139 [.st c.row, .own j] nx ob fun r nx' ob' => r = .tup [.st (zAs c l).1.row, .st (zAs c l).2.2.row] ∧ zE6 nx ob j (zAs c l).2.1 nx' ob' := by
 have n1 : ¬ j = nx := by omega
 have n2 : ¬ j = nx + 1 := by omega
 have n3 : ¬ j = nx + 1 + 1 := by omega
 have o1 : ¬ nx = j := by omega
 have o2 : ¬ nx + 1 = j := by omega
 have o3 : ¬ nx + 1 + 1 = j := by omega
 obtain ⟨R, hR⟩ : ∃ R, R = zAG c l c.pc 4 1 := ⟨_, rfl⟩
 have hin := zCj (c := c) (l := l) (va := c.pc) (s := 4) (acc := 1) (by omega) (by decide) hc hc.pc
 have hn := zBE c l c.pc 4 1
 have hw := zBy (c := c) (va := c.pc) (s := 4) (acc := 1) hl
 have hE : zAs c l = (if R.2.2 ≠ 0 then (zA8 c R.2.2 c.pc, R.2.1, zEff) else zBa c R.2.1 (wAt R.2.1 (R.1 / 4))) := by rw [hR]; rfl
 have hr : ∀ {nx : Nat} {ob : List (Nat × Option Ob)}, lookO ob j = some (memO l) → j < nx → InlC Tryz.prog 185 [.st c.row, .own j, uv c.pc, iv 4, iv 1] nx ob fun r nx' ob' => r = .tup [uv R.1, iv R.2.2] ∧ zE6 nx ob j R.2.1 nx' ob' := fun h1 h2 => by
  rw [hR]; exact zIY j c l c.pc 1 hc hc.pc (by omega) hp0 h1 h2
 rw [← hR] at hin hn hw ho
 obtain ⟨a, m, k⟩ := R
 simp only at hin hn hw hr hE ho
 refine InlC.of Tryz.func139 rfl (by kernel_rfl) rfl ?_
 simp only [Tryz.ntmps139, St.startI, argT]
 refine au ?_;intros;refine wr ?_
 first | refine .inr ((hr (by simp [lookO, n1, n2, n3, hj]) (by omega)).mono fun r nx' ob' hp => ?_) | refine (hr (by simp [lookO, n1, n2, n3, hj]) (by omega)).mono fun r nx' ob' hp => ?_ | refine ((hr (by simp [lookO, n1, n2, n3, hj]) (by omega)).mono fun r nx' ob' hp => ?_).2
 simp only [aftI]
 obtain ⟨rfl, g1, g2, g3⟩ := hp
 have y1 := g3 nx (by omega) (by omega)
 have y2 := g3 (nx + 1) (by omega) (by omega)
 have y3 := g3 (nx + 1 + 1) (by omega) (by omega)
 simp [lookO] at y1 y2 y3
 simp
 refine au ?_;intros;refine wr ?_
 by_cases hk : k = 0
 ·obtain ⟨i1, i2⟩ := hin hk
  have hx := zCF i1 i2.1
  rw [← hn] at hx
  have i3 : zAU m a 4 = true := by rw [zBf hn]; exact i1
  have hE1 : zAs c l = zBa c m (wAt m (a / 4)) := by rw [hE, if_neg (by simp [hk])]
  have hld : zBl m a 4 = wAt m (a / 4) := by simp [zBl]
  have hww : W32 (wAt m (a / 4)) := zMQ hw _
  generalize wAt m (a / 4) = w at hE1 hld hww ho
  refine gF10 @hk rfl ?_;intros;refine wr ?_
  first | refine .inr ((zOS j m a 4 g2 (by omega) i2).mono fun r nx' ob' hp => ?_) | refine (zOS j m a 4 g2 (by omega) i2).mono fun r nx' ob' hp => ?_ | refine ((zOS j m a 4 g2 (by omega) i2).mono fun r nx' ob' hp => ?_).2
  simp only [aftI]
  obtain ⟨rfl, rfl, rfl⟩ := hp
  simp [i3, hld]
  refine au ?_;intros;refine wr ?_
  have p1 : ¬ nx = nx' + 6 := by omega
  have p2 : ¬ nx = nx' + 5 := by omega
  have p3 : ¬ nx = nx' + 4 := by omega
  have p4 : ¬ j = nx' + 6 := by omega
  have q1 : ¬ nx' + 6 = nx := by omega
  have q2 : ¬ nx' + 5 = nx := by omega
  have q3 : ¬ nx' + 4 = nx := by omega
  have q4 : ¬ nx' + 6 = j := by omega
  cases hv : validD (decI w) with
  | false =>
   have e1 : zAs c l = (zA8 c 1 w, m, zEff) := by rw [hE1]; unfold zBa; rw [if_pos hv]
   have hd := zDb w hww
   unfold decV at hd
   rw [hv, if_neg (by simp)] at hd
   refine cX (hd) ?_;intros;refine wr ?_
   refine gT01 rfl (kX11 @y1 @y2 @y3 @p1 @p2 @p3 @p4 @q1 @q2 @q3 @q4) ?_;intros;refine wr ?_
   refine cZ (zB3 c 1 w hc) (kX5 @y2 @y3 @p1 @p2 @p3) (kX5 @y2 @y3 @p1 @p2 @p3) ?_;intros;refine wr ?_
   refine zAB ?_
   simp [e1, zEff]
   refine ⟨by omega, by simp [lookO, n1, n2, n3, p4, g2], fun i h1 h2 => ?_⟩
   have r1 : ¬ i = nx := by omega
   have r2 : ¬ i = nx + 1 := by omega
   have r3 : ¬ i = nx + 1 + 1 := by omega
   have r4 : ¬ i = nx' + 6 := by omega
   have e := g3 i (by omega) h2
   simp [lookO, r1, r2, r3, r4] at e
   simp [lookO, r1, r2, r3, r4, h2, e]
  | true =>
   have hd := zDb w hww
   unfold decV at hd
   rw [hv, if_pos rfl] at hd
   generalize hi : decI w = i at hd hv hE1 ho
   unfold sOp at ho
   refine cX (hd) ?_;intros;refine wr ?_
   refine gF01 rfl (kX8 @p1 @p2 @p3 @p4 @q1 @q2 @q3 @q4) ?_;intros;refine wr ?_
   have hpr := zQa i.op
   have hk1 := zO7 (hc.csr 0)
   cases hpv : zJq i.op with
   | true =>
    rw [hpv] at hpr
    by_cases hm : c.csr 0 % 2 = 0
    ·have e1 : zAs c l = (zA8 c 2 w, m, zEff) := by rw [hE1]; unfold zBa; rw [hi, if_neg (by simp [hv]), if_pos ⟨hpv, hm⟩]
     refine cZ (hpr) (kX3 @y1 @p1 @hk1) (kX5 @y1 @p1 @p2 @p3 @hk1) ?_;intros;refine wr ?_
     refine gT11 @hm rfl (kX4 @y1 @p1 @p2 @p3) ?_;intros;refine wr ?_
     refine cZ (zB3 c 2 w hc) (kX5 @y2 @y3 @p1 @p2 @p3) (kX5 @y2 @y3 @p1 @p2 @p3) ?_;intros;refine wr ?_
     refine zAB ?_
     simp [e1, zEff]
     refine ⟨by omega, by simp [lookO, n1, n2, n3, p4, g2], fun i h1 h2 => ?_⟩
     have r1 : ¬ i = nx := by omega
     have r2 : ¬ i = nx + 1 := by omega
     have r3 : ¬ i = nx + 1 + 1 := by omega
     have r4 : ¬ i = nx' + 6 := by omega
     have e := g3 i (by omega) h2
     simp [lookO, r1, r2, r3, r4] at e
     simp [lookO, r1, r2, r3, r4, h2, e]
    ·have e2 : zAs c l = if 32 ≤ i.op ∧ i.op ≤ 34 then ((zAy c m i).1, (zAy c m i).2, zEff) else if 35 ≤ i.op ∧ i.op ≤ 36 then ((zAS c m i).1, (zAS c m i).2, zEff) else ((zAH c i).1, m, (zAH c i).2) := by
      rw [hE1]; unfold zBa; rw [hi, if_neg (by simp [hv]), if_neg (fun q => hm q.2)]
     refine cZ (hpr) (kX3 @y1 @p1 @hk1) (kX5 @y1 @p1 @p2 @p3 @hk1) ?_;intros;refine wr ?_
     refine gF11 @hm rfl @p1 ?_;intros;refine wr ?_
     by_cases h56 : 56 ≤ i.op
     ·have e0 : zAs c l = ((zAH c i).1, m, (zAH c i).2) := by rw [e2, if_neg (by omega), if_neg (by omega)]
      have hs := zRl c i hc hv (by omega)
      unfold SyOk at hs
      generalize zAH c i = Z at hs e0
      refine gT11 @h56 rfl (kX2 @y1 @p1) ?_;intros;refine wr ?_
      refine cZ (hs) (kX5 @y2 @y3 @p1 @p2 @p3) (kX5 @y2 @y3 @p1 @p2 @p3) ?_;intros;refine wr ?_
      refine zAB ?_
      simp [e0]
      refine ⟨by omega, by simp [lookO, n1, n2, n3, p4, g2], fun i h1 h2 => ?_⟩
      have r1 : ¬ i = nx := by omega
      have r2 : ¬ i = nx + 1 := by omega
      have r3 : ¬ i = nx + 1 + 1 := by omega
      have r4 : ¬ i = nx' + 6 := by omega
      have e := g3 i (by omega) h2
      simp [lookO, r1, r2, r3, r4] at e
      simp [lookO, r1, r2, r3, r4, h2, e]
     refine gF11 @h56 rfl @p1 ?_;intros;refine wr ?_
     by_cases h40 : 40 ≤ i.op
     ·have e0 : zAs c l = ((zAH c i).1, m, zEff) := by rw [e2, if_neg (by omega), if_neg (by omega), zRv c i (by omega)]
      have hs := zRS c i hc (zA6 hv) (by omega)
      unfold JuOk at hs
      generalize zAH c i = Z at hs e0
      refine gT11 @h40 rfl (kX2 @y1 @p1) ?_;intros;refine wr ?_
      refine cZ (hs) (kX5 @y2 @y3 @p1 @p2 @p3) (kX5 @y2 @y3 @p1 @p2 @p3) ?_;intros;refine wr ?_
      refine zAB ?_
      simp [e0, zEff]
      refine ⟨by omega, by simp [lookO, n1, n2, n3, p4, g2], fun i h1 h2 => ?_⟩
      have r1 : ¬ i = nx := by omega
      have r2 : ¬ i = nx + 1 := by omega
      have r3 : ¬ i = nx + 1 + 1 := by omega
      have r4 : ¬ i = nx' + 6 := by omega
      have e := g3 i (by omega) h2
      simp [lookO, r1, r2, r3, r4] at e
      simp [lookO, r1, r2, r3, r4, h2, e]
     refine gF11 @h40 rfl @p1 ?_;intros;refine wr ?_
     by_cases h32 : 32 ≤ i.op
     ·have h35 : i.op = 35 := by omega
      have e0 : zAs c l = ((zAS c m i).1, (zAS c m i).2, zEff) := by rw [e2, if_neg (by omega), if_pos (by omega)]
      have ht : ∀ {nx : Nat} {ob : List (Nat × Option Ob)}, lookO ob j = some (memO m) → j < nx → InlC Tryz.prog 189 [.st c.row, .own j, .st i.row] nx ob fun r nx' ob' => r = .st (zAS c m i).1.row ∧ zE6 nx ob j (zAS c m i).2 nx' ob' := fun h1 h2 => zKr j c m i hc hw (zA6 hv) h35 hp0 h1 h2
      generalize zAS c m i = Z at ht e0
      refine gT11 @h32 rfl (kX2 @y1 @p1) ?_;intros;refine wr ?_
      obtain ⟨na, rfl⟩ : ∃ na, na = nx' := ⟨_, rfl⟩
      obtain ⟨oa, rfl⟩ : ∃ oa, oa = ob' := ⟨_, rfl⟩
      first | refine .inr ((ht (by simp [lookO, p4, g2]) (by omega)).mono fun r nx' ob' hp => ?_) | refine (ht (by simp [lookO, p4, g2]) (by omega)).mono fun r nx' ob' hp => ?_ | refine ((ht (by simp [lookO, p4, g2]) (by omega)).mono fun r nx' ob' hp => ?_).2
      simp only [aftI]
      obtain ⟨rfl, k1, k2, k3⟩ := hp
      have z2 := k3 (nx + 1) (by omega) (by omega)
      have z3 := k3 (nx + 1 + 1) (by omega) (by omega)
      simp [lookO, p1, p2, p3, y2] at z2
      simp [lookO, p1, p2, p3, y3] at z3
      simp [z2, z3]
      refine au1 (kX2 @z2 @z3) ?_;intros;refine wr ?_
      refine zAB ?_
      simp [e0, zEff]
      refine ⟨by omega, by simp [lookO, n2, n3, k2], fun v h1 h2 => ?_⟩
      have r1 : ¬ v = nx := by omega
      have r2 : ¬ v = nx + 1 := by omega
      have r3 : ¬ v = nx + 1 + 1 := by omega
      have r4 : ¬ v = na + 6 := by omega
      have e := g3 v (by omega) h2
      have e' := k3 v (by omega) h2
      simp [lookO, r1, r2, r3, r4] at e e'
      simp [lookO, r1, r2, r3, r4, h2, e, e']
     refine gF11 @h32 rfl @p1 ?_;intros;refine wr ?_
     obtain ⟨a0, a1, b0, b1, c0, c1⟩ := zA6 hv
     by_cases h24 : i.op = 24
     ·have e0 : zAs c l = ((c.setR i.a (uw (uw i.imm * 65536))).setP (uw (c.pc + 4)), m, zEff) := by
       rw [e2, if_neg (by omega), if_neg (by omega)]; unfold zAH; simp [h24]
      refine gT11 @h24 rfl (kX2 @y1 @p1) ?_;intros;refine wr ?_
      refine cZ (zEr c i.a (uw (uw i.imm * 65536)) a0 a1) (kX6 @y1 @y2 @y3 @p1 @p2 @p3) (kX6 @y1 @y2 @y3 @p1 @p2 @p3) ?_;intros;refine wr ?_
      refine zAB ?_
      simp [e0, zEff, CpuD.setP, zAw]
      refine ⟨by omega, by simp [lookO, n1, n2, n3, p4, g2], fun i h1 h2 => ?_⟩
      have r1 : ¬ i = nx := by omega
      have r2 : ¬ i = nx + 1 := by omega
      have r3 : ¬ i = nx + 1 + 1 := by omega
      have r4 : ¬ i = nx' + 6 := by omega
      have e := g3 i (by omega) h2
      simp [lookO, r1, r2, r3, r4] at e
      simp [lookO, r1, r2, r3, r4, h2, e]
     refine gF11 @h24 rfl @p1 ?_;intros;refine wr ?_
     have hop : i.op = 1 ∨ i.op = 16 ∨ i.op = 18 ∨ i.op = 20 := by omega
     have g := zAW c b0 b1
     have gc := zAW c c0 c1
     have e0 : zAs c l = ((c.setR i.a ((aluD i.op (c.x i.b.toNat) (if 16 ≤ i.op then uw i.imm else c.x i.c.toNat)).getD 0)).setP (uw (c.pc + 4)), m, zEff) := by
      rw [e2, if_neg (by omega), if_neg (by omega)]; unfold zAH
      iterate 13 rw [if_neg (by omega)]
     by_cases h13 : i.op ≤ 13
     ·rw [if_neg (by omega)] at e0
      refine gT11 @h13 rfl (kX3 @gc @y1 @p1) ?_;intros;refine wr ?_
      refine zAE ([0, 1, 2, 3, 4, 5, 6, 7, 8, 9, 10, 11, 12, 13] : List Nat) ([[], [0], [], [2], [], [2, 3, 4], [2, 3, 4, 5], [], [0, 1, 2, 3, 4, 5, 6, 7], [0, 1, 2, 3, 4, 5, 6, 7, 8], [0, 1, 2, 3, 4, 5, 6, 7, 8, 9], [0, 1, 2, 3, 4, 5, 6, 7, 8, 9], [0, 1, 2, 3, 4, 5, 6, 7, 8, 9, 10], [0, 1, 2, 3, 4, 5, 6, 7, 8, 9, 10, 11, 12]] : List (List Nat)) ([(8, ([[], [0], [], [2], [], [2, 3, 4], [2, 3, 4, 5], []], [])), (1, ([], [])), (1, ([], [])), (3, ([[], [], [0]], [])), (1, ([], []))] : List (Nat × List (List Nat) × List (Nat × Nat))) (by kernel_rfl) (by kernel_rfl) (by kernel_rfl) ?_
      refine af1 (kX3 @g @y1 @p1) ?_;intros;refine wr ?_
      refine cYf (zHF i.op (c.x i.b.toNat) (c.x i.c.toNat) (hc.x _) (hc.x _) hop) (kX2 @y1 @p1) ?_;intros;refine wr ?_
      refine cZf (zEr c i.a ((aluD i.op (c.x i.b.toNat) (c.x i.c.toNat)).getD 0) a0 a1) (kX6 @y1 @y2 @y3 @p1 @p2 @p3) (kX6 @y1 @y2 @y3 @p1 @p2 @p3) ?_;intros;refine wr ?_
      refine zAB ?_
      simp [e0, zEff, CpuD.setP, zAw]
      refine ⟨by omega, by simp [lookO, n1, n2, n3, p4, g2], fun i h1 h2 => ?_⟩
      have r1 : ¬ i = nx := by omega
      have r2 : ¬ i = nx + 1 := by omega
      have r3 : ¬ i = nx + 1 + 1 := by omega
      have r4 : ¬ i = nx' + 6 := by omega
      have e := g3 i (by omega) h2
      simp [lookO, r1, r2, r3, r4] at e
      simp [lookO, r1, r2, r3, r4, h2, e]
     ·rw [if_pos (by omega)] at e0
      refine zEn @h13 rfl @p1 ?_;intros;refine wr ?_
      refine zAE ([0, 1, 2, 3, 4, 5, 6, 7, 8, 9, 10, 11, 12, 13] : List Nat) ([[], [0], [], [2], [], [2, 3, 4], [2, 3, 4, 5], [], [0, 1, 2, 3, 4, 5, 6, 7], [0, 1, 2, 3, 4, 5, 6, 7, 8], [0, 1, 2, 3, 4, 5, 6, 7, 8, 9], [0, 1, 2, 3, 4, 5, 6, 7, 8, 9], [0, 1, 2, 3, 4, 5, 6, 7, 8, 9, 10], [0, 1, 2, 3, 4, 5, 6, 7, 8, 9, 10, 11, 12]] : List (List Nat)) ([(8, ([[], [0], [], [2], [], [2, 3, 4], [2, 3, 4, 5], []], [])), (1, ([], [])), (1, ([], [])), (3, ([[], [], [0]], [])), (1, ([], []))] : List (Nat × List (List Nat) × List (Nat × Nat))) (by kernel_rfl) (by kernel_rfl) (by kernel_rfl) ?_
      refine af1 (kX3 @g @y1 @p1) ?_;intros;refine wr ?_
      refine cYf (zHF i.op (c.x i.b.toNat) (uw i.imm) (hc.x _) (uw_w _) hop) (kX2 @y1 @p1) ?_;intros;refine wr ?_
      refine cZf (zEr c i.a ((aluD i.op (c.x i.b.toNat) (uw i.imm)).getD 0) a0 a1) (kX6 @y1 @y2 @y3 @p1 @p2 @p3) (kX6 @y1 @y2 @y3 @p1 @p2 @p3) ?_;intros;refine wr ?_
      refine zAB ?_
      simp [e0, zEff, CpuD.setP, zAw]
      refine ⟨by omega, by simp [lookO, n1, n2, n3, p4, g2], fun i h1 h2 => ?_⟩
      have r1 : ¬ i = nx := by omega
      have r2 : ¬ i = nx + 1 := by omega
      have r3 : ¬ i = nx + 1 + 1 := by omega
      have r4 : ¬ i = nx' + 6 := by omega
      have e := g3 i (by omega) h2
      simp [lookO, r1, r2, r3, r4] at e
      simp [lookO, r1, r2, r3, r4, h2, e]
   | false =>
    rw [hpv] at hpr
    have e2 : zAs c l = if 32 ≤ i.op ∧ i.op ≤ 34 then ((zAy c m i).1, (zAy c m i).2, zEff) else if 35 ≤ i.op ∧ i.op ≤ 36 then ((zAS c m i).1, (zAS c m i).2, zEff) else ((zAH c i).1, m, (zAH c i).2) := by
     rw [hE1]; unfold zBa; rw [hi, if_neg (by simp [hv]), if_neg (fun q => by rw [hpv] at q; simp at q)]
    refine cZf (hpr) (kX3 @y1 @p1 @hk1) (kX5 @y1 @p1 @p2 @p3 @hk1) ?_;intros;refine wr ?_
    refine gF01f rfl @p1 ?_;intros;refine wr ?_
    by_cases h56 : 56 ≤ i.op
    ·have e0 : zAs c l = ((zAH c i).1, m, (zAH c i).2) := by rw [e2, if_neg (by omega), if_neg (by omega)]
     have hs := zRl c i hc hv (by omega)
     unfold SyOk at hs
     generalize zAH c i = Z at hs e0
     refine zCt @h56 rfl (kX2 @y1 @p1) ?_;intros;refine wr ?_
     refine cZf (hs) (kX5 @y2 @y3 @p1 @p2 @p3) (kX5 @y2 @y3 @p1 @p2 @p3) ?_;intros;refine wr ?_
     refine zAB ?_
     simp [e0]
     refine ⟨by omega, by simp [lookO, n1, n2, n3, p4, g2], fun i h1 h2 => ?_⟩
     have r1 : ¬ i = nx := by omega
     have r2 : ¬ i = nx + 1 := by omega
     have r3 : ¬ i = nx + 1 + 1 := by omega
     have r4 : ¬ i = nx' + 6 := by omega
     have e := g3 i (by omega) h2
     simp [lookO, r1, r2, r3, r4] at e
     simp [lookO, r1, r2, r3, r4, h2, e]
    refine zEn @h56 rfl @p1 ?_;intros;refine wr ?_
    by_cases h40 : 40 ≤ i.op
    ·have e0 : zAs c l = ((zAH c i).1, m, zEff) := by rw [e2, if_neg (by omega), if_neg (by omega), zRv c i (by omega)]
     have hs := zRS c i hc (zA6 hv) (by omega)
     unfold JuOk at hs
     generalize zAH c i = Z at hs e0
     refine zCt @h40 rfl (kX2 @y1 @p1) ?_;intros;refine wr ?_
     refine cZf (hs) (kX5 @y2 @y3 @p1 @p2 @p3) (kX5 @y2 @y3 @p1 @p2 @p3) ?_;intros;refine wr ?_
     refine zAB ?_
     simp [e0, zEff]
     refine ⟨by omega, by simp [lookO, n1, n2, n3, p4, g2], fun i h1 h2 => ?_⟩
     have r1 : ¬ i = nx := by omega
     have r2 : ¬ i = nx + 1 := by omega
     have r3 : ¬ i = nx + 1 + 1 := by omega
     have r4 : ¬ i = nx' + 6 := by omega
     have e := g3 i (by omega) h2
     simp [lookO, r1, r2, r3, r4] at e
     simp [lookO, r1, r2, r3, r4, h2, e]
    refine zEn @h40 rfl @p1 ?_;intros;refine wr ?_
    by_cases h32 : 32 ≤ i.op
    ·have h35 : i.op = 35 := by omega
     have e0 : zAs c l = ((zAS c m i).1, (zAS c m i).2, zEff) := by rw [e2, if_neg (by omega), if_pos (by omega)]
     have ht : ∀ {nx : Nat} {ob : List (Nat × Option Ob)}, lookO ob j = some (memO m) → j < nx → InlC Tryz.prog 189 [.st c.row, .own j, .st i.row] nx ob fun r nx' ob' => r = .st (zAS c m i).1.row ∧ zE6 nx ob j (zAS c m i).2 nx' ob' := fun h1 h2 => zKr j c m i hc hw (zA6 hv) h35 hp0 h1 h2
     generalize zAS c m i = Z at ht e0
     refine zCt @h32 rfl (kX2 @y1 @p1) ?_;intros;refine wr ?_
     obtain ⟨na, rfl⟩ : ∃ na, na = nx' := ⟨_, rfl⟩
     obtain ⟨oa, rfl⟩ : ∃ oa, oa = ob' := ⟨_, rfl⟩
     first | refine .inr ((ht (by simp [lookO, p4, g2]) (by omega)).mono fun r nx' ob' hp => ?_) | refine (ht (by simp [lookO, p4, g2]) (by omega)).mono fun r nx' ob' hp => ?_ | refine ((ht (by simp [lookO, p4, g2]) (by omega)).mono fun r nx' ob' hp => ?_).2
     simp only [aftI]
     obtain ⟨rfl, k1, k2, k3⟩ := hp
     have z2 := k3 (nx + 1) (by omega) (by omega)
     have z3 := k3 (nx + 1 + 1) (by omega) (by omega)
     simp [lookO, p1, p2, p3, y2] at z2
     simp [lookO, p1, p2, p3, y3] at z3
     simp [z2, z3]
     refine af1 (kX2 @z2 @z3) ?_;intros;refine wr ?_
     refine zAB ?_
     simp [e0, zEff]
     refine ⟨by omega, by simp [lookO, n2, n3, k2], fun v h1 h2 => ?_⟩
     have r1 : ¬ v = nx := by omega
     have r2 : ¬ v = nx + 1 := by omega
     have r3 : ¬ v = nx + 1 + 1 := by omega
     have r4 : ¬ v = na + 6 := by omega
     have e := g3 v (by omega) h2
     have e' := k3 v (by omega) h2
     simp [lookO, r1, r2, r3, r4] at e e'
     simp [lookO, r1, r2, r3, r4, h2, e, e']
    refine zEn @h32 rfl @p1 ?_;intros;refine wr ?_
    obtain ⟨a0, a1, b0, b1, c0, c1⟩ := zA6 hv
    by_cases h24 : i.op = 24
    ·have e0 : zAs c l = ((c.setR i.a (uw (uw i.imm * 65536))).setP (uw (c.pc + 4)), m, zEff) := by
      rw [e2, if_neg (by omega), if_neg (by omega)]; unfold zAH; simp [h24]
     refine zCt @h24 rfl (kX2 @y1 @p1) ?_;intros;refine wr ?_
     refine cZf (zEr c i.a (uw (uw i.imm * 65536)) a0 a1) (kX6 @y1 @y2 @y3 @p1 @p2 @p3) (kX6 @y1 @y2 @y3 @p1 @p2 @p3) ?_;intros;refine wr ?_
     refine zAB ?_
     simp [e0, zEff, CpuD.setP, zAw]
     refine ⟨by omega, by simp [lookO, n1, n2, n3, p4, g2], fun i h1 h2 => ?_⟩
     have r1 : ¬ i = nx := by omega
     have r2 : ¬ i = nx + 1 := by omega
     have r3 : ¬ i = nx + 1 + 1 := by omega
     have r4 : ¬ i = nx' + 6 := by omega
     have e := g3 i (by omega) h2
     simp [lookO, r1, r2, r3, r4] at e
     simp [lookO, r1, r2, r3, r4, h2, e]
    refine zEn @h24 rfl @p1 ?_;intros;refine wr ?_
    have hop : i.op = 1 ∨ i.op = 16 ∨ i.op = 18 ∨ i.op = 20 := by omega
    have g := zAW c b0 b1
    have gc := zAW c c0 c1
    have e0 : zAs c l = ((c.setR i.a ((aluD i.op (c.x i.b.toNat) (if 16 ≤ i.op then uw i.imm else c.x i.c.toNat)).getD 0)).setP (uw (c.pc + 4)), m, zEff) := by
     rw [e2, if_neg (by omega), if_neg (by omega)]; unfold zAH
     iterate 13 rw [if_neg (by omega)]
    by_cases h13 : i.op ≤ 13
    ·rw [if_neg (by omega)] at e0
     refine zCt @h13 rfl (kX3 @gc @y1 @p1) ?_;intros;refine wr ?_
     refine zAE ([0, 1, 2, 3, 4, 5, 6, 7, 8, 9, 10, 11, 12, 13] : List Nat) ([[], [0], [], [2], [], [2, 3, 4], [2, 3, 4, 5], [], [0, 1, 2, 3, 4, 5, 6, 7], [0, 1, 2, 3, 4, 5, 6, 7, 8], [0, 1, 2, 3, 4, 5, 6, 7, 8, 9], [0, 1, 2, 3, 4, 5, 6, 7, 8, 9], [0, 1, 2, 3, 4, 5, 6, 7, 8, 9, 10], [0, 1, 2, 3, 4, 5, 6, 7, 8, 9, 10, 11, 12]] : List (List Nat)) ([(8, ([[], [0], [], [2], [], [2, 3, 4], [2, 3, 4, 5], []], [])), (1, ([], [])), (1, ([], [])), (3, ([[], [], [0]], [])), (1, ([], []))] : List (Nat × List (List Nat) × List (Nat × Nat))) (by kernel_rfl) (by kernel_rfl) (by kernel_rfl) ?_
     refine af1 (kX3 @g @y1 @p1) ?_;intros;refine wr ?_
     refine cYf (zHF i.op (c.x i.b.toNat) (c.x i.c.toNat) (hc.x _) (hc.x _) hop) (kX2 @y1 @p1) ?_;intros;refine wr ?_
     refine cZf (zEr c i.a ((aluD i.op (c.x i.b.toNat) (c.x i.c.toNat)).getD 0) a0 a1) (kX6 @y1 @y2 @y3 @p1 @p2 @p3) (kX6 @y1 @y2 @y3 @p1 @p2 @p3) ?_;intros;refine wr ?_
     refine zAB ?_
     simp [e0, zEff, CpuD.setP, zAw]
     refine ⟨by omega, by simp [lookO, n1, n2, n3, p4, g2], fun i h1 h2 => ?_⟩
     have r1 : ¬ i = nx := by omega
     have r2 : ¬ i = nx + 1 := by omega
     have r3 : ¬ i = nx + 1 + 1 := by omega
     have r4 : ¬ i = nx' + 6 := by omega
     have e := g3 i (by omega) h2
     simp [lookO, r1, r2, r3, r4] at e
     simp [lookO, r1, r2, r3, r4, h2, e]
    ·rw [if_pos (by omega)] at e0
     refine zEn @h13 rfl @p1 ?_;intros;refine wr ?_
     refine zAE ([0, 1, 2, 3, 4, 5, 6, 7, 8, 9, 10, 11, 12, 13] : List Nat) ([[], [0], [], [2], [], [2, 3, 4], [2, 3, 4, 5], [], [0, 1, 2, 3, 4, 5, 6, 7], [0, 1, 2, 3, 4, 5, 6, 7, 8], [0, 1, 2, 3, 4, 5, 6, 7, 8, 9], [0, 1, 2, 3, 4, 5, 6, 7, 8, 9], [0, 1, 2, 3, 4, 5, 6, 7, 8, 9, 10], [0, 1, 2, 3, 4, 5, 6, 7, 8, 9, 10, 11, 12]] : List (List Nat)) ([(8, ([[], [0], [], [2], [], [2, 3, 4], [2, 3, 4, 5], []], [])), (1, ([], [])), (1, ([], [])), (3, ([[], [], [0]], [])), (1, ([], []))] : List (Nat × List (List Nat) × List (Nat × Nat))) (by kernel_rfl) (by kernel_rfl) (by kernel_rfl) ?_
     refine af1 (kX3 @g @y1 @p1) ?_;intros;refine wr ?_
     refine cYf (zHF i.op (c.x i.b.toNat) (uw i.imm) (hc.x _) (uw_w _) hop) (kX2 @y1 @p1) ?_;intros;refine wr ?_
     refine cZf (zEr c i.a ((aluD i.op (c.x i.b.toNat) (uw i.imm)).getD 0) a0 a1) (kX6 @y1 @y2 @y3 @p1 @p2 @p3) (kX6 @y1 @y2 @y3 @p1 @p2 @p3) ?_;intros;refine wr ?_
     refine zAB ?_
     simp [e0, zEff, CpuD.setP, zAw]
     refine ⟨by omega, by simp [lookO, n1, n2, n3, p4, g2], fun i h1 h2 => ?_⟩
     have r1 : ¬ i = nx := by omega
     have r2 : ¬ i = nx + 1 := by omega
     have r3 : ¬ i = nx + 1 + 1 := by omega
     have r4 : ¬ i = nx' + 6 := by omega
     have e := g3 i (by omega) h2
     simp [lookO, r1, r2, r3, r4] at e
     simp [lookO, r1, r2, r3, r4, h2, e]
 ·have e1 : zAs c l = (zA8 c k c.pc, m, zEff) := by rw [hE, if_pos hk]
  refine zCt @hk rfl @y1 ?_;intros;refine wr ?_
  refine cZf (zB3 c k c.pc hc) (kX2 @y2 @y3) (kX2 @y2 @y3) ?_;intros;refine wr ?_
  refine zAB ?_
  simp [e1, zEff]
  refine ⟨by omega, by simp [lookO, n1, n2, n3, g2], fun i h1 h2 => ?_⟩
  have r1 : ¬ i = nx := by omega
  have r2 : ¬ i = nx + 1 := by omega
  have r3 : ¬ i = nx + 1 + 1 := by omega
  have e := g3 i (by omega) h2
  simp [lookO, r1, r2, r3] at e
  simp [lookO, r1, r2, r3, h2, e]
theorem zJO (t : TimD) : zAD Tryz.prog 253 [.st t.row] (.bool t.fired) := by
 refine sZ Tryz.func253 Tryz.ntmps253 ?_
 exact wx trivial trivial
theorem zJL (s : Str) : zAD Tryz.prog 254 [.st [.str s]] (.bool (!decide (s = []))) := by
 have e : decide (0 < (s.length : Int)) = !decide (s = []) := by cases s <;> simp <;> omega
 refine sZ Tryz.func254 Tryz.ntmps254 ?_
 exact wx1 trivial trivial @e
theorem zJH (d : DskD) : zAD Tryz.prog 255 [.st d.row] (.bool (zBj d)) := by
 refine sZ Tryz.func255 Tryz.ntmps255 ?_
 exact wx1 trivial trivial @zBj.eq_1
theorem zJM (n : NicD) : zAD Tryz.prog 256 [.st n.row] (.bool n.received) := by
 refine sZ Tryz.func256 Tryz.ntmps256 ?_
 exact wx trivial trivial
theorem zTW (v : Int) : zAD Tryz.prog 196 [uv v] (.st (armD v).row) := by
 refine sZ Tryz.func196 Tryz.ntmps196 ?_
 exact wx1 trivial trivial @armD.eq_1
def zDG (g : Int) (n : Nat) : Int := (List.range n).foldl (fun n i => n + g / 2 ^ i % 2) 0
@[simp] theorem countU_0 (g : Int) : zDG g 0 = 0 := rfl
theorem zK3 (g : Int) (n : Nat) : zDG g (n + 1) = zDG g n + g / 2 ^ n % 2 := by simp [zDG, List.range_succ, List.foldl_append]
theorem zKa (g : Int) : ∀ n : Nat, 0 ≤ zDG g n ∧ zDG g n ≤ n
 | 0 => by simp [zDG]
 | n + 1 => by have := zKa g n; rw [zK3]; omega
theorem zNY (t g : Int) (hg : W32 g) : zAD Tryz.prog 270 [.st [uv t, uv g]] (iv (countB g)) := by
 refine sX Tryz.func270 Tryz.ntmps270 ?_;intros;refine wr ?_
 obtain ⟨I, hI⟩ : ∃ I : Nat → St → Prop, I = (fun kk ss => ∃ (i : Nat) , i ≤ 32 ∧ kk = 32 - i ∧ (True) ∧ ss = ⟨19, [(4, .int .i64 i), (3, .int .i64 (zDG g i)), (1, .ptr 0 2 0 0)], 1, [(0, some ⟨40, 2, true, false, [[uv t, uv g]]⟩)], 0⟩) := ⟨_, rfl⟩
 refine lX I (id) (by rw [hI]; exact ⟨0, by simp, rfl, trivial, rfl⟩) ?_
 intro kk ss hIk _
 rw [hI] at hIk
 obtain ⟨i, hi, rfl, hx, rfl⟩ := hIk
 refine au ?_;intros;refine wr ?_
 refine zAA rfl (fun h => ?_) (fun h => ?_)
 ·simp at h
  have e1 : min i 32 = i := by omega
  have e2 : g.fdiv (2 ^ i) = g / 2 ^ i := Int.fdiv_eq_ediv_of_nonneg _ (Int.le_of_lt (Int.pow_pos (by decide)))
  have e3 : iand .u32 (g / 2 ^ i) 1 = g / 2 ^ i % 2 := zBD (g / 2 ^ i) 1 2 (by omega) (by decide)
  have e4 : IntKind.i64.wrap (g / 2 ^ i % 2) = g / 2 ^ i % 2 := zAC (by omega) (by omega)
  have e5 := zKa g i
  have e6 : IntKind.i64.wrap (zDG g i + g / 2 ^ i % 2) = zDG g (i + 1) := by rw [zK3]; exact zAC (by omega) (by omega)
  have e7 : IntKind.u64.wrap (i : Int) = i := u64_in (by omega) (by omega)
  refine au1 (kX6 @e1 @e2 @e3 @e4 @e6 @e7) ?_;intros;refine wr ?_
  exact aX (fun x => x) (by rw [hI]; exact ⟨i + 1, by omega, rfl, trivial, rfl⟩) (kX2 (zAC (n := (i : Int) + 1) (by omega) (by omega)) @e6)
 ·simp at h
  have hi : i = 32 := by omega
  subst hi
  refine au ?_;intros;refine wr ?_
  refine zAB ?_
  simp [countB, zDG]
theorem zJs (t g : Int) (hw : W32 g) (ht : W32 t) : zAD Tryz.prog 257 [.st [uv t, uv g]] (.bool (zA2 t g)) := by
 have hb := zDY hw
 have e : IntKind.u64.wrap (countB g) = countB g := u64_in (by omega) (by omega)
 have e2 : IntKind.u64.wrap t = t := u64_in ht.1 (by have := ht.2; omega)
 refine sZ Tryz.func257 Tryz.ntmps257 ?_
 (refine af1 (kX3 @e @e2 @zA2.eq_1) ?_; (repeat intro K hK); refine wr ?_)
 repeat' ((first | (refine zAA rfl (fun h => ?_) (fun h => ?_) <;> (first | (simp [e, e2, zA2] at h; done) | (simp [e, e2, zA2] at h) | skip) <;> (first | (exfalso; omega) | skip)) | refine cc1 (zNY t g hw) (kX3 @e @e2 @zA2.eq_1) ?_ | (refine zAE ([0, 1, 2, 3, 4, 5, 6, 7] : List Nat) ([[], [0], [0, 1], [], [3], [3, 4], [0, 1, 2, 3, 4, 5], [0, 1, 2, 3, 4, 5, 6]] : List (List Nat)) ([(6, ([[], [0], [0, 1], [], [3], [3, 4]], [(4, 1), (5, 1)])), (1, ([], [])), (1, ([], []))] : List (Nat × List (List Nat) × List (Nat × Nat))) (by kernel_rfl) (by kernel_rfl) (by kernel_rfl) ?_) | exact rt1 (kX3 @e @e2 @zA2.eq_1) | fail) <;> (refine af1 (kX3 @e @e2 @zA2.eq_1) ?_; (repeat intro K hK); refine wr ?_))
theorem zDy (b : Bool) (k : Int) (hk : 0 ≤ k ∧ k ≤ 4) : zAD Tryz.prog 252 [.bool b, iv k] (uv (b2w b * 2 ^ k.toNat)) := by
 have hk5 : k = 0 ∨ k = 1 ∨ k = 2 ∨ k = 3 ∨ k = 4 := by omega
 rcases hk5 with rfl | rfl | rfl | rfl | rfl
 ·refine sZ Tryz.func252 Tryz.ntmps252 ?_
  exact wx1 trivial trivial (kX3 @b2w.eq_1 @u32c @u64c)
 ·refine sZ Tryz.func252 Tryz.ntmps252 ?_
  exact wx1 trivial trivial (kX3 @b2w.eq_1 @u32c @u64c)
 ·refine sZ Tryz.func252 Tryz.ntmps252 ?_
  exact wx1 trivial trivial (kX3 @b2w.eq_1 @u32c @u64c)
 ·refine sZ Tryz.func252 Tryz.ntmps252 ?_
  exact wx1 trivial trivial (kX3 @b2w.eq_1 @u32c @u64c)
 ·refine sZ Tryz.func252 Tryz.ntmps252 ?_
  exact wx1 trivial trivial (kX3 @b2w.eq_1 @u32c @u64c)
theorem lor5 : ∀ p0 p1 p2 p3 p4 : Bool, ior .u32 (ior .u32 (ior .u32 (ior .u32 (b2w p0 * 2 ^ (0 : Int).toNat) (b2w p1 * 2 ^ (1 : Int).toNat)) (b2w p2 * 2 ^ (2 : Int).toNat)) (b2w p3 * 2 ^ (3 : Int).toNat)) (b2w p4 * 2 ^ (4 : Int).toNat) = b2w p0 + b2w p1 * 2 + b2w p2 * 4 + b2w p3 * 8 + b2w p4 * 16 := by decide
theorem zON (m : MchD) (hM : OkM m) : zAD Tryz.prog 182 [.st m.row] (uv (zE2 m)) := by
 have hb := zJs m.tgt m.given hM.gv hM.tg
 have ht := zJO m.tim
 have hk := zJL m.keys
 have hd := zJH m.dk
 have hn := zJM m.nc
 have hE : zE2 m = b2w m.tim.fired + b2w (!decide (m.keys = [])) * 2 + b2w (zBj m.dk) * 4 + b2w m.nc.received * 8 + b2w (zA2 m.tgt m.given) * 16 := rfl
 have l0 := zDy m.tim.fired 0 (by omega)
 have l1 := zDy (!decide (m.keys = [])) 1 (by omega)
 have l2 := zDy (zBj m.dk) 2 (by omega)
 have l3 := zDy m.nc.received 3 (by omega)
 have l4 := zDy (zA2 m.tgt m.given) 4 (by omega)
 have hL := lor5 m.tim.fired (!decide (m.keys = [])) (zBj m.dk) m.nc.received (zA2 m.tgt m.given)
 rw [← hE] at hL
 generalize b2w m.tim.fired * 2 ^ (0 : Int).toNat = v0 at *
 generalize b2w (!decide (m.keys = [])) * 2 ^ (1 : Int).toNat = v1 at *
 generalize b2w (zBj m.dk) * 2 ^ (2 : Int).toNat = v2 at *
 generalize b2w m.nc.received * 2 ^ (3 : Int).toNat = v3 at *
 generalize b2w (zA2 m.tgt m.given) * 2 ^ (4 : Int).toNat = v4 at *
 refine sX Tryz.func182 Tryz.ntmps182 ?_;intros;refine wr ?_
 refine zAE ([0, 1, 2, 3, 4, 5, 6, 7, 8, 9, 10, 11, 12, 13, 14, 15, 16, 17, 18, 19, 20, 21, 22, 23, 24] : List Nat) ([[], [0], [0, 1], [0, 1, 2], [], [4], [0, 1, 2, 3, 4, 5], [0, 1, 2, 3, 4, 5, 6], [0, 1, 2, 3, 4, 5, 6, 7], [], [9], [0, 1, 2, 3, 4, 5, 6, 7, 9, 10], [0, 1, 2, 3, 4, 5, 6, 7, 9, 10, 11], [0, 1, 2, 3, 4, 5, 6, 7, 8, 9, 10, 11, 12], [], [14], [0, 1, 2, 3, 4, 5, 6, 7, 9, 10, 11, 12, 14, 15], [0, 1, 2, 3, 4, 5, 6, 7, 9, 10, 11, 12, 14, 15, 16], [0, 1, 2, 3, 4, 5, 6, 7, 8, 9, 10, 11, 12, 13, 14, 15, 16, 17], [], [19], [0, 1, 2, 3, 4, 5, 6, 7, 9, 10, 11, 12, 14, 15, 16, 17, 19, 20], [0, 1, 2, 3, 4, 5, 6, 7, 9, 10, 11, 12, 14, 15, 16, 17, 19, 20, 21], [0, 1, 2, 3, 4, 5, 6, 7, 8, 9, 10, 11, 12, 13, 14, 15, 16, 17, 18, 19, 20, 21, 22], [0, 1, 2, 3, 4, 5, 6, 7, 8, 9, 10, 11, 12, 13, 14, 15, 16, 17, 18, 19, 20, 21, 22, 23]] : List (List Nat)) ([(23, ([[], [0], [0, 1], [0, 1, 2], [], [4], [0, 1, 2, 3, 4, 5], [0, 1, 2, 3, 4, 5, 6], [0, 1, 2, 3, 4, 5, 6, 7], [], [9], [0, 1, 2, 3, 4, 5, 6, 7, 9, 10], [0, 1, 2, 3, 4, 5, 6, 7, 9, 10, 11], [0, 1, 2, 3, 4, 5, 6, 7, 8, 9, 10, 11, 12], [], [14], [0, 1, 2, 3, 4, 5, 6, 7, 9, 10, 11, 12, 14, 15], [0, 1, 2, 3, 4, 5, 6, 7, 9, 10, 11, 12, 14, 15, 16], [0, 1, 2, 3, 4, 5, 6, 7, 8, 9, 10, 11, 12, 13, 14, 15, 16, 17], [], [19], [0, 1, 2, 3, 4, 5, 6, 7, 9, 10, 11, 12, 14, 15, 16, 17, 19, 20], [0, 1, 2, 3, 4, 5, 6, 7, 9, 10, 11, 12, 14, 15, 16, 17, 19, 20, 21]], [(5, 2), (5, 3), (10, 2), (10, 3), (10, 6), (10, 7), (15, 2), (15, 3), (15, 6), (15, 7), (15, 11), (15, 12), (20, 2), (20, 3), (20, 6), (20, 7), (20, 11), (20, 12), (20, 16), (20, 17)])), (1, ([], [])), (1, ([], []))] : List (Nat × List (List Nat) × List (Nat × Nat))) (by kernel_rfl) (by kernel_rfl) (by kernel_rfl) ?_
 refine af ?_;intros;refine wr ?_
 refine cXf (ht) ?_;intros;refine wr ?_
 refine cXf (l0) ?_;intros;refine wr ?_
 refine cXf (hk) ?_;intros;refine wr ?_
 refine cXf (l1) ?_;intros;refine wr ?_
 refine cXf (hd) ?_;intros;refine wr ?_
 refine cXf (l2) ?_;intros;refine wr ?_
 refine cXf (hn) ?_;intros;refine wr ?_
 refine cXf (l3) ?_;intros;refine wr ?_
 refine cXf (hb) ?_;intros;refine wr ?_
 refine cXf (l4) ?_;intros;refine wr ?_
 refine zAB ?_
 simp [hL]
theorem zF2 (m : MchD) (hM : OkM m) : zAD Tryz.prog 135 [.st m.row] (uv (enD m)) := by
 refine sX Tryz.func135 Tryz.ntmps135 ?_;intros;refine wr ?_
 refine zAE ([0, 1, 2, 3, 4, 5, 6, 7] : List Nat) ([[], [0], [], [2], [2, 3], [2, 3, 4], [0, 1, 2, 3, 4, 5], [0, 1, 2, 3, 4, 5, 6]] : List (List Nat)) ([(6, ([[], [0], [], [2], [2, 3], [2, 3, 4]], [(4, 1), (5, 1)])), (1, ([], [])), (1, ([], []))] : List (Nat × List (List Nat) × List (Nat × Nat))) (by kernel_rfl) (by kernel_rfl) (by kernel_rfl) ?_
 refine af ?_;intros;refine wr ?_
 refine cXf (zON m hM) ?_;intros;refine wr ?_
 refine zAB ?_
 simp [enD]
theorem zQv (m : MchD) (hM : OkM m) : zAD Tryz.prog 83 [.st m.row] (.bool (zHV m)) := by
 have he := zF2 m hM
 have hE : zHV m = (m.waiting && decide (enD m = 0)) := rfl
 rw [hE]
 generalize enD m = e at *
 refine sX Tryz.func83 Tryz.ntmps83 ?_;intros;refine wr ?_
 first | refine zA3 (he) rfl (fun hgd => ?_) (by simp [obsL]) ?_ | refine zAt (he) rfl (by simp) (fun hgd => ?_) (by simp [obsL]) ?_
 all_goals simp
 all_goals (try (first | exact hgd | (simp at hgd; first | done | assumption | grind)))
 refine au ?_;intros;refine wr ?_
 refine zAB ?_
 simp
 try rfl
theorem zCb {C D E G : Prop} (c : C) (d : D) (e : E) (t : C → D → E → G := by intro c d e; (refine au1 e ?_; (repeat intro K hK); refine wr ?_); repeat' ((first | (refine zAA rfl (fun h => ?_) (fun h => ?_) <;> (first | (simp [e] at h; done) | (simp [e] at h) | skip) <;> (first | (exfalso; omega) | skip)) | ((first | refine .inl ⟨1, _, d.1, ?_⟩ | refine ⟨1, _, d.1, ?_⟩); simp [aftC, aftE, noX, noXc, noX1, e]; first | refine And.intro zAL ?_ | skip) | ((first | refine .inl ⟨1, _, d.2.1, ?_⟩ | refine ⟨1, _, d.2.1, ?_⟩); simp [aftC, aftE, noX, noXc, noX1, e]; first | refine And.intro zAL ?_ | skip) | refine cc1 c.1 e ?_ | refine cc1 c.2.1 e ?_ | refine cc1 c.2.2.1 e ?_ | refine cc1 c.2.2.2.1 e ?_ | refine cc1 c.2.2.2.2.1 e ?_ | refine cc1 c.2.2.2.2.2.1 e ?_ | refine zAK 6 ?_ | refine zAF fun K hK => ?_ | exact rt1 e | fail) <;> (refine au1 e ?_; (repeat intro K hK); refine wr ?_))) : G := t c d e
theorem zTX (x y : Int) (h0 : 0 ≤ x) (h1 : x ≤ 31) : iand .u32 x y ≤ 31 := by
 unfold iand
 rw [show IntKind.u32.bits = 32 from rfl, BitVec.toNat_and, zCP, IntKind.wrap_u32]
 have h : (x % 4294967296).toNat &&& (BitVec.ofInt 32 y).toNat ≤ (x % 4294967296).toNat := Nat.and_le_left
 omega
theorem enD_le (m : MchD) (hM : OkM m) : enD m ≤ 31 := by
 have hr := zLJ m
 exact zTX _ _ hr.1 hr.2
theorem zJh (m : MchD) (hM : OkM m) : zAD Tryz.prog 136 [.st m.row] (.st (zAM m).cpu.row) := by
 have he := zF2 m hM
 have i2 := zTO (hM.c.csr 0)
 by_cases hs : m.cpu.csr 0 / 2 % 2 = 0
 ·have hE : (zAM m).cpu = m.cpu := by unfold zAM; rw [if_pos hs]
  rw [hE]
  refine sZ Tryz.func136 Tryz.ntmps136 ?_
  exact wx1 (qX1 (he)) trivial (kX2 @i2 @hs)
 ·have hs1 : m.cpu.csr 0 / 2 % 2 = 1 := by omega
  by_cases h0 : enD m = 0
  ·have hE : (zAM m).cpu = m.cpu := by unfold zAM; rw [if_neg hs, h0]; rfl
   rw [hE]
   rw [h0] at he
   refine sZ Tryz.func136 Tryz.ntmps136 ?_
   exact wx1 (qX1 (he)) trivial (kX2 @i2 @hs1)
  ·have hr := zLJ m
   have hew := enD_w m
   have hle : enD m ≤ 31 := enD_le m hM
   have hne := h0
   have j0 := zO7 hew
   have jj : ∀ k : Int, 0 ≤ k → iand .u32 ((enD m).fdiv k) 1 = (enD m) / k % 2 := fun k hk => by
    rw [Int.fdiv_eq_ediv_of_nonneg _ hk]; exact zBD (enD m / k) 1 2 (by omega) (by decide)
   have j1 := jj 2 (by decide)
   have j2 := jj 4 (by decide)
   have j3 := jj 8 (by decide)
   have j4 := jj 16 (by decide)
   have z : ∀ x : Int, ¬ x % 2 = 1 → x % 2 = 0 := fun x hx => by omega
   by_cases h0 : enD m % 2 = 1
   ·have hE : (zAM m).cpu = zA8 m.cpu (16 + 0) 0 := by unfold zAM lowB; rw [if_neg (by omega)]; simp [h0]
    rw [hE]
    refine sX Tryz.func136 Tryz.ntmps136 ?_;intros;refine wr ?_
    exact zCb (qX2 (he) (zB3 m.cpu (16 + 0) 0 hM.c)) trivial (kX12 @i2 @hs1 @hne @j0 @j1 @j2 @j3 @j4 @u32c @u64c @i64c @h0)
   ·have z0 := z _ h0
    by_cases h1 : enD m / 2 % 2 = 1
    ·have hE : (zAM m).cpu = zA8 m.cpu (16 + 1) 0 := by unfold zAM lowB; rw [if_neg (by omega)]; simp [z0, h1]
     rw [hE]
     refine sX Tryz.func136 Tryz.ntmps136 ?_;intros;refine wr ?_
     exact zCb (qX2 (he) (zB3 m.cpu (16 + 1) 0 hM.c)) trivial (kX13 @i2 @hs1 @hne @j0 @j1 @j2 @j3 @j4 @u32c @u64c @i64c @z0 @h1)
    ·have z1 := z _ h1
     by_cases h2 : enD m / 4 % 2 = 1
     ·have hE : (zAM m).cpu = zA8 m.cpu (16 + 2) 0 := by unfold zAM lowB; rw [if_neg (by omega)]; simp [z0, z1, h2]
      rw [hE]
      refine sX Tryz.func136 Tryz.ntmps136 ?_;intros;refine wr ?_
      exact zCb (qX2 (he) (zB3 m.cpu (16 + 2) 0 hM.c)) trivial (kX14 @i2 @hs1 @hne @j0 @j1 @j2 @j3 @j4 @u32c @u64c @i64c @z0 @z1 @h2)
     ·have z2 := z _ h2
      by_cases h3 : enD m / 8 % 2 = 1
      ·have hE : (zAM m).cpu = zA8 m.cpu (16 + 3) 0 := by unfold zAM lowB; rw [if_neg (by omega)]; simp [z0, z1, z2, h3]
       rw [hE]
       refine sX Tryz.func136 Tryz.ntmps136 ?_;intros;refine wr ?_
       exact zCb (qX2 (he) (zB3 m.cpu (16 + 3) 0 hM.c)) trivial (kX15 @i2 @hs1 @hne @j0 @j1 @j2 @j3 @j4 @u32c @u64c @i64c @z0 @z1 @z2 @h3)
      ·have z3 := z _ h3
       by_cases h4 : enD m / 16 % 2 = 1
       ·have hE : (zAM m).cpu = zA8 m.cpu (16 + 4) 0 := by unfold zAM lowB; rw [if_neg (by omega)]; simp [z0, z1, z2, z3, h4]
        rw [hE]
        refine sX Tryz.func136 Tryz.ntmps136 ?_;intros;refine wr ?_
        exact zCb (qX2 (he) (zB3 m.cpu (16 + 4) 0 hM.c)) trivial (kX16 @i2 @hs1 @hne @j0 @j1 @j2 @j3 @j4 @u32c @u64c @i64c @z0 @z1 @z2 @z3 @h4)
       ·omega
theorem zNl (l : List Int) (f : Int) (h : W32 f) : zAD Tryz.prog 180 [memV l, uv f] (.bool (decide (f < pagesD l))) := by
 have e1 : IntKind.u64.wrap f = f := u64_in h.1 (by have := h.2; omega)
 have e2 : IntKind.u64.wrap (pagesD l) = pagesD l := u64_in (zAf l).1 (by have := zAf l; omega)
 refine sZ Tryz.func180 Tryz.ntmps180 ?_
 exact wx1 (qX1 (zDH l)) trivial (kX2 @e1 @e2)
theorem zB2 {C D E G : Prop} (c : C) (d : D) (e : E) (t : C → D → E → G := by intro c d e; (refine af1 e ?_; (repeat intro K hK); refine wr ?_); repeat' ((first | (refine zAA rfl (fun h => ?_) (fun h => ?_) <;> (first | (simp [e] at h; done) | (simp [e] at h) | skip) <;> (first | (exfalso; omega) | skip)) | ((first | refine .inl ⟨1, _, d.1, ?_⟩ | refine ⟨1, _, d.1, ?_⟩); simp [aftC, aftE, noX, noXc, noX1, e]; first | refine And.intro zAL ?_ | skip) | ((first | refine .inl ⟨1, _, d.2.1, ?_⟩ | refine ⟨1, _, d.2.1, ?_⟩); simp [aftC, aftE, noX, noXc, noX1, e]; first | refine And.intro zAL ?_ | skip) | refine cc1 c.1 e ?_ | refine cc1 c.2.1 e ?_ | refine cc1 c.2.2.1 e ?_ | refine cc1 c.2.2.2.1 e ?_ | refine cc1 c.2.2.2.2.1 e ?_ | refine cc1 c.2.2.2.2.2.1 e ?_ | (refine zBe (.node 7 8 (.leaf [0, 1, 2, 3, 4, 5, 6, 7, 8, 9] [[], [], [], [], [3], [2, 3, 4], [1, 2, 3, 4, 5], [1, 2, 3, 4, 5, 6], [0, 1, 2, 3, 4, 5, 6, 7], [0, 1, 2, 3, 4, 5, 6, 7, 8]] [(8, ([[], [], [], [], [3], [2, 3, 4], [1, 2, 3, 4, 5], [1, 2, 3, 4, 5, 6]], [(0, 7)])), (1, ([], [])), (1, ([], []))]) (.leaf [0, 1, 2, 3, 4, 5, 6, 8, 7, 9] [[], [], [], [], [3], [2, 3, 4], [1, 2, 3, 4, 5], [0], [0, 1, 2, 3, 4, 5, 6, 7], [0, 1, 2, 3, 4, 5, 6, 7, 8]] [(8, ([[], [], [], [], [3], [2, 3, 4], [1, 2, 3, 4, 5], [0]], [(4, 7), (5, 7)])), (1, ([], [])), (1, ([], []))])) (by kernel_rfl) (by kernel_rfl) ?_; simp only [PT.run]; repeat' (with_reducible apply And.intro); all_goals (simp only [zB0, List.map_cons, List.map_nil, List.getD_cons_zero, List.getD_cons_succ])) | exact rt1 e | fail) <;> (refine af1 e ?_; (repeat intro K hK); refine wr ?_))) : G := t c d e
abbrev zE0 (n : NicD) (l : List Int) (p v t : Int) : Prop := zAD Tryz.prog 198 [.st n.row, memV l, iv p, uv v, lv t] (.tup [.st (zAd n l p v t).1.row, zJw (zAd n l p v t).2])
theorem zMu (n : NicD) (l : List Int) (p v t : Int) (h9 : ¬ p = 9) : zE0 n l p v t := by
 unfold zE0
 by_cases h7 : p = 7
 ·subst h7
  refine sZ Tryz.func198 Tryz.ntmps198 ?_
  exact zB2 trivial trivial @zAd.eq_1
 ·by_cases h8 : p = 8
  ·subst h8
   refine sZ Tryz.func198 Tryz.ntmps198 ?_
   exact zB2 trivial trivial @zAd.eq_1
  ·refine sZ Tryz.func198 Tryz.ntmps198 ?_
   exact zB2 trivial trivial (kX4 @h7 @h8 @h9 @zAd.eq_1)
theorem zNv (n : NicD) (l : List Int) (v t : Int) (hf : W32 n.frame) (h1 : ¬ v = 1) : zE0 n l 9 v t := by
 unfold zE0
 have hp := zAf l
 have hg := zNl l n.frame hf
 by_cases h0 : v = 0
 ·subst h0
  refine sZ Tryz.func198 Tryz.ntmps198 ?_
  exact zB2 trivial trivial @zAd.eq_1
 ·by_cases h2 : v = 2
  ·subst h2
   by_cases hq : n.frame < pagesD l
   ·by_cases hr : n.posted = false ∧ n.received = false
    ·have hE : zAd n l 9 2 t = ({ n with posted := true, buffer := n.frame }, []) := by
      unfold zAd; rw [if_neg (by omega), if_neg (by omega), if_pos rfl, if_neg (by omega), if_pos rfl, if_pos ⟨hq, hr.1, hr.2⟩]
     rw [hE]
     refine sZ Tryz.func198 Tryz.ntmps198 ?_
     exact zB2 (qX1 (hg)) trivial (kX3 @hq @hr.1 @hr.2)
    ·have hE : zAd n l 9 2 t = (n, []) := by
      unfold zAd; rw [if_neg (by omega), if_neg (by omega), if_pos rfl, if_neg (by omega), if_pos rfl, if_neg (fun q => hr q.2)]
     rw [hE]
     cases hpo : n.posted with
     | true =>
      refine sZ Tryz.func198 Tryz.ntmps198 ?_
      exact zB2 (qX1 (hg)) trivial (kX2 @hq @hpo)
     | false =>
      have hre : n.received = true := by simpa [hpo] using hr
      refine sZ Tryz.func198 Tryz.ntmps198 ?_
      exact zB2 (qX1 (hg)) trivial (kX3 @hq @hpo @hre)
   ·have hE : zAd n l 9 2 t = (n, []) := by
     unfold zAd; rw [if_neg (by omega), if_neg (by omega), if_pos rfl, if_neg (by omega), if_pos rfl, if_neg (fun q => hq q.1)]
    rw [hE]
    refine sZ Tryz.func198 Tryz.ntmps198 ?_
    exact zB2 (qX1 (hg)) trivial @hq
  ·have hE : zAd n l 9 v t = (n, []) := by simp [zAd, h0, h1, h2]
   rw [hE]
   have b1 : (v == 1) = false := by simp [h1]
   have b2 : (v == 2) = false := by simp [h2]
   refine sZ Tryz.func198 Tryz.ntmps198 ?_
   exact zB2 trivial trivial (kX5 @h0 @h1 @h2 @b1 @b2)
end Go.Proofs.YtjmhjieflbnehaaGreat
end
