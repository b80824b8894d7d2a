/- A part of the proof of ReplicaJoins. -/
import Derived.Test.YtjmhjieflbnehaaGreatP16
import Derived.Test.YtjmhjieflbnehaaGreatP18
set_option linter.unusedSimpArgs false
set_option linter.unusedVariables false
set_option maxHeartbeats 16000000
set_option maxRecDepth 100000
section
namespace Go.Proofs.YtjmhjieflbnehaaGreat
open Go.Ab Go.RowKit
theorem zCy {C D E G : Prop} (c : C) (d : D) (e : E) (t : C → D → E → G := by intro c d e; (refine af1 e ?_; (repeat intro K hK); refine wr ?_); repeat' ((first | (refine zAA rfl (fun h => ?_) (fun h => ?_) <;> (first | (simp [e] at h; done) | (simp [e] at h) | skip) <;> (first | (exfalso; omega) | skip)) | ((first | refine .inl ⟨1, _, d.1, ?_⟩ | refine ⟨1, _, d.1, ?_⟩); simp [aftC, aftE, noX, noXc, noX1, e]; first | refine And.intro zAL ?_ | skip) | ((first | refine .inl ⟨1, _, d.2.1, ?_⟩ | refine ⟨1, _, d.2.1, ?_⟩); simp [aftC, aftE, noX, noXc, noX1, e]; first | refine And.intro zAL ?_ | skip) | refine cc1 c.1 e ?_ | refine cc1 c.2.1 e ?_ | refine cc1 c.2.2.1 e ?_ | refine cc1 c.2.2.2.1 e ?_ | refine cc1 c.2.2.2.2.1 e ?_ | refine cc1 c.2.2.2.2.2.1 e ?_ | (refine zAE (rid := 9) ([0, 1, 2, 3, 4, 5, 6] : List Nat) ([[], [0], [], [2], [0, 1], [0, 1, 4], [0, 1, 2, 3, 4, 5]] : List (List Nat)) ([(6, ([[], [0], [], [2], [0, 1], [0, 1, 4]], [(3, 1)])), (1, ([], []))] : List (Nat × List (List Nat) × List (Nat × Nat))) (by kernel_rfl) (by kernel_rfl) (by kernel_rfl) ?_) | (refine zAE (rid := 10) ([0, 1, 2, 3, 4, 5, 6, 7, 8, 9] : List Nat) ([[], [0], [], [], [3], [], [2, 3, 4, 5], [0, 1, 2, 3, 4, 5, 6], [0, 1, 2, 3, 4, 5, 6, 7], [0, 1, 2, 3, 4, 5, 6, 7, 8]] : List (List Nat)) ([(7, ([[], [0], [], [], [3], [], [2, 3, 4, 5]], [(1, 6)])), (1, ([], [])), (1, ([], [])), (1, ([], []))] : List (Nat × List (List Nat) × List (Nat × Nat))) (by kernel_rfl) (by kernel_rfl) (by kernel_rfl) ?_) | exact rt1 e | fail) <;> (refine af1 e ?_; (repeat intro K hK); refine wr ?_))) : G := t c d e
theorem zF6 {l : List Int} {root va acc a e : Int} (h : zGc l root va acc = some (a, e)) (hr : W32 root) (hv : W32 va) : zAU l e 4 = true ∧ W32 e ∧ W32 a ∧ a / 128 < pagesD l ∧ a % 128 = va % 128 := by
 unfold zGc at h
 split at h
 ·rename_i q
  obtain ⟨q1, q2, q3, q4⟩ := q
  injection h with h
  injection h with ha he
  subst ha he
  have := zAf l
  have h0 := hr.1
  have h1 := hv.1
  refine ⟨zKJ q2 h0 q1 h1, ⟨by omega, by omega⟩, ⟨by omega, by omega⟩, by omega, by omega⟩
 ·cases h
theorem zS6 {l : List Int} {e acc : Int} (h : OkW l) : OkW (zD3 l e acc) := by
 unfold zD3
 refine zS4 h ?_
 unfold zKO
 split <;> (unfold ior; rw [IntKind.wrap_u32]; constructor <;> omega)
theorem zMx (l : List Int) (e acc : Int) : (zD3 l e acc).length = l.length := by simp [zD3]
theorem zBy {c : CpuD} {l : List Int} {va s acc : Int} (h : OkW l) : OkW (zAG c l va s acc).2.1 := by
 unfold zAG
 split
 ·exact h
 ·split
  ·split
   ·exact h
   ·exact zS6 h
  ·split <;> exact h
theorem zBE (c : CpuD) (l : List Int) (va s acc : Int) : (zAG c l va s acc).2.1.length = l.length := by
 unfold zAG
 split
 ·rfl
 ·split
  ·split
   ·rfl
   ·exact zMx _ _ _
  ·split <;> rfl
theorem zCq {l l' : List Int} (h : l.length = l'.length) : pagesD l = pagesD l' := by unfold pagesD; rw [h]
theorem zBf {l l' : List Int} (h : l.length = l'.length) (a s : Int) : zAU l a s = zAU l' a s := by unfold zAU; rw [zCq h]
theorem zCj {c : CpuD} {l : List Int} {va s acc : Int} (hs : s = 1 ∨ s = 4) (ha : 0 < acc + 3) (hc : OkC c) (hv : W32 va) (h : (zAG c l va s acc).2.2 = 0) : zAU l (zAG c l va s acc).1 s = true ∧ W32 (zAG c l va s acc).1 := by
 unfold zAG at h ⊢
 split at h
 ·simp at h
 ·rename_i h1
  rw [if_neg h1]
  split at h
  ·rename_i h2
   rw [if_pos h2]
   split at h
   ·simp at h; omega
   ·rename_i a e q
    obtain ⟨f1, f2, f3, f4, f5⟩ := zF6 q (hc.csr 6) hv
    refine ⟨?_, f3⟩
    unfold zAU
    simp only [Bool.and_eq_true, Bool.or_eq_true, decide_eq_true_eq]
    rcases hs with rfl | rfl <;> omega
  ·rename_i h2
   rw [if_neg h2]
   split at h
   ·rename_i h3
    rw [if_pos h3]
    exact ⟨h3, hv⟩
   ·simp at h; omega
theorem zEm (c : CpuD) (l : List Int) (va s acc : Int) (hs : s = 1 ∨ s = 4) (ha : acc = 1 ∨ acc = 2 ∨ acc = 3) (hc : OkC c) (hv : W32 va) (hl : OkW l) (hb : l.length ≤ 100000) :
  zAD Tryz.prog 291 [.st c.row, memV l, uv va, iv s, iv acc] (.tup [uv (zAG c l va s acc).1, memV (zAG c l va s acc).2.1, iv (zAG c l va s acc).2.2]) := by
 have c4 := iand4 (hc.csr 0)
 have m4 : va.tmod s = va % s := Int.tmod_eq_emod_of_nonneg hv.1
 have ws : IntKind.u32.wrap s = s := by rcases hs with rfl | rfl <;> decide
 have s0 : ¬ s = 0 := by rcases hs with rfl | rfl <;> decide
 have sx : ¬ s = 1 → s = 4 := by rcases hs with rfl | rfl <;> simp
 have hcl := zBQ (ints .u32 l) false 1 (.inl rfl) (by rw [zAP]; exact hb)
 by_cases h1 : va % s = 0
 ·by_cases h2 : zC1 c = true
  ·have p1 : c.csr 0 % 2 = 0 := by unfold zC1 at h2; simp at h2; exact h2.1
   have p2 : c.csr 0 / 4 % 2 = 1 := by unfold zC1 at h2; simp at h2; exact h2.2
   have hw := zST l (c.csr 6) va acc (hc.csr 6) hv ha
   cases q : zGc l (c.csr 6) va acc with
   | none =>
    have e : zAG c l va s acc = (0, l, acc + 3) := by unfold zAG; rw [if_neg (by omega), if_pos h2, q]
    rw [show zDm l (c.csr 6) va acc = .st [uv 0, uv 0, iv (acc + 3)] by unfold zDm; rw [q]] at hw
    rw [e]
    have n3 : ¬ acc + 3 = 0 := by omega
    refine sZ Tryz.func291 Tryz.ntmps291 ?_
    exact zCy (qX4 (zBt acc ha) (kernel_ok c hc) (hw) (hcl)) trivial (kX9 @c4 @m4 @ws @s0 @sx @h1 @p1 @p2 @n3)
   | some w =>
    obtain ⟨a, e⟩ := w
    obtain ⟨f1, f2, f3, f4, f5⟩ := zF6 q (hc.csr 6) hv
    have e' : zAG c l va s acc = (a, zD3 l e acc, 0) := by unfold zAG; rw [if_neg (by omega), if_pos h2, q]
    rw [show zDm l (c.csr 6) va acc = .st [uv a, uv e, iv 0] by unfold zDm; rw [q]] at hw
    rw [e']
    have ht := zQY l e acc f1 f2 hl hb
    refine sZ Tryz.func291 Tryz.ntmps291 ?_
    exact zCy (qX4 (zBt acc ha) (kernel_ok c hc) (hw) (ht)) trivial (kX8 @c4 @m4 @ws @s0 @sx @h1 @p1 @p2)
  ·have p : c.csr 0 % 2 = 0 → ¬ c.csr 0 / 4 % 2 = 1 := by
    intro p1 p2
    apply h2
    unfold zC1
    simp [p1, p2]
   have p' : c.csr 0 % 2 = 0 → c.csr 0 / 4 % 2 = 0 := fun z => by have := p z; omega
   have hL := zDx l va s hs hv
   cases h3 : zAU l va s with
   | true =>
    have e : zAG c l va s acc = (va, l, 0) := by unfold zAG; rw [if_neg (by omega), if_neg h2, if_pos h3]
    rw [e]
    rw [h3] at hL
    by_cases p1 : c.csr 0 % 2 = 0
    ·have p2 := p' p1
     refine sZ Tryz.func291 Tryz.ntmps291 ?_
     exact zCy (qX4 (zBt acc ha) (kernel_ok c hc) (hL) (hcl)) trivial (kX8 @c4 @m4 @ws @s0 @sx @h1 @p1 @p2)
    ·refine sZ Tryz.func291 Tryz.ntmps291 ?_
     exact zCy (qX4 (zBt acc ha) (kernel_ok c hc) (hL) (hcl)) trivial (kX7 @c4 @m4 @ws @s0 @sx @h1 @p1)
   | false =>
    have e : zAG c l va s acc = (0, l, acc + 3) := by unfold zAG; rw [if_neg (by omega), if_neg h2, if_neg (by simp [h3])]
    rw [e]
    rw [h3] at hL
    by_cases p1 : c.csr 0 % 2 = 0
    ·have p2 := p' p1
     refine sZ Tryz.func291 Tryz.ntmps291 ?_
     exact zCy (qX4 (zBt acc ha) (kernel_ok c hc) (hL) (hcl)) trivial (kX8 @c4 @m4 @ws @s0 @sx @h1 @p1 @p2)
    ·refine sZ Tryz.func291 Tryz.ntmps291 ?_
     exact zCy (qX4 (zBt acc ha) (kernel_ok c hc) (hL) (hcl)) trivial (kX7 @c4 @m4 @ws @s0 @sx @h1 @p1)
 ·have e : zAG c l va s acc = (0, l, 3) := by unfold zAG; rw [if_pos h1]
  rw [e]
  refine sZ Tryz.func291 Tryz.ntmps291 ?_
  exact zCy (qX2 (zBt acc ha) (hcl)) trivial (kX5 @m4 @ws @s0 @sx @h1)
def zIi (c : CpuD) (l : List Int) : Int × List Int × Int :=
 (if (zAG c l c.pc 4 1).2.2 = 0 then wAt (zAG c l c.pc 4 1).2.1 ((zAG c l c.pc 4 1).1 / 4) else 0, (zAG c l c.pc 4 1).2.1, (zAG c l c.pc 4 1).2.2)
theorem zPj (c : CpuD) (l : List Int) (hc : OkC c) (hl : OkW l) (hb : l.length ≤ 100000) :
  zAD Tryz.prog 229 [.st c.row, memV l] (.tup [uv (zIi c l).1, memV (zIi c l).2.1, iv (zIi c l).2.2]) := by
 have hr := zEm c l c.pc 4 1 (.inr rfl) (.inl rfl) hc hc.pc hl hb
 have hi := zCj (c := c) (l := l) (va := c.pc) (s := 4) (acc := 1) (.inr rfl) (by decide) hc hc.pc
 have hn := zBE c l c.pc 4 1
 unfold zIi
 generalize zAG c l c.pc 4 1 = R at *
 obtain ⟨a, m, k⟩ := R
 simp only at hr hi hn ⊢
 by_cases hk : k = 0
 ·obtain ⟨i1, i2⟩ := hi hk
  have hL := zDx m a 4 (.inr rfl) i2
  rw [zBf hn, i1] at hL
  simp only [if_true] at hL
  rw [show zBl m a 4 = wAt m (a / 4) by simp [zBl]] at hL
  refine sZ Tryz.func229 Tryz.ntmps229 ?_
  exact wx1 (qX2 (hr) (hL)) trivial @hk
 ·refine sZ Tryz.func229 Tryz.ntmps229 ?_
  exact wx1 (qX1 (hr)) trivial @hk
theorem zHs {C D E G : Prop} (c : C) (d : D) (e : E) (t : C → D → E → G := by intro c d e; (refine af1 e ?_; (repeat intro K hK); refine wr ?_); repeat' ((first | (refine zAA rfl (fun h => ?_) (fun h => ?_) <;> (first | (simp [e] at h; done) | (simp [e] at h) | skip) <;> (first | (exfalso; omega) | skip)) | ((first | refine .inl ⟨1, _, d.1, ?_⟩ | refine ⟨1, _, d.1, ?_⟩); simp [aftC, aftE, noX, noXc, noX1, e]; first | refine And.intro zAL ?_ | skip) | ((first | refine .inl ⟨1, _, d.2.1, ?_⟩ | refine ⟨1, _, d.2.1, ?_⟩); simp [aftC, aftE, noX, noXc, noX1, e]; first | refine And.intro zAL ?_ | skip) | refine cc1 c.1 e ?_ | refine cc1 c.2.1 e ?_ | refine cc1 c.2.2.1 e ?_ | refine cc1 c.2.2.2.1 e ?_ | refine cc1 c.2.2.2.2.1 e ?_ | refine cc1 c.2.2.2.2.2.1 e ?_ | (refine zAE (rid := 1) ([0, 1, 2, 3, 4, 5, 6, 7, 8, 9] : List Nat) ([[], [0], [], [0, 1, 2], [0, 1, 2, 3], [], [5], [5, 6], [0, 1, 2, 3, 4, 5, 6, 7], [0, 1, 2, 3, 4, 5, 6, 7, 8]] : List (List Nat)) ([(8, ([[], [0], [], [0, 1, 2], [0, 1, 2, 3], [], [5], [5, 6]], [])), (1, ([], [])), (1, ([], []))] : List (Nat × List (List Nat) × List (Nat × Nat))) (by kernel_rfl) (by kernel_rfl) (by kernel_rfl) ?_) | (refine zAE (rid := 2) ([0, 1, 2, 3, 4, 5, 6, 7, 8, 9, 10, 11, 12, 13] : List Nat) ([[], [], [], [], [3], [3, 4], [0, 1, 2, 3, 4, 5], [0, 1, 2, 3, 4, 5, 6], [0, 1, 2, 3, 4, 5, 6, 7], [0, 1, 2, 3, 4, 5, 6, 7], [0, 1, 2, 3, 4, 5, 6, 7], [0, 1, 2, 3, 4, 5, 6, 7, 8], [0, 1, 2, 3, 4, 5, 6, 7, 8, 9, 11], [0, 1, 2, 3, 4, 5, 6, 7, 8, 9, 10, 11, 12]] : List (List Nat)) ([(6, ([[], [], [], [], [3], [3, 4]], [(0, 5)])), (1, ([], [])), (1, ([], [])), (5, ([[], [], [], [0], [0, 1, 3]], [])), (1, ([], []))] : List (Nat × List (List Nat) × List (Nat × Nat))) (by kernel_rfl) (by kernel_rfl) (by kernel_rfl) ?_) | exact rt1 e | fail) <;> (refine af1 e ?_; (repeat intro K hK); refine wr ?_))) : G := t c d e
theorem zKb {C D E G : Prop} (c : C) (d : D) (e : E) (t : C → D → E → G := by intro c d e; (refine af1 e ?_; (repeat intro K hK); refine wr ?_); repeat' ((first | (refine zAA rfl (fun h => ?_) (fun h => ?_) <;> (first | (simp [e] at h; done) | (simp [e] at h) | skip) <;> (first | (exfalso; omega) | skip)) | ((first | refine .inl ⟨1, _, d.1, ?_⟩ | refine ⟨1, _, d.1, ?_⟩); simp [aftC, aftE, noX, noXc, noX1, e]; first | refine And.intro zAL ?_ | skip) | ((first | refine .inl ⟨1, _, d.2.1, ?_⟩ | refine ⟨1, _, d.2.1, ?_⟩); simp [aftC, aftE, noX, noXc, noX1, e]; first | refine And.intro zAL ?_ | skip) | refine cc1 c.1 e ?_ | refine cc1 c.2.1 e ?_ | refine cc1 c.2.2.1 e ?_ | refine cc1 c.2.2.2.1 e ?_ | refine cc1 c.2.2.2.2.1 e ?_ | refine cc1 c.2.2.2.2.2.1 e ?_ | (refine zAE (rid := 1) ([0, 1, 2, 3, 4, 5, 6, 7, 8, 9] : List Nat) ([[], [0], [], [0, 1, 2], [0, 1, 2, 3], [], [5], [5, 6], [0, 1, 2, 3, 4, 5, 6, 7], [0, 1, 2, 3, 4, 5, 6, 7, 8]] : List (List Nat)) ([(8, ([[], [0], [], [0, 1, 2], [0, 1, 2, 3], [], [5], [5, 6]], [])), (1, ([], [])), (1, ([], []))] : List (Nat × List (List Nat) × List (Nat × Nat))) (by kernel_rfl) (by kernel_rfl) (by kernel_rfl) ?_) | (refine zAE (rid := 2) ([0, 1, 2, 3, 4, 5, 6, 7, 8, 9, 10, 11, 12, 13] : List Nat) ([[], [], [], [], [3], [3, 4], [0, 1, 2, 3, 4, 5], [0, 1, 2, 3, 4, 5, 6], [0, 1, 2, 3, 4, 5, 6, 7], [0, 1, 2, 3, 4, 5, 6, 7], [0, 1, 2, 3, 4, 5, 6, 7], [0, 1, 2, 3, 4, 5, 6, 7, 8], [0, 1, 2, 3, 4, 5, 6, 7, 8, 9, 11], [0, 1, 2, 3, 4, 5, 6, 7, 8, 9, 10, 11, 12]] : List (List Nat)) ([(6, ([[], [], [], [], [3], [3, 4]], [(0, 5)])), (1, ([], [])), (1, ([], [])), (5, ([[], [], [], [0], [0, 1, 3]], [])), (1, ([], []))] : List (Nat × List (List Nat) × List (Nat × Nat))) (by kernel_rfl) (by kernel_rfl) (by kernel_rfl) ?_) | (refine zAE (rid := 5) ([0, 1, 2, 3, 4, 5, 6, 7, 8, 9, 10, 11, 12, 13, 14] : List Nat) ([[], [], [], [2], [2, 3], [], [5], [], [5, 6, 7], [5, 6, 7, 8], [0, 1, 2, 3, 4, 5, 6, 7, 8, 9], [0, 1, 2, 3, 4, 5, 6, 7, 8, 9, 10], [0, 1, 2, 3, 4, 5, 6, 7, 8, 9, 10, 11], [0, 1, 2, 3, 4, 5, 6, 7, 8, 9, 10, 11], [0, 1, 2, 3, 4, 5, 6, 7, 8, 9, 10, 11, 12]] : List (List Nat)) ([(10, ([[], [], [], [2], [2, 3], [], [5], [], [5, 6, 7], [5, 6, 7, 8]], [(6, 4), (8, 4), (9, 4)])), (1, ([], [])), (1, ([], [])), (3, ([[], [], [0]], []))] : List (Nat × List (List Nat) × List (Nat × Nat))) (by kernel_rfl) (by kernel_rfl) (by kernel_rfl) ?_) | exact rt1 e | fail) <;> (refine af1 e ?_; (repeat intro K hK); refine wr ?_))) : G := t c d e
theorem zAw (c : CpuD) (r v : Int) : (c.setR r v).pc = c.pc := by unfold CpuD.setR CpuD.setX; split <;> rfl
theorem zEi (op : Int) : zAY op = 1 ∨ zAY op = 4 := by unfold zAY; split <;> simp
theorem uw_w (n : Int) : W32 (uw n) := by unfold uw; rw [IntKind.wrap_u32]; constructor <;> omega
theorem zFI (w k : Int) : 0 ≤ byteAt w k ∧ byteAt w k < 256 := by unfold byteAt; omega
structure OkI (i : InstD) : Prop where
 a0 : 0 ≤ i.a
 a1 : i.a ≤ 15
 b0 : 0 ≤ i.b
 b1 : i.b ≤ 15
 c0 : 0 ≤ i.c
 c1 : i.c ≤ 15
theorem OkC.setR {c : CpuD} (h : OkC c) {r v : Int} (hv : W32 v) : OkC (c.setR r v) := by
 unfold CpuD.setR
 split
 ·exact h
 ·exact ⟨fun i => by simp only [CpuD.setX]; split; exact hv; exact h.x i, h.pc, h.csr, h.s⟩
theorem OkC.setP {c : CpuD} (h : OkC c) {p : Int} (hp : W32 p) : OkC (c.setP p) := ⟨h.x, hp, h.csr, h.s⟩
theorem zLD (c : CpuD) (l : List Int) (i : InstD) (hc : OkC c) (hl : OkW l) (hb : l.length ≤ 100000) (hi : OkI i) :
  zAD Tryz.prog 233 [.st c.row, memV l, .st i.row] (.tup [.st (zAy c l i).1.row, memV (zAy c l i).2]) := by
 obtain ⟨a0, a1, b0, b1, c0, c1⟩ := hi
 have g := zAW c b0 b1
 obtain ⟨va, hva⟩ : ∃ va, va = uw (c.x i.b.toNat + uw i.imm) := ⟨_, rfl⟩
 have hv : W32 va := by rw [hva]; exact uw_w _
 have hr := zEm c l va (zAY i.op) 2 (zEi _) (.inr (.inl rfl)) hc hv hl hb
 have hin := zCj (c := c) (l := l) (va := va) (s := zAY i.op) (acc := 2) (zEi _) (by decide) hc hv
 have hn := zBE c l va (zAY i.op) 2
 have hE : zAy c l i = (if (zAG c l va (zAY i.op) 2).2.2 ≠ 0 then (zA8 c (zAG c l va (zAY i.op) 2).2.2 va, (zAG c l va (zAY i.op) 2).2.1) else
  ((c.setR i.a (if i.op = 33 then zHj (zBl (zAG c l va (zAY i.op) 2).2.1 (zAG c l va (zAY i.op) 2).1 (zAY i.op)) else zBl (zAG c l va (zAY i.op) 2).2.1 (zAG c l va (zAY i.op) 2).1 (zAY i.op))).setP (uw (c.pc + 4)), (zAG c l va (zAY i.op) 2).2.1)) := by
  rw [hva]; rfl
 generalize zAG c l va (zAY i.op) 2 = R at *
 obtain ⟨a, m, k⟩ := R
 simp only at hr hin hn hE
 have va' : IntKind.u32.wrap (c.x i.b.toNat + IntKind.u32.wrap i.imm) = va := hva.symm
 by_cases hk : k = 0
 ·obtain ⟨i1, i2⟩ := hin hk
  have hL := zDx m a (zAY i.op) (zEi _) i2
  rw [zBf hn, i1] at hL
  simp only [if_true] at hL
  have hE' : zAy c l i = ((c.setR i.a (if i.op = 33 then zHj (zBl m a (zAY i.op)) else zBl m a (zAY i.op))).setP (uw (c.pc + 4)), m) := by rw [hE, if_neg (by simp [hk])]
  rw [hE']
  by_cases h33 : i.op = 33
  ·have w1 : zAY i.op = 1 := by rw [h33]; rfl
   have hx := zSh (zBl m a (zAY i.op)) (by rw [w1]; exact (zFI _ _).1) (by rw [w1]; exact (zFI _ _).2)
   refine sZ Tryz.func233 Tryz.ntmps233 ?_
   exact zHs (qX5 (zEK i.op) (hr) (hL) (hx) (zEw c i.a (zHj (zBl m a (zAY i.op))) a0 a1)) trivial (kX5 @g @va' @hk @zAw @CpuD.setP.eq_1)
  ·refine sZ Tryz.func233 Tryz.ntmps233 ?_
   exact zHs (qX4 (zEK i.op) (hr) (hL) (zEw c i.a (zBl m a (zAY i.op)) a0 a1)) trivial (kX5 @g @va' @hk @zAw @CpuD.setP.eq_1)
 ·have hE' : zAy c l i = (zA8 c k va, m) := by rw [hE, if_pos hk]
  rw [hE']
  refine sZ Tryz.func233 Tryz.ntmps233 ?_
  exact zHs (qX3 (zEK i.op) (hr) (zCO c k va hc)) trivial (kX3 @g @va' @hk)
theorem zIo (c : CpuD) (l : List Int) (i : InstD) (hc : OkC c) (hl : OkW l) (hb : l.length ≤ 100000) (hi : OkI i) :
  zAD Tryz.prog 234 [.st c.row, memV l, .st i.row] (.tup [.st (zAS c l i).1.row, memV (zAS c l i).2]) := by
 obtain ⟨a0, a1, b0, b1, c0, c1⟩ := hi
 have g := zAW c b0 b1
 have ga := zAW c a0 a1
 obtain ⟨va, hva⟩ : ∃ va, va = uw (c.x i.b.toNat + uw i.imm) := ⟨_, rfl⟩
 have hv : W32 va := by rw [hva]; exact uw_w _
 have hr := zEm c l va (zAY i.op) 3 (zEi _) (.inr (.inr rfl)) hc hv hl hb
 have hin := zCj (c := c) (l := l) (va := va) (s := zAY i.op) (acc := 3) (zEi _) (by decide) hc hv
 have hn := zBE c l va (zAY i.op) 3
 have hw := zBy (c := c) (va := va) (s := zAY i.op) (acc := 3) hl
 have hE : zAS c l i = (if (zAG c l va (zAY i.op) 3).2.2 ≠ 0 then (zA8 c (zAG c l va (zAY i.op) 3).2.2 va, (zAG c l va (zAY i.op) 3).2.1) else
  (c.setP (uw (c.pc + 4)), zCL (zAG c l va (zAY i.op) 3).2.1 (zAG c l va (zAY i.op) 3).1 (zAY i.op) (c.x i.a.toNat))) := by
  rw [hva]; rfl
 generalize zAG c l va (zAY i.op) 3 = R at *
 obtain ⟨a, m, k⟩ := R
 simp only at hr hin hn hE hw
 have va' : IntKind.u32.wrap (c.x i.b.toNat + IntKind.u32.wrap i.imm) = va := hva.symm
 by_cases hk : k = 0
 ·obtain ⟨i1, i2⟩ := hin hk
  have hS := zGH m a (zAY i.op) (c.x i.a.toNat) (zEi _) i2 hw (by omega)
  rw [zBf hn, i1] at hS
  simp only [if_true] at hS
  have hE' : zAS c l i = (c.setP (uw (c.pc + 4)), zCL m a (zAY i.op) (c.x i.a.toNat)) := by rw [hE, if_neg (by simp [hk])]
  rw [hE']
  refine sZ Tryz.func234 Tryz.ntmps234 ?_
  exact zKb (qX3 (zEK i.op) (hr) (hS)) trivial (kX5 @g @ga @va' @hk @CpuD.setP.eq_1)
 ·have hE' : zAS c l i = (zA8 c k va, m) := by rw [hE, if_pos hk]
  rw [hE']
  refine sZ Tryz.func234 Tryz.ntmps234 ?_
  exact zKb (qX3 (zEK i.op) (hr) (zCO c k va hc)) trivial (kX3 @g @va' @hk)
theorem w2356871 {C D E G : Prop} (c : C) (d : D) (e : E) (t : C → D → E → G := by intro c d e; (refine af1 e ?_; (repeat intro K hK); refine wr ?_); repeat' ((first | (refine zAA rfl (fun h => ?_) (fun h => ?_) <;> (first | (simp [e] at h; done) | (simp [e] at h) | skip) <;> (first | (exfalso; omega) | skip)) | ((first | refine .inl ⟨1, _, d.1, ?_⟩ | refine ⟨1, _, d.1, ?_⟩); simp [aftC, aftE, noX, noXc, noX1, e]; first | refine And.intro zAL ?_ | skip) | ((first | refine .inl ⟨1, _, d.2.1, ?_⟩ | refine ⟨1, _, d.2.1, ?_⟩); simp [aftC, aftE, noX, noXc, noX1, e]; first | refine And.intro zAL ?_ | skip) | refine cc1 c.1 e ?_ | refine cc1 c.2.1 e ?_ | refine cc1 c.2.2.1 e ?_ | refine cc1 c.2.2.2.1 e ?_ | refine cc1 c.2.2.2.2.1 e ?_ | refine cc1 c.2.2.2.2.2.1 e ?_ | (refine zAE (rid := 1) ([0, 1, 2, 3, 4, 5, 6, 7, 8, 9, 10, 11] : List Nat) ([[], [0], [], [0, 1, 2], [0, 1, 2, 3], [], [5], [], [5, 6, 7], [5, 6, 7, 8], [0, 1, 2, 3, 4], [0, 1, 2, 3, 4, 5, 6, 7, 8, 9, 10]] : List (List Nat)) ([(11, ([[], [0], [], [0, 1, 2], [0, 1, 2, 3], [], [5], [], [5, 6, 7], [5, 6, 7, 8], [0, 1, 2, 3, 4]], [])), (1, ([], []))] : List (Nat × List (List Nat) × List (Nat × Nat))) (by kernel_rfl) (by kernel_rfl) (by kernel_rfl) ?_) | (refine zAE (rid := 28) ([0, 1, 2, 3, 4] : List Nat) ([[], [0], [], [0, 1], [0, 1, 2, 3]] : List (List Nat)) ([(4, ([[], [0], [], [0, 1]], [(2, 1), (2, 3)])), (1, ([], []))] : List (Nat × List (List Nat) × List (Nat × Nat))) (by kernel_rfl) (by kernel_rfl) (by kernel_rfl) ?_) | (refine zAE (rid := 30) ([0, 1, 2, 3, 4] : List Nat) ([[], [0], [], [0, 1], [0, 1, 2, 3]] : List (List Nat)) ([(4, ([[], [0], [], [0, 1]], [(2, 1), (2, 3)])), (1, ([], []))] : List (Nat × List (List Nat) × List (Nat × Nat))) (by kernel_rfl) (by kernel_rfl) (by kernel_rfl) ?_) | (refine zAE (rid := 32) ([0, 1, 2, 3, 4, 5, 6, 7, 8, 9] : List Nat) ([[], [], [1], [], [3], [], [3, 4, 5], [3, 4, 5, 6], [0, 1, 2, 3, 4, 5, 6, 7], [0, 1, 2, 3, 4, 5, 6, 7, 8]] : List (List Nat)) ([(8, ([[], [], [1], [], [3], [], [3, 4, 5], [3, 4, 5, 6]], [])), (1, ([], [])), (1, ([], []))] : List (Nat × List (List Nat) × List (Nat × Nat))) (by kernel_rfl) (by kernel_rfl) (by kernel_rfl) ?_) | (refine zAE (rid := 46) ([0, 1, 2, 3] : List Nat) ([[], [], [0], [0, 1, 2]] : List (List Nat)) ([(3, ([[], [], [0]], [(1, 2)])), (1, ([], []))] : List (Nat × List (List Nat) × List (Nat × Nat))) (by kernel_rfl) (by kernel_rfl) (by kernel_rfl) ?_) | exact rt1 e | fail) <;> (refine af1 e ?_; (repeat intro K hK); refine wr ?_))) : G := t c d e
theorem zH5 (c : CpuD) (k v : Int) : (zBC c k v).pc = c.pc := by unfold zBC CpuD.setS; (repeat' split) <;> rfl
theorem zFy {k : Int} (h0 : 0 ≤ k) {b : Int} (h1 : k ≤ b) (hb : b ≤ 1000 := by decide) : IntKind.i64.wrap k = k := zAC (by omega) (by omega)
abbrev ExOk (c : CpuD) (i : InstD) : Prop := zAD Tryz.prog 235 [.st c.row, .st i.row] (.tup [.st (zAH c i).1.row, .st (zAH c i).2.row])
theorem zR4 (c : CpuD) (i : InstD) (hc : OkC c) (hi : OkI i) (hop : i.op = 24) : ExOk c i := by
 obtain ⟨a0, a1, b0, b1, c0, c1⟩ := hi
 have g := zAW c b0 b1
 have ga := zAW c a0 a1
 have hE : zAH c i = ((c.setR i.a (uw (uw i.imm * 65536))).setP (uw (c.pc + 4)), zEff) := by unfold zAH; simp [hop]
 unfold ExOk
 rw [hE]
 refine sZ Tryz.func235 Tryz.ntmps235 ?_
 exact w2356871 (qX1 (zEw c i.a (uw (uw i.imm * 65536)) a0 a1)) trivial (kX6 @g @ga @hop @zAw @CpuD.setP.eq_1 @zEff.eq_1)
theorem zTL (c : CpuD) (i : InstD) (hc : OkC c) (hi : OkI i) (hop : i.op = 48) : ExOk c i := by
 obtain ⟨a0, a1, b0, b1, c0, c1⟩ := hi
 have g := zAW c b0 b1
 have ga := zAW c a0 a1
 have hE : zAH c i = ((c.setR i.a (uw (c.pc + 4))).setP (uw (c.pc + uw (4 * uw i.imm))), zEff) := by unfold zAH; simp [hop]
 unfold ExOk
 rw [hE]
 refine sZ Tryz.func235 Tryz.ntmps235 ?_
 exact w2356871 (qX1 (zEw c i.a (uw (c.pc + 4)) a0 a1)) trivial (kX6 @g @ga @hop @zAw @CpuD.setP.eq_1 @zEff.eq_1)
theorem zSw (c : CpuD) (i : InstD) (hc : OkC c) (hi : OkI i) (hop : i.op = 49) : ExOk c i := by
 obtain ⟨a0, a1, b0, b1, c0, c1⟩ := hi
 have g := zAW c b0 b1
 have ga := zAW c a0 a1
 have hE : zAH c i = ((c.setR i.a (uw (c.pc + 4))).setP (uw (c.x i.b.toNat + uw i.imm)), zEff) := by unfold zAH; simp [hop]
 unfold ExOk
 rw [hE]
 refine sZ Tryz.func235 Tryz.ntmps235 ?_
 exact w2356871 (qX1 (zEw c i.a (uw (c.pc + 4)) a0 a1)) trivial (kX6 @g @ga @hop @zAw @CpuD.setP.eq_1 @zEff.eq_1)
theorem zSF (c : CpuD) (i : InstD) (hc : OkC c) (hi : OkI i) (hop : i.op = 56) : ExOk c i := by
 obtain ⟨a0, a1, b0, b1, c0, c1⟩ := hi
 have g := zAW c b0 b1
 have ga := zAW c a0 a1
 have hE : zAH c i = (zA8 c 7 0, zEff) := by unfold zAH; simp [hop]
 unfold ExOk
 rw [hE]
 refine sZ Tryz.func235 Tryz.ntmps235 ?_
 exact w2356871 (qX1 (zCO c 7 0 hc)) trivial (kX6 @g @ga @hop @zAw @CpuD.setP.eq_1 @zEff.eq_1)
theorem zR0 (c : CpuD) (i : InstD) (hc : OkC c) (hi : OkI i) (hop : i.op = 57) : ExOk c i := by
 obtain ⟨a0, a1, b0, b1, c0, c1⟩ := hi
 have g := zAW c b0 b1
 have ga := zAW c a0 a1
 have hE : zAH c i = (retD c, zEff) := by unfold zAH; simp [hop]
 unfold ExOk
 rw [hE]
 refine sZ Tryz.func235 Tryz.ntmps235 ?_
 exact w2356871 (qX1 (zNU c hc)) trivial (kX6 @g @ga @hop @zAw @CpuD.setP.eq_1 @zEff.eq_1)
theorem zS8 (c : CpuD) (i : InstD) (hc : OkC c) (hi : OkI i) (hop : i.op = 58)(k0 : 0 ≤ i.imm) (k1 : i.imm ≤ 7) : ExOk c i := by
 obtain ⟨a0, a1, b0, b1, c0, c1⟩ := hi
 have g := zAW c b0 b1
 have ga := zAW c a0 a1
 have hE : zAH c i = ((c.setR i.a (c.csr i.imm.toNat)).setP (uw (c.pc + 4)), zEff) := by unfold zAH; simp [hop]
 unfold ExOk
 rw [hE]
 refine sZ Tryz.func235 Tryz.ntmps235 ?_
 exact w2356871 (qX1 (zEw c i.a (c.csr i.imm.toNat) a0 a1)) trivial (kX7 @g @ga @hop @zAw @CpuD.setP.eq_1 @zEff.eq_1 (zTQ c k0 k1))
theorem zSO (c : CpuD) (i : InstD) (hc : OkC c) (hi : OkI i) (hop : i.op = 59)(k0 : 0 ≤ i.imm) (k1 : i.imm ≤ 7) : ExOk c i := by
 obtain ⟨a0, a1, b0, b1, c0, c1⟩ := hi
 have g := zAW c b0 b1
 have ga := zAW c a0 a1
 have hE : zAH c i = ((zBC c i.imm (c.x i.a.toNat)).setP (uw (c.pc + 4)), zEff) := by unfold zAH; simp [hop]
 unfold ExOk
 rw [hE]
 refine sZ Tryz.func235 Tryz.ntmps235 ?_
 exact w2356871 (qX1 (zP1 c i.imm (c.x i.a.toNat) k0 k1)) trivial (kX8 @g @ga @hop @zAw @CpuD.setP.eq_1 @zEff.eq_1 @zH5 (zFy k0 k1))
theorem zTF (c : CpuD) (i : InstD) (hc : OkC c) (hi : OkI i) (hop : i.op = 60)(k0 : 0 ≤ i.imm) (k1 : i.imm ≤ 11) : ExOk c i := by
 obtain ⟨a0, a1, b0, b1, c0, c1⟩ := hi
 have g := zAW c b0 b1
 have ga := zAW c a0 a1
 have hE : zAH c i = (c.setP (uw (c.pc + 4)), ⟨1, i.imm, i.a, 0⟩) := by unfold zAH; simp [hop]
 unfold ExOk
 rw [hE]
 refine sZ Tryz.func235 Tryz.ntmps235 ?_
 exact w2356871 trivial trivial (kX7 @g @ga @hop @zAw @CpuD.setP.eq_1 @zEff.eq_1 (zFy k0 k1))
theorem zSP (c : CpuD) (i : InstD) (hc : OkC c) (hi : OkI i) (hop : i.op = 61)(k0 : 0 ≤ i.imm) (k1 : i.imm ≤ 11) : ExOk c i := by
 obtain ⟨a0, a1, b0, b1, c0, c1⟩ := hi
 have g := zAW c b0 b1
 have ga := zAW c a0 a1
 have hE : zAH c i = (c.setP (uw (c.pc + 4)), ⟨2, i.imm, 0, c.x i.a.toNat⟩) := by unfold zAH; simp [hop]
 unfold ExOk
 rw [hE]
 refine sZ Tryz.func235 Tryz.ntmps235 ?_
 exact w2356871 trivial trivial (kX7 @g @ga @hop @zAw @CpuD.setP.eq_1 @zEff.eq_1 (zFy k0 k1))
theorem zSm (c : CpuD) (i : InstD) (hc : OkC c) (hi : OkI i) (hop : i.op = 62) : ExOk c i := by
 obtain ⟨a0, a1, b0, b1, c0, c1⟩ := hi
 have g := zAW c b0 b1
 have ga := zAW c a0 a1
 have hE : zAH c i = (c.setP (uw (c.pc + 4)), ⟨3, 0, 0, 0⟩) := by unfold zAH; simp [hop]
 unfold ExOk
 rw [hE]
 refine sZ Tryz.func235 Tryz.ntmps235 ?_
 exact w2356871 trivial trivial (kX6 @g @ga @hop @zAw @CpuD.setP.eq_1 @zEff.eq_1)
theorem zR6 (c : CpuD) (i : InstD) (hc : OkC c) (hi : OkI i) (hop : i.op = 63) : ExOk c i := by
 obtain ⟨a0, a1, b0, b1, c0, c1⟩ := hi
 have g := zAW c b0 b1
 have ga := zAW c a0 a1
 have hE : zAH c i = (c.setP (uw (c.pc + 4)), ⟨5, 0, 0, 0⟩) := by unfold zAH; simp [hop]
 unfold ExOk
 rw [hE]
 refine sZ Tryz.func235 Tryz.ntmps235 ?_
 exact w2356871 trivial trivial (kX6 @g @ga @hop @zAw @CpuD.setP.eq_1 @zEff.eq_1)
theorem zSf (c : CpuD) (i : InstD) (hc : OkC c) (hi : OkI i) (hop : i.op = 64) : ExOk c i := by
 obtain ⟨a0, a1, b0, b1, c0, c1⟩ := hi
 have g := zAW c b0 b1
 have ga := zAW c a0 a1
 have hE : zAH c i = (c.setP (uw (c.pc + 4)), ⟨4, 0, 0, 0⟩) := by unfold zAH; simp [hop]
 unfold ExOk
 rw [hE]
 refine sZ Tryz.func235 Tryz.ntmps235 ?_
 exact w2356871 trivial trivial (kX6 @g @ga @hop @zAw @CpuD.setP.eq_1 @zEff.eq_1)
theorem exB_ok (c : CpuD) (i : InstD) (hc : OkC c) (hi : OkI i) (hh : i.op = 40 ∨ i.op = 41 ∨ i.op = 42 ∨ i.op = 43 ∨ i.op = 44 ∨ i.op = 45) : ExOk c i := by
 obtain ⟨a0, a1, b0, b1, c0, c1⟩ := hi
 have g := zAW c b0 b1
 have ga := zAW c a0 a1
 have hE : zAH c i = (c.setP (if zD9 i.op (c.x i.a.toNat) (c.x i.b.toNat) = true then uw (c.pc + uw (4 * uw i.imm)) else uw (c.pc + 4)), zEff) := by unfold zAH; rw [if_neg (by omega), if_pos (by omega)]
 have ht := zPb i.op (c.x i.a.toNat) (c.x i.b.toNat)
 unfold ExOk
 rw [hE]
 generalize zD9 i.op (c.x i.a.toNat) (c.x i.b.toNat) = t at *
 cases t
 ·rcases hh with hop | hop | hop | hop | hop | hop
  all_goals rw [hop] at ht
  ·refine sZ Tryz.func235 Tryz.ntmps235 ?_
   exact w2356871 (qX1 (ht)) trivial (kX5 @g @ga @hop @CpuD.setP.eq_1 @zEff.eq_1)
  ·refine sZ Tryz.func235 Tryz.ntmps235 ?_
   exact w2356871 (qX1 (ht)) trivial (kX5 @g @ga @hop @CpuD.setP.eq_1 @zEff.eq_1)
  ·refine sZ Tryz.func235 Tryz.ntmps235 ?_
   exact w2356871 (qX1 (ht)) trivial (kX5 @g @ga @hop @CpuD.setP.eq_1 @zEff.eq_1)
  ·refine sZ Tryz.func235 Tryz.ntmps235 ?_
   exact w2356871 (qX1 (ht)) trivial (kX5 @g @ga @hop @CpuD.setP.eq_1 @zEff.eq_1)
  ·refine sZ Tryz.func235 Tryz.ntmps235 ?_
   exact w2356871 (qX1 (ht)) trivial (kX5 @g @ga @hop @CpuD.setP.eq_1 @zEff.eq_1)
  ·refine sZ Tryz.func235 Tryz.ntmps235 ?_
   exact w2356871 (qX1 (ht)) trivial (kX5 @g @ga @hop @CpuD.setP.eq_1 @zEff.eq_1)
 ·rcases hh with hop | hop | hop | hop | hop | hop
  all_goals rw [hop] at ht
  ·refine sZ Tryz.func235 Tryz.ntmps235 ?_
   exact w2356871 (qX1 (ht)) trivial (kX5 @g @ga @hop @CpuD.setP.eq_1 @zEff.eq_1)
  ·refine sZ Tryz.func235 Tryz.ntmps235 ?_
   exact w2356871 (qX1 (ht)) trivial (kX5 @g @ga @hop @CpuD.setP.eq_1 @zEff.eq_1)
  ·refine sZ Tryz.func235 Tryz.ntmps235 ?_
   exact w2356871 (qX1 (ht)) trivial (kX5 @g @ga @hop @CpuD.setP.eq_1 @zEff.eq_1)
  ·refine sZ Tryz.func235 Tryz.ntmps235 ?_
   exact w2356871 (qX1 (ht)) trivial (kX5 @g @ga @hop @CpuD.setP.eq_1 @zEff.eq_1)
  ·refine sZ Tryz.func235 Tryz.ntmps235 ?_
   exact w2356871 (qX1 (ht)) trivial (kX5 @g @ga @hop @CpuD.setP.eq_1 @zEff.eq_1)
  ·refine sZ Tryz.func235 Tryz.ntmps235 ?_
   exact w2356871 (qX1 (ht)) trivial (kX5 @g @ga @hop @CpuD.setP.eq_1 @zEff.eq_1)
theorem exA_ok (c : CpuD) (i : InstD) (hc : OkC c) (hi : OkI i) (h : (1 ≤ i.op ∧ i.op ≤ 13) ∨ (16 ≤ i.op ∧ i.op ≤ 23)) : ExOk c i := by
 obtain ⟨a0, a1, b0, b1, c0, c1⟩ := hi
 have g := zAW c b0 b1
 have ga := zAW c a0 a1
 have gc := zAW c c0 c1
 obtain ⟨o, ho⟩ : ∃ o, o = (if 16 ≤ i.op then uw i.imm else c.x i.c.toNat) := ⟨_, rfl⟩
 have how : W32 o := by rw [ho]; split; exact uw_w _; exact hc.x _
 have hE : zAH c i = ((c.setR i.a ((aluD i.op (c.x i.b.toNat) o).getD 0)).setP (uw (c.pc + 4)), zEff) := by
  unfold zAH
  rw [ho]
  repeat rw [if_neg (by omega)]
 have hA := alu_ok i.op (c.x i.b.toNat) o (hc.x _) how h
 have d1 : ¬ i.op = 24 := by omega
 have d2 : ¬ i.op = 48 := by omega
 have d3 : ¬ i.op = 49 := by omega
 have n0 : ∀ k : Int, 40 ≤ k → ¬ i.op = k := fun k hk => by omega
 unfold ExOk
 rw [hE]
 by_cases h16 : 16 ≤ i.op
 ·rw [if_pos h16] at ho
  subst ho
  refine sZ Tryz.func235 Tryz.ntmps235 ?_
  exact w2356871 (qX2 (hA) (zEw c i.a _ a0 a1)) trivial (kX9 @g @ga @gc @d1 @n0 @h16 @zAw @CpuD.setP.eq_1 @zEff.eq_1)
 ·rw [if_neg h16] at ho
  subst ho
  refine sZ Tryz.func235 Tryz.ntmps235 ?_
  exact w2356871 (qX2 (hA) (zEw c i.a _ a0 a1)) trivial (kX9 @g @ga @gc @d1 @n0 @h16 @zAw @CpuD.setP.eq_1 @zEff.eq_1)
theorem zFF {C D E G : Prop} (c : C) (d : D) (e : E) (t : C → D → E → G := by intro c d e; (refine af1 e ?_; (repeat intro K hK); refine wr ?_); repeat' ((first | (refine zAA rfl (fun h => ?_) (fun h => ?_) <;> (first | (simp [e] at h; done) | (simp [e] at h) | skip) <;> (first | (exfalso; omega) | skip)) | ((first | refine .inl ⟨1, _, d.1, ?_⟩ | refine ⟨1, _, d.1, ?_⟩); simp [aftC, aftE, noX, noXc, noX1, e]; first | refine And.intro zAL ?_ | skip) | ((first | refine .inl ⟨1, _, d.2.1, ?_⟩ | refine ⟨1, _, d.2.1, ?_⟩); simp [aftC, aftE, noX, noXc, noX1, e]; first | refine And.intro zAL ?_ | skip) | refine cc1 c.1 e ?_ | refine cc1 c.2.1 e ?_ | refine cc1 c.2.2.1 e ?_ | refine cc1 c.2.2.2.1 e ?_ | refine cc1 c.2.2.2.2.1 e ?_ | refine cc1 c.2.2.2.2.2.1 e ?_ | (refine zAE ([0, 1, 2, 3, 4, 5, 6] : List Nat) ([[], [], [1], [1, 2], [1, 2, 3], [0], [0, 1, 2, 3, 4, 5]] : List (List Nat)) ([(6, ([[], [], [1], [1, 2], [1, 2, 3], [0]], [(2, 5), (3, 5), (4, 5)])), (1, ([], []))] : List (Nat × List (List Nat) × List (Nat × Nat))) (by kernel_rfl) (by kernel_rfl) (by kernel_rfl) ?_) | exact rt1 e | fail) <;> (refine af1 e ?_; (repeat intro K hK); refine wr ?_))) : G := t c d e
theorem zMB (s : Str) : zAD Tryz.prog 286 [.st [.str s]] (.bool (!decide (s = []))) := by
 refine sZ Tryz.func286 Tryz.ntmps286 ?_
 exact wx trivial trivial
theorem zSv (s : Str) (n : Int) (h0 : 0 ≤ n) (h1 : n ≤ 255) : zAD Tryz.prog 167 [.st [.str s], .int .u8 n] (.tup [.st [.str (zHL s (UInt8.ofNat n.toNat)).1], .bool (zHL s (UInt8.ofNat n.toNat)).2]) := by
 have hb : zBp [.int .u8 n] := ⟨UInt8.ofNat n.toNat, by simp; omega⟩
 refine sZ Tryz.func167 Tryz.ntmps167 ?_
 exact wx1 trivial trivial (kX4 @zHL.eq_1 @maxLen.eq_1 @hb @zDd.eq_1)
theorem zP3 (s : Str) (p : Int) (hl : s.length ≤ 1000) : zAD Tryz.prog 236 [.st [.str s], iv p] (.tup [.st [.str (zGa s p).1], uv (zGa s p).2]) := by
 by_cases h0 : p = 0
 ·subst h0
  cases s with
  | nil =>
   refine sX Tryz.func236 Tryz.ntmps236 ?_;intros;refine wr ?_
   have k : keyH [] = 4294967295 := rfl
   exact zFF trivial trivial (kX2 @zGa.eq_1 @k)
  | cons b r =>
   have w := zRo b
   have k : keyH (b :: r) = b.toNat := rfl
   have hr : ((r.length : Int) + 1).toNat = r.length + 1 := by omega
   refine sZ Tryz.func236 Tryz.ntmps236 ?_
   exact zFF trivial trivial (kX4 @w @hr @zGa.eq_1 @k)
 ·by_cases h1 : p = 1
  ·subst h1
   have w : IntKind.u32.wrap (s.length : Int) = s.length := u32_in (by omega) (by omega)
   refine sZ Tryz.func236 Tryz.ntmps236 ?_
   exact zFF trivial trivial (kX2 @w @zGa.eq_1)
  ·refine sZ Tryz.func236 Tryz.ntmps236 ?_
   exact zFF trivial trivial (kX3 @h0 @h1 @zGa.eq_1)
theorem arm_ok (t : TimD) (v : Int) : zAD Tryz.prog 241 [.st t.row, uv v] (.st (armD v).row) := by
 refine sZ Tryz.func241 Tryz.ntmps241 ?_
 exact wx1 trivial trivial @armD.eq_1
theorem zTd (t : TimD) : zAD Tryz.prog 166 [.st t.row] (.tup [.st (zHC t).1.row, .bool (zHC t).2]) := by
 refine sZ Tryz.func166 Tryz.ntmps166 ?_
 exact wx1 trivial trivial @zHC.eq_1
theorem zPZ (t : TimD) : zAD Tryz.prog 237 [.st t.row] (uv (zSq t)) := by
 refine sZ Tryz.func237 Tryz.ntmps237 ?_
 exact wx1 trivial trivial (kX2 @zSq.eq_1 @b2w.eq_1)
theorem zLk (t : TimD) : zAD Tryz.prog 285 [.st t.row] (.bool t.fired) := by
 refine sZ Tryz.func285 Tryz.ntmps285 ?_
 exact wx trivial trivial
theorem zPl (d : DskD) (p : Int) : zAD Tryz.prog 238 [.st d.row, iv p] (uv (zRK d p)) := by
 refine sZ Tryz.func238 Tryz.ntmps238 ?_
 exact wx1 trivial trivial @zRK.eq_1
theorem zG5 (d : DskD) : zAD Tryz.prog 287 [.st d.row] (.bool (zBj d)) := by
 refine sZ Tryz.func287 Tryz.ntmps287 ?_
 exact wx1 trivial trivial @zBj.eq_1
theorem zGw (d : DskD) (k : Int) : zAD Tryz.prog 326 [.st d.row, lv k] (.tup [.st (zEB d k).1.row, .bool (zEB d k).2]) := by
 refine sZ Tryz.func326 Tryz.ntmps326 ?_
 exact wx1 trivial trivial @zEB.eq_1
theorem zRN (n : NicD) (p : Int) : zAD Tryz.prog 239 [.st n.row, iv p] (uv (zPC n p)) := by
 refine sZ Tryz.func239 Tryz.ntmps239 ?_
 exact wx1 trivial trivial (kX3 @zPC.eq_1 @b2w.eq_1 @u32c)
theorem zMU (n : NicD) : zAD Tryz.prog 288 [.st n.row] (.bool n.received) := by
 refine sZ Tryz.func288 Tryz.ntmps288 ?_
 exact wx trivial trivial
theorem zCC (l : List Int) (f : Int) (h : W32 f) : zAD Tryz.prog 223 [memV l, uv f] (.bool (decide (f < pagesD l))) := by
 have e1 : IntKind.u64.wrap f = f := u64_in h.1 (by have := h.2; omega)
 have e2 : IntKind.u64.wrap (pagesD l) = pagesD l := u64_in (zAf l).1 (by have := zAf l; omega)
 refine sZ Tryz.func223 Tryz.ntmps223 ?_
 exact wx1 (qX1 (zBS l)) trivial (kX2 @e1 @e2)
theorem zCc (l : List Int) (f : Int) (h : W32 f) : zAD Tryz.prog 225 [memV l, uv f] (.bool (decide (f < pagesD l))) := by
 have e1 : IntKind.u64.wrap f = f := u64_in h.1 (by have := h.2; omega)
 have e2 : IntKind.u64.wrap (pagesD l) = pagesD l := u64_in (zAf l).1 (by have := zAf l; omega)
 refine sZ Tryz.func225 Tryz.ntmps225 ?_
 exact wx1 (qX1 (zBS l)) trivial (kX2 @e1 @e2)
theorem zDs {C D E G : Prop} (c : C) (d : D) (e : E) (t : C → D → E → G := by intro c d e; (refine af1 e ?_; (repeat intro K hK); refine wr ?_); repeat' ((first | (refine zAA rfl (fun h => ?_) (fun h => ?_) <;> (first | (simp [e] at h; done) | (simp [e] at h) | skip) <;> (first | (exfalso; omega) | skip)) | ((first | refine .inl ⟨1, _, d.1, ?_⟩ | refine ⟨1, _, d.1, ?_⟩); simp [aftC, aftE, noX, noXc, noX1, e]; first | refine And.intro zAL ?_ | skip) | ((first | refine .inl ⟨1, _, d.2.1, ?_⟩ | refine ⟨1, _, d.2.1, ?_⟩); simp [aftC, aftE, noX, noXc, noX1, e]; first | refine And.intro zAL ?_ | skip) | refine cc1 c.1 e ?_ | refine cc1 c.2.1 e ?_ | refine cc1 c.2.2.1 e ?_ | refine cc1 c.2.2.2.1 e ?_ | refine cc1 c.2.2.2.2.1 e ?_ | refine cc1 c.2.2.2.2.2.1 e ?_ | (refine zBe (.node 2 3 (.leaf [0, 1, 2, 3, 4] [[], [], [1], [0, 1, 2], [0, 1, 2, 3]] [(3, ([[], [], [1]], [(0, 2)])), (1, ([], [])), (1, ([], []))]) (.leaf [0, 1, 3, 2, 4] [[], [], [0], [0, 1, 2], [0, 1, 2, 3]] [(3, ([[], [], [0]], [(1, 2)])), (1, ([], [])), (1, ([], []))])) (by kernel_rfl) (by kernel_rfl) ?_; simp only [PT.run]; repeat' (with_reducible apply And.intro); all_goals (simp only [zB0, List.map_cons, List.map_nil, List.getD_cons_zero, List.getD_cons_succ])) | exact rt1 e | fail) <;> (refine af1 e ?_; (repeat intro K hK); refine wr ?_))) : G := t c d e
theorem zBv {C D E G : Prop} (c : C) (d : D) (e : E) (t : C → D → E → G := by intro c d e; (refine af1 e ?_; (repeat intro K hK); refine wr ?_); repeat' ((first | (refine zAA rfl (fun h => ?_) (fun h => ?_) <;> (first | (simp [e] at h; done) | (simp [e] at h) | skip) <;> (first | (exfalso; omega) | skip)) | ((first | refine .inl ⟨1, _, d.1, ?_⟩ | refine ⟨1, _, d.1, ?_⟩); simp [aftC, aftE, noX, noXc, noX1, e]; first | refine And.intro zAL ?_ | skip) | ((first | refine .inl ⟨1, _, d.2.1, ?_⟩ | refine ⟨1, _, d.2.1, ?_⟩); simp [aftC, aftE, noX, noXc, noX1, e]; first | refine And.intro zAL ?_ | skip) | refine cc1 c.1 e ?_ | refine cc1 c.2.1 e ?_ | refine cc1 c.2.2.1 e ?_ | refine cc1 c.2.2.2.1 e ?_ | refine cc1 c.2.2.2.2.1 e ?_ | refine cc1 c.2.2.2.2.2.1 e ?_ | (refine zAE ([0, 1, 2, 3, 4, 5] : List Nat) ([[], [], [1], [0, 1, 2], [0, 1, 2, 3], [0, 1, 2, 3, 4]] : List (List Nat)) ([(3, ([[], [], [1]], [(0, 2)])), (1, ([], [])), (1, ([], [])), (1, ([], []))] : List (Nat × List (List Nat) × List (Nat × Nat))) (by kernel_rfl) (by kernel_rfl) (by kernel_rfl) ?_) | exact rt1 e | fail) <;> (refine af1 e ?_; (repeat intro K hK); refine wr ?_))) : G := t c d e
theorem zDr {C D E G : Prop} (c : C) (d : D) (e : E) (t : C → D → E → G := by intro c d e; (refine af1 e ?_; (repeat intro K hK); refine wr ?_); repeat' ((first | (refine zAA rfl (fun h => ?_) (fun h => ?_) <;> (first | (simp [e] at h; done) | (simp [e] at h) | skip) <;> (first | (exfalso; omega) | skip)) | ((first | refine .inl ⟨1, _, d.1, ?_⟩ | refine ⟨1, _, d.1, ?_⟩); simp [aftC, aftE, noX, noXc, noX1, e]; first | refine And.intro zAL ?_ | skip) | ((first | refine .inl ⟨1, _, d.2.1, ?_⟩ | refine ⟨1, _, d.2.1, ?_⟩); simp [aftC, aftE, noX, noXc, noX1, e]; first | refine And.intro zAL ?_ | skip) | refine cc1 c.1 e ?_ | refine cc1 c.2.1 e ?_ | refine cc1 c.2.2.1 e ?_ | refine cc1 c.2.2.2.1 e ?_ | refine cc1 c.2.2.2.2.1 e ?_ | refine cc1 c.2.2.2.2.2.1 e ?_ | (refine zAE ([0, 1, 2, 3, 4, 5, 6] : List Nat) ([[], [], [], [], [1, 2, 3], [0, 1, 2, 3, 4], [0, 1, 2, 3, 4, 5]] : List (List Nat)) ([(5, ([[], [], [], [], [1, 2, 3]], [(0, 4)])), (1, ([], [])), (1, ([], []))] : List (Nat × List (List Nat) × List (Nat × Nat))) (by kernel_rfl) (by kernel_rfl) (by kernel_rfl) ?_) | exact rt1 e | fail) <;> (refine af1 e ?_; (repeat intro K hK); refine wr ?_))) : G := t c d e
theorem zDu {C D E G : Prop} (c : C) (d : D) (e : E) (t : C → D → E → G := by intro c d e; (refine af1 e ?_; (repeat intro K hK); refine wr ?_); repeat' ((first | (refine zAA rfl (fun h => ?_) (fun h => ?_) <;> (first | (simp [e] at h; done) | (simp [e] at h) | skip) <;> (first | (exfalso; omega) | skip)) | ((first | refine .inl ⟨1, _, d.1, ?_⟩ | refine ⟨1, _, d.1, ?_⟩); simp [aftC, aftE, noX, noXc, noX1, e]; first | refine And.intro zAL ?_ | skip) | ((first | refine .inl ⟨1, _, d.2.1, ?_⟩ | refine ⟨1, _, d.2.1, ?_⟩); simp [aftC, aftE, noX, noXc, noX1, e]; first | refine And.intro zAL ?_ | skip) | refine cc1 c.1 e ?_ | refine cc1 c.2.1 e ?_ | refine cc1 c.2.2.1 e ?_ | refine cc1 c.2.2.2.1 e ?_ | refine cc1 c.2.2.2.2.1 e ?_ | refine cc1 c.2.2.2.2.2.1 e ?_ | (refine zAE (rid := 2) ([0, 1, 2, 3, 4, 5] : List Nat) ([[], [], [1], [0, 1, 2], [0, 1, 2, 3], [0, 1, 2, 3, 4]] : List (List Nat)) ([(3, ([[], [], [1]], [(0, 2)])), (1, ([], [])), (1, ([], [])), (1, ([], []))] : List (Nat × List (List Nat) × List (Nat × Nat))) (by kernel_rfl) (by kernel_rfl) (by kernel_rfl) ?_) | (refine zAE (rid := 4) ([0, 1, 2, 3, 4, 5, 6, 7, 8, 9, 10, 11, 12, 13, 14, 15] : List Nat) ([[], [], [1], [1, 2], [], [], [], [6], [5, 6, 7], [4, 5, 6, 7, 8], [0, 1, 2, 3, 4, 5, 6, 7, 8, 9], [0, 1, 2, 3, 4, 5, 6, 7, 8, 9, 10], [0, 1, 2, 3, 4, 5, 6, 7, 8, 9, 10, 11], [0, 1, 2, 3, 4, 5, 6, 7, 8, 9, 10, 11], [0, 1, 2, 3, 4, 5, 6, 7, 8, 9, 10, 11, 12], [0, 1, 2, 3, 4, 5, 6, 7, 8, 9, 10, 11, 12, 13, 14]] : List (List Nat)) ([(10, ([[], [], [1], [1, 2], [], [], [], [6], [5, 6, 7], [4, 5, 6, 7, 8]], [])), (1, ([], [])), (1, ([], [])), (3, ([[], [], [0]], [])), (1, ([], []))] : List (Nat × List (List Nat) × List (Nat × Nat))) (by kernel_rfl) (by kernel_rfl) (by kernel_rfl) ?_) | exact rt1 e | fail) <;> (refine af1 e ?_; (repeat intro K hK); refine wr ?_))) : G := t c d e
abbrev zJw (l : List OutD) : V := .sl 4 false (outs l)
theorem zPU (o : OutD) : outs [o] = [o.row] := rfl
theorem zQd (d : DskD) (l : List Int) (k t : Int) (hf : W32 d.frame) : zAD Tryz.prog 305 [.st d.row, memV l, iv k, lv t] (.tup [.st (zBo d l k t).1.row, zJw (zBo d l k t).2]) := by
 have hp := zAf l
 by_cases h1 : d.state = 0
 ·by_cases h2 : d.blocks ≤ d.block
  ·have hE : zBo d l k t = ({ d with state := 3 }, []) := by unfold zBo; rw [if_neg (by omega), if_pos (.inl h2)]
   rw [hE]
   refine sZ Tryz.func305 Tryz.ntmps305 ?_
   exact zDs trivial trivial (kX2 @h1 @h2)
  ·by_cases h3 : d.frame < pagesD l
   ·have hE : zBo d l k t = ({ d with state := 1, cmd := k, opBlock := d.block, opFrame := d.frame, opData := if k = 2 then zCg l d.frame else [] },
     [(zEB { d with state := 1, cmd := k, opBlock := d.block, opFrame := d.frame, opData := if k = 2 then zCg l d.frame else [] } t).1]) := by
     unfold zBo; rw [if_neg (by omega), if_neg (by omega)]
    rw [hE]
    have w1 : IntKind.i64.wrap d.frame = d.frame := zAC (by have := hf.1; omega) (by omega)
    have hP := zJQ l d.frame hf.1 h3
    by_cases hk : k = 2
    ·have hr := zGw { d with state := 1, cmd := k, opBlock := d.block, opFrame := d.frame, opData := zCg l d.frame } t
     simp only [hk, if_true] at hr ⊢
     refine sZ Tryz.func305 Tryz.ntmps305 ?_
     exact zDs (qX3 (zCC l d.frame hf) (hP) (hr)) trivial (kX6 @h1 @h2 @h3 @w1 @zPU @u32c)
    ·have hr := zGw { d with state := 1, cmd := k, opBlock := d.block, opFrame := d.frame, opData := [] } t
     simp only [hk, if_false] at hr ⊢
     refine sZ Tryz.func305 Tryz.ntmps305 ?_
     exact zDs (qX2 (zCC l d.frame hf) (hr)) trivial (kX7 @h1 @h2 @h3 @hk @w1 @zPU @u32c)
   ·have hE : zBo d l k t = ({ d with state := 3 }, []) := by unfold zBo; rw [if_neg (by omega), if_pos (.inr (by omega))]
    rw [hE]
    refine sZ Tryz.func305 Tryz.ntmps305 ?_
    exact zDs (qX1 (zCC l d.frame hf)) trivial (kX3 @h1 @h2 @h3)
 ·have hE : zBo d l k t = (d, []) := by unfold zBo; rw [if_pos h1]
  rw [hE]
  refine sZ Tryz.func305 Tryz.ntmps305 ?_
  exact zDs trivial trivial @h1
theorem zMk (d : DskD) (l : List Int) (p v t : Int) (hf : W32 d.frame) (hv : W32 v) : zAD Tryz.prog 242 [.st d.row, memV l, iv p, uv v, lv t] (.tup [.st (zBg d l p v t).1.row, zJw (zBg d l p v t).2]) := by
 have w1 : IntKind.i64.wrap v = v := zAC (by have := hv.1; omega) (by have := hv.2; omega)
 have hi := zQd d l v t hf
 by_cases h4 : p = 4
 ·subst h4
  refine sZ Tryz.func242 Tryz.ntmps242 ?_
  exact wx1 trivial trivial @zBg.eq_1
 ·by_cases h5 : p = 5
  ·subst h5
   refine sZ Tryz.func242 Tryz.ntmps242 ?_
   exact wx1 trivial trivial @zBg.eq_1
  ·by_cases h6 : p = 6
   ·subst h6
    by_cases h1 : v = 1 ∨ v = 2
    ·have hE : zBg d l 6 v t = zBo d l v t := by simp [zBg, h1]
     rw [hE]
     generalize zBo d l v t = R at *
     refine sZ Tryz.func242 Tryz.ntmps242 ?_
     exact wx1 (qX1 (hi)) trivial @w1
    ·have n1 : ¬ v = 1 := fun q => h1 (.inl q)
     have n2 : ¬ v = 2 := fun q => h1 (.inr q)
     refine sZ Tryz.func242 Tryz.ntmps242 ?_
     exact wx1 (qX1 (zG5 d)) trivial (kX3 @n1 @n2 @zBg.eq_1)
   ·refine sZ Tryz.func242 Tryz.ntmps242 ?_
    exact wx1 trivial trivial (kX4 @h4 @h5 @h6 @zBg.eq_1)
theorem zJP (l : List Int) (f : Int) (s : Str) (h0 : 0 ≤ f) (h1 : f < pagesD l) (hs : ¬ s.length = 128) : zAD Tryz.prog 224 [memV l, iv f, .str s] (.tup [memV l, .bool false]) := by
 have hp := zAf l
 have hl := zCk (l := l) (by omega)
 have hh := zEh l f
 rw [show (decide (0 ≤ f) && decide (f < pagesD l)) = true by simp [h0, h1]] at hh
 have hs' : ¬ (s.length : Int) = 128 := by omega
 refine sZ Tryz.func224 Tryz.ntmps224 ?_
 (refine af1 @hs' ?_; (repeat intro K hK); refine wr ?_)
 repeat' ((first | (refine zAA rfl (fun h => ?_) (fun h => ?_) <;> (first | (simp [hs'] at h; done) | (simp [hs'] at h) | skip) <;> (first | (exfalso; omega) | skip)) | ((first | refine .inl ⟨1, _, zBQ (ints .u32 l) false 1 (.inl rfl) (by rw [zAP]; omega), ?_⟩ | refine ⟨1, _, zBQ (ints .u32 l) false 1 (.inl rfl) (by rw [zAP]; omega), ?_⟩); simp [aftC, aftE, noX, noXc, noX1, hs']; first | refine And.intro zAL ?_ | skip) | refine cc1 (hh) @hs' ?_ | (refine zAE ([0, 1, 2, 3, 4, 5, 6, 7, 8, 9, 10, 11, 12, 13, 14, 15, 16, 17, 18, 19, 20, 21, 22, 23] : List Nat) ([[], [], [], [1, 2], [], [4], [4, 5], [], [7], [7, 8], [7, 8, 9], [4, 5, 6, 7, 8, 9, 10], [], [12], [12, 13], [12, 13, 14], [4, 5, 6, 7, 8, 9, 10, 11, 12, 13, 14, 15], [], [17], [17, 18], [17, 18, 19], [4, 5, 6, 7, 8, 9, 10, 11, 12, 13, 14, 15, 16, 17, 18, 19, 20], [0, 1, 2, 3, 4, 5, 6, 7, 8, 9, 10, 11, 12, 13, 14, 15, 16, 17, 18, 19, 20, 21], [0, 1, 2, 3, 4, 5, 6, 7, 8, 9, 10, 11, 12, 13, 14, 15, 16, 17, 18, 19, 20, 21, 22]] : List (List Nat)) ([(22, ([[], [], [], [1, 2], [], [4], [4, 5], [], [7], [7, 8], [7, 8, 9], [4, 5, 6, 7, 8, 9, 10], [], [12], [12, 13], [12, 13, 14], [4, 5, 6, 7, 8, 9, 10, 11, 12, 13, 14, 15], [], [17], [17, 18], [17, 18, 19], [4, 5, 6, 7, 8, 9, 10, 11, 12, 13, 14, 15, 16, 17, 18, 19, 20]], [])), (1, ([], [])), (1, ([], []))] : List (Nat × List (List Nat) × List (Nat × Nat))) (by kernel_rfl) (by kernel_rfl) (by kernel_rfl) ?_) | exact rt1 @hs' | fail) <;> (refine af1 @hs' ?_; (repeat intro K hK); refine wr ?_))
theorem zJV (d : DskD) (l : List Int) (e : EvD) (hf : W32 d.opFrame) (hn : W32 e.n) (hb : l.length ≤ 100000) :
  zAD Tryz.prog 168 [.st d.row, memV l, .st e.row] (.tup [.st (zAX d l e).1.row, memV (zAX d l e).2.1, .bool (zAX d l e).2.2]) := by
 have hp := zAf l
 have hcl := zBQ (ints .u32 l) false 1 (.inl rfl) (by rw [zAP]; exact hb)
 by_cases h1 : d.state ≠ 1 ∨ e.kind ≠ 4 ∨ 1 < e.n
 ·have hE : zAX d l e = (d, l, false) := by unfold zAX; rw [if_pos h1]
  rw [hE]
  rcases h1 with h1 | h1 | h1
  ·refine sZ Tryz.func168 Tryz.ntmps168 ?_
   exact zBv (qX1 (hcl)) trivial @h1
  ·refine sZ Tryz.func168 Tryz.ntmps168 ?_
   exact zBv (qX1 (hcl)) trivial @h1
  ·refine sZ Tryz.func168 Tryz.ntmps168 ?_
   exact zBv (qX1 (hcl)) trivial @h1
 ·have s1 : d.state = 1 := by omega
  have s2 : e.kind = 4 := by omega
  have s3 : ¬ 1 < e.n := by omega
  by_cases h2 : e.n = 1 ∧ d.cmd = 1
  ·obtain ⟨h2, h3⟩ := h2
   by_cases h4 : d.opFrame < pagesD l
   ·have w1 : IntKind.i64.wrap d.opFrame = d.opFrame := zAC (by have := hf.1; omega) (by omega)
    by_cases h5 : e.data.length = 128
    ·have hE : zAX d l e = (doneD d e.n, zBW l d.opFrame e.data, true) := by
      unfold zAX; rw [if_neg h1, if_pos ⟨h2, h3⟩, if_pos ⟨h4, h5⟩]
     rw [hE]
     refine sZ Tryz.func168 Tryz.ntmps168 ?_
     exact zBv (qX3 (hcl) (zCC l d.opFrame hf) (zEX l d.opFrame e.data hf.1 h4 h5)) trivial (kX7 @s1 @s2 @h2 @h3 @h4 @w1 @doneD.eq_1)
    ·have hE : zAX d l e = (d, l, false) := by
      unfold zAX; rw [if_neg h1, if_pos ⟨h2, h3⟩, if_neg (fun q => h5 q.2)]
     rw [hE]
     refine sZ Tryz.func168 Tryz.ntmps168 ?_
     exact zBv (qX3 (hcl) (zCC l d.opFrame hf) (zJP l d.opFrame e.data hf.1 h4 h5)) trivial (kX6 @s1 @s2 @h2 @h3 @h4 @w1)
   ·have hE : zAX d l e = (d, l, false) := by
     unfold zAX; rw [if_neg h1, if_pos ⟨h2, h3⟩, if_neg (fun q => h4 q.1)]
    rw [hE]
    refine sZ Tryz.func168 Tryz.ntmps168 ?_
    exact zBv (qX2 (hcl) (zCC l d.opFrame hf)) trivial (kX5 @s1 @s2 @h2 @h3 @h4)
  ·by_cases h6 : e.data = []
   ·have hE : zAX d l e = (doneD d e.n, l, true) := by unfold zAX; rw [if_neg h1, if_neg h2, if_pos h6]
    rw [hE]
    by_cases h7 : e.n = 1
    ·have h8 : ¬ d.cmd = 1 := fun q => h2 ⟨h7, q⟩
     refine sZ Tryz.func168 Tryz.ntmps168 ?_
     exact zBv (qX1 (hcl)) trivial (kX6 @s1 @s2 @h6 @h7 @h8 @doneD.eq_1)
    ·refine sZ Tryz.func168 Tryz.ntmps168 ?_
     exact zBv (qX1 (hcl)) trivial (kX6 @s1 @s2 @s3 @h6 @h7 @doneD.eq_1)
   ·have hE : zAX d l e = (d, l, false) := by unfold zAX; rw [if_neg h1, if_neg h2, if_neg h6]
    rw [hE]
    by_cases h7 : e.n = 1
    ·have h8 : ¬ d.cmd = 1 := fun q => h2 ⟨h7, q⟩
     refine sZ Tryz.func168 Tryz.ntmps168 ?_
     exact zBv (qX1 (hcl)) trivial (kX5 @s1 @s2 @h6 @h7 @h8)
    ·refine sZ Tryz.func168 Tryz.ntmps168 ?_
     exact zBv (qX1 (hcl)) trivial (kX5 @s1 @s2 @s3 @h6 @h7)
theorem zGD {l : List Int} {f : Int} (h0 : 0 ≤ f) (h1 : f < pagesD l) : (zCg l f).length = 128 := by
 unfold zCg; rw [zO0, zKU h0 h1]
def zFC (n : NicD) (l : List Int) (t : Int) : List OutD := if 1 ≤ n.len ∧ n.len ≤ 128 ∧ n.frame < pagesD l then [⟨2, t, 0, (zCg l n.frame).take n.len.toNat⟩] else []
theorem zTa (n : NicD) (l : List Int) (t : Int) (hf : W32 n.frame) (hl : W32 n.len) : zAD Tryz.prog 306 [.st n.row, memV l, lv t] (zJw (zFC n l t)) := by
 have hp := zAf l
 by_cases h1 : n.len < 1
 ·have hE : zFC n l t = [] := by unfold zFC; rw [if_neg (by omega)]
  rw [hE]
  refine sZ Tryz.func306 Tryz.ntmps306 ?_
  exact wx1 trivial trivial @h1
 ·by_cases h2 : 128 < n.len
  ·have hE : zFC n l t = [] := by unfold zFC; rw [if_neg (by omega)]
   rw [hE]
   refine sZ Tryz.func306 Tryz.ntmps306 ?_
   exact wx1 trivial trivial (kX2 @h1 @h2)
  ·by_cases h3 : n.frame < pagesD l
   ·have hE : zFC n l t = [⟨2, t, 0, (zCg l n.frame).take n.len.toNat⟩] := by unfold zFC; rw [if_pos (by omega)]
    rw [hE]
    have w1 : IntKind.i64.wrap n.frame = n.frame := zAC (by have := hf.1; omega) (by omega)
    have hL := zGD hf.1 h3
    refine sZ Tryz.func306 Tryz.ntmps306 ?_
    exact wx1 (qX2 (zCc l n.frame hf) (zJQ l n.frame hf.1 h3)) trivial (kX6 @h1 @h2 @h3 @w1 @hL @zPU)
   ·have hE : zFC n l t = [] := by unfold zFC; rw [if_neg (by omega)]
    rw [hE]
    refine sZ Tryz.func306 Tryz.ntmps306 ?_
    exact wx1 (qX1 (zCc l n.frame hf)) trivial (kX3 @h1 @h2 @h3)
theorem zOw (n : NicD) (l : List Int) (p v t : Int) (hf : W32 n.frame) (hl : W32 n.len) : zAD Tryz.prog 243 [.st n.row, memV l, iv p, uv v, lv t] (.tup [.st (zAd n l p v t).1.row, zJw (zAd n l p v t).2]) := by
 have hs := zTa n l t hf hl
 by_cases h7 : p = 7
 ·subst h7
  refine sZ Tryz.func243 Tryz.ntmps243 ?_
  exact zDr trivial trivial @zAd.eq_1
 ·by_cases h8 : p = 8
  ·subst h8
   refine sZ Tryz.func243 Tryz.ntmps243 ?_
   exact zDr trivial trivial @zAd.eq_1
  ·by_cases h9 : p = 9
   ·subst h9
    by_cases h1 : v = 1
    ·subst h1
     have hE : zAd n l 9 1 t = (n, zFC n l t) := by simp [zAd, zFC]
     rw [hE]
     generalize zFC n l t = R at *
     refine sZ Tryz.func243 Tryz.ntmps243 ?_
     (refine af ?_; (repeat intro K hK); refine wr ?_)
     repeat' ((first | (refine zAA rfl (fun h => ?_) (fun h => ?_) <;> (first | (simp at h; done) | (simp at h) | skip) <;> (first | (exfalso; omega) | skip)) | refine cc (hs) ?_ | (refine zAE ([0, 1, 2, 3, 4, 5, 6] : List Nat) ([[], [], [], [], [1, 2, 3], [0, 1, 2, 3, 4], [0, 1, 2, 3, 4, 5]] : List (List Nat)) ([(5, ([[], [], [], [], [1, 2, 3]], [(0, 4)])), (1, ([], [])), (1, ([], []))] : List (Nat × List (List Nat) × List (Nat × Nat))) (by kernel_rfl) (by kernel_rfl) (by kernel_rfl) ?_) | exact rt | fail) <;> (refine af ?_; (repeat intro K hK); refine wr ?_))
    ·by_cases h2 : v = 2
     ·subst h2
      refine sZ Tryz.func243 Tryz.ntmps243 ?_
      exact zDr (qX1 (zCc l n.frame hf)) trivial @zAd.eq_1
     ·refine sZ Tryz.func243 Tryz.ntmps243 ?_
      exact zDr trivial trivial (kX3 @h1 @h2 @zAd.eq_1)
   ·refine sZ Tryz.func243 Tryz.ntmps243 ?_
    exact zDr trivial trivial (kX4 @h7 @h8 @h9 @zAd.eq_1)
theorem zLo (n : NicD) (l : List Int) (s : Str) (hf : W32 n.buffer) (hs : s.length ≤ 100000) (hb : l.length ≤ 100000) :
  zAD Tryz.prog 169 [.st n.row, memV l, .str s] (.tup [.st (zAv n l s).1.row, memV (zAv n l s).2.1, .bool (zAv n l s).2.2]) := by
 have hp := zAf l
 have hcl := zBQ (ints .u32 l) false 1 (.inl rfl) (by rw [zAP]; exact hb)
 by_cases h1 : n.posted = true
 ·by_cases h2 : s.length < 1
  ·have hE : zAv n l s = (n, l, false) := by unfold zAv; rw [if_neg (by omega)]
   rw [hE]
   have h2' : (s.length : Int) < 1 := by omega
   refine sZ Tryz.func169 Tryz.ntmps169 ?_
   exact zDu (qX1 (hcl)) trivial (kX2 @h1 @h2')
  ·have h2' : ¬ (s.length : Int) < 1 := by omega
   by_cases h3 : 128 < s.length
   ·have hE : zAv n l s = (n, l, false) := by unfold zAv; rw [if_neg (by omega)]
    rw [hE]
    have h3' : 128 < (s.length : Int) := by omega
    refine sZ Tryz.func169 Tryz.ntmps169 ?_
    exact zDu (qX1 (hcl)) trivial (kX3 @h1 @h2' @h3')
   ·have h3' : ¬ 128 < (s.length : Int) := by omega
    by_cases h4 : n.buffer < pagesD l
    ·have hE : zAv n l s = ({ n with posted := false, buffer := 0, received := true, got := s.length }, zBW l n.buffer (s ++ (zCg l n.buffer).drop s.length), true) := by
      unfold zAv; rw [if_pos ⟨h1, by omega, by omega, h4⟩]
     rw [hE]
     have w1 : IntKind.i64.wrap n.buffer = n.buffer := zAC (by have := hf.1; omega) (by omega)
     have w2 : IntKind.u32.wrap (s.length : Int) = s.length := u32_in (by omega) (by omega)
     have hL := zGD hf.1 h4
     have hT : (zCg l n.buffer).take 128 = zCg l n.buffer := List.take_of_length_le (by omega)
     have hS := zEX l n.buffer (s ++ (zCg l n.buffer).drop s.length) hf.1 h4 (by simp [hL]; omega)
     refine sZ Tryz.func169 Tryz.ntmps169 ?_
     exact zDu (qX3 (zCc l n.buffer hf) (zJQ l n.buffer hf.1 h4) (hS)) trivial (kX9 @h1 @h2' @h3' @h4 @w1 @w2 @hL @hT @u32c)
    ·have hE : zAv n l s = (n, l, false) := by unfold zAv; rw [if_neg (by omega)]
     rw [hE]
     refine sZ Tryz.func169 Tryz.ntmps169 ?_
     exact zDu (qX2 (hcl) (zCc l n.buffer hf)) trivial (kX4 @h1 @h2' @h3' @h4)
 ·have hE : zAv n l s = (n, l, false) := by unfold zAv; rw [if_neg (fun q => h1 q.1)]
  rw [hE]
  refine sZ Tryz.func169 Tryz.ntmps169 ?_
  exact zDu (qX1 (hcl)) trivial @h1
end Go.Proofs.YtjmhjieflbnehaaGreat
end
