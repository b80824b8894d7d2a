/- A part of the proof of ReplicaJoins. -/
import Derived.Test.YtjmhjieflbnehaaGreatP22
import Derived.Test.YtjmhjieflbnehaaGreatP23
set_option linter.unusedSimpArgs false
set_option linter.unusedVariables false
set_option maxHeartbeats 16000000
set_option maxRecDepth 100000
section
namespace Go.Proofs.YtjmhjieflbnehaaGreat
open Go.Ab Go.RowKit
theorem zJb (r : RecD) (e : EvD) : (zA9 r e).queue = r.queue := by unfold zA9; split <;> rfl
theorem zG4 (r : RecD) : (zCR r).queue = r.queue := by unfold zCR; split; exact zJb _ _; rfl
theorem zQz (r : RecD) : (goR r).1.queue = r.queue := by unfold goR clkR; simp only; split <;> rfl
theorem zGi : ∀ (n : Nat) (r : RecD) (o : List OutD), (runR n r o).1.queue = r.queue
 | 0, r, o => rfl
 | n + 1, r, o => by
  unfold runR
  split
  ·exact zG4 r
  ·rw [zGi n, zQz, zG4]
theorem zO5 (r : RecD) (steps clock : Int) (h : r.queue = []) : (advD r steps clock).1.queue = [] := by
 unfold advD
 split
 ·rw [zGi]; rfl
 ·exact h
theorem zNj (g : GateD) (o : OutD) : (zDB g o).held.length ≤ g.held.length + 1 := by
 unfold zDB
 (repeat' split) <;> simp
theorem zIc : ∀ (l : List OutD) (g : GateD), (l.foldl zDB g).held.length ≤ g.held.length + l.length
 | [], g => by simp
 | o :: l, g => by
  have h1 := zNj g o
  have h2 := zIc l (zDB g o)
  simp only [List.foldl_cons, List.length_cons]
  omega
theorem zQf (g : GateD) (l : List OutD) : (zIG g l).1.held.length ≤ g.held.length + l.length := by
 unfold zIG
 split
 ·exact zIc l g
 ·simp
structure OkL (r : RepD) (i : Nat) : Prop where
 role : r.role = 1
 host : r.host = 0
 gen : r.gen = 1
 m : OkM r.rec_.m
 c : W32 r.rec_.clock
 l : r.rec_.log = []
 q : r.rec_.queue = []
 p : OkM r.rpl.m
 pl : r.rpl.log = []
 g : r.gate.held.length ≤ 64 * i
 o : ∀ g ∈ r.out.queue, OkG g
 on : r.out.queue.length ≤ i
 t : L64 r.out.tail
 e : r.inn.early = []
 h : r.hist.length ≤ 128 * i
theorem OkL.okP {r : RepD} {i : Nat} (h : OkL r i) (hi : i ≤ 100) : OkP r 400 := by
 refine ⟨⟨h.m, h.c, by rw [h.l]; simp, by rw [h.q]; simp, by rw [h.q]; simp, by rw [h.l]; simp⟩, h.p, by rw [h.pl]; simp, by have := h.g; omega, h.o, by have := h.on; omega, by rw [h.e]; simp, by rw [h.e]; simp, by have := h.h; omega⟩
theorem OkL.run {r : RepD} {i : Nat} (h : OkL r i) (steps : Int) {clock : Int} (hc : W32 clock) : OkL (zGU r steps clock) (i + 1) := by
 unfold zGU
 split
 ·exact ⟨h.role, h.host, h.gen, h.m, h.c, h.l, h.q, h.p, h.pl, by have := h.g; omega, h.o, by have := h.on; omega, h.t, h.e, by have := h.h; omega⟩
 ·rename_i hne
  have hst : 0 ≤ stp steps ∧ stp steps ≤ 64 := by unfold stp; omega
  have hlim : limS (stp steps) ≤ 64 := by unfold limS; omega
  have hR : OkR r.rec_ 0 := ⟨h.m, h.c, by rw [h.l]; simp, by rw [h.q]; simp, by rw [h.q]; simp, by rw [h.l]; simp⟩
  have hA := hR.adv (stp steps) hc
  have hQ := zO5 r.rec_ (stp steps) clock h.q
  have hO := zLC r.rec_ (stp steps) clock
  rw [h.q] at hA
  simp only [List.length_nil] at hA
  unfold zDT
  generalize advD r.rec_ (stp steps) clock = A at hA hQ hO
  obtain ⟨a, o⟩ := A
  simp only at hA hQ hO ⊢
  have hal := hA.l
  have hH := zQf r.gate o
  unfold logA runA
  simp only
  have hcnt := zMn hA.m
  have hpush : ∀ s : SndD, s = (zDi r.out ⟨r.out.tail, a.m.count, a.log⟩).1 → (∀ g ∈ s.queue, OkG g) ∧ s.queue.length ≤ i + 1 ∧ L64 s.tail := by
   intro s hs
   have h0 : (∀ g ∈ r.out.queue, OkG g) ∧ r.out.queue.length ≤ i + 1 ∧ L64 r.out.tail := ⟨h.o, by have := h.on; omega, h.t⟩
   unfold zDi at hs
   (repeat' split at hs)
   ·subst hs; exact h0
   ·subst hs; exact h0
   ·subst hs; exact h0
   ·subst hs
    refine ⟨fun g hg => ?_, ?_, hcnt⟩
    ·rcases List.mem_append.1 hg with q | q
     ·exact h.o g q
     ·simp at q
      subst q
      exact ⟨h.t, hcnt, hA.t, by simp only; omega⟩
    ·simp only [List.length_append, List.length_cons, List.length_nil]
     have := h.on; omega
  have hout : ∀ s : SndD, s = (if r.role = 1 ∧ (a.log ≠ [] ∨ a.m.count ≠ r.out.tail) then (zDi r.out ⟨r.out.tail, a.m.count, a.log⟩).1 else r.out) → (∀ g ∈ s.queue, OkG g) ∧ s.queue.length ≤ i + 1 ∧ L64 s.tail := by
   intro s hs
   split at hs
   ·exact hpush s hs
   ·subst hs; exact ⟨h.o, by have := h.on; omega, h.t⟩
  obtain ⟨q1, q2, q3⟩ := hout _ rfl
  refine ⟨h.role, h.host, h.gen, hA.m, hA.c, rfl, hQ, h.p, h.pl, ?_, q1, q2, q3, h.e, ?_⟩
  ·simp only
   have := h.g; omega
  ·simp only [List.length_append]
   have := h.h; omega
theorem zOn : OkM zMch := by
 refine ⟨⟨fun i => ⟨by simp, by simp⟩, ⟨by simp, by simp⟩, fun i => ⟨by simp, by simp⟩, by simp⟩, by intro w hw; simp at hw, by simp, by simp, ⟨by simp, by simp⟩, ?_, ?_, ⟨by simp, by simp⟩, ⟨by simp, by simp⟩, by simp⟩
 ·constructor <;> (constructor <;> simp)
 ·constructor <;> (constructor <;> simp)
theorem prim_l {m : MchD} (hM : OkM m) (limit : Int) : OkL (zF3 0 m 1 limit) 0 := by
 refine ⟨rfl, rfl, rfl, hM, zBA, rfl, rfl, zOn, rfl, by simp [zF3, zCe], by simp [zF3], by simp [zF3], zMn hM, by simp [zF3, zCe], by simp [zF3, zCe]⟩
theorem zOB : OkR zRec 0 := ⟨zOn, zBA, by simp, by simp, by simp, by simp⟩
theorem OkL.joinA {r : RepD} {i : Nat} (h : OkL r i) (hi : i ≤ 100) (limit : Int) : OkP (joinA r limit) 40000 := by
 have hg := h.g
 have hh := h.h
 refine ⟨(h.okP hi).c.up (by omega), h.p, by show r.rpl.log.length ≤ _; rw [h.pl]; simp, by show r.gate.held.length ≤ _; omega, by intro g hg; simp [Go.Proofs.YtjmhjieflbnehaaGreat.joinA] at hg, by simp [Go.Proofs.YtjmhjieflbnehaaGreat.joinA], ?_, ?_, by show r.hist.length ≤ _; omega⟩
 ·show ∀ e ∈ r.inn.early, OkG e.2
  rw [h.e]; simp
 ·show r.inn.early.length ≤ _
  rw [h.e]; simp
theorem OkL.joinB {r : RepD} {i : Nat} (h : OkL r i) (hi : i ≤ 100) (limit : Int) : OkP (joinB r limit) 40000 := by
 have hg := h.g
 have hh := h.h
 refine ⟨zOB.up (by omega), h.m, by simp [Go.Proofs.YtjmhjieflbnehaaGreat.joinB], by show r.gate.held.length ≤ _; omega, by intro g hg; simp [Go.Proofs.YtjmhjieflbnehaaGreat.joinB] at hg, by simp [Go.Proofs.YtjmhjieflbnehaaGreat.joinB], by intro g hg; simp [Go.Proofs.YtjmhjieflbnehaaGreat.joinB] at hg, by simp [Go.Proofs.YtjmhjieflbnehaaGreat.joinB], by show r.hist.length ≤ _; omega⟩
theorem back_p {m : MchD} (hM : OkM m) (limit : Int) : OkP (zDp 1 m 1 limit) 40000 := by
 refine ⟨zOB.up (by omega), hM, by simp [zDp], by simp [zDp, zCe], by intro g hg; simp [zDp, zCe] at hg, by simp [zDp, zCe], by intro g hg; simp [zDp] at hg, by simp [zDp], by simp [zDp, zCe]⟩
end Go.Proofs.YtjmhjieflbnehaaGreat
end
