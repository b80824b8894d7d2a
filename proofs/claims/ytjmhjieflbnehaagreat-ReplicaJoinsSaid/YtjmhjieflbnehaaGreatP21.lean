/- A part of the proof of ReplicaJoins. -/
import Derived.Test.YtjmhjieflbnehaaGreatP20
set_option linter.unusedSimpArgs false
set_option linter.unusedVariables false
set_option maxHeartbeats 16000000
set_option maxRecDepth 100000
section
namespace Go.Proofs.YtjmhjieflbnehaaGreat
open Go.Ab Go.RowKit
theorem zOc (a b : Int) : W32 (iand .u32 a b) := by unfold iand; rw [IntKind.wrap_u32]; constructor <;> omega
theorem zSG (a b : Int) : W32 (ior .u32 a b) := by unfold ior; rw [IntKind.wrap_u32]; constructor <;> omega
theorem ixor_w (a b : Int) : W32 (ixor .u32 a b) := by unfold ixor; rw [IntKind.wrap_u32]; constructor <;> omega
theorem zJv (a b : Int) : W32 (zAQ .u32 a b) := by unfold zAQ; rw [IntKind.wrap_u32]; constructor <;> omega
theorem zSu (b : Bool) : W32 (b2w b) := by cases b <;> (constructor <;> decide)
theorem zBA : W32 0 := ⟨by decide, by decide⟩
theorem shr_w {a : Int} (h : W32 a) (n : Nat) : W32 (a / 2 ^ n) := by
 have p : (0 : Int) < 2 ^ n := Int.pow_pos (by decide)
 refine ⟨Int.ediv_nonneg h.1 (Int.le_of_lt p), Int.lt_of_le_of_lt (Int.ediv_le_self _ h.1) h.2⟩
theorem zAx {α : Type} {P : α → Prop} {c : Prop} [Decidable c] {a b : α} (ha : c → P a) (hb : ¬ c → P b) : P (if c then a else b) := by
 by_cases h : c
 ·rw [if_pos h]; exact ha h
 ·rw [if_neg h]; exact hb h
theorem zS5 {c : Prop} [Decidable c] {a b : Int} (ha : W32 a) (hb : W32 b) : W32 (if c then a else b) := zAx (P := W32) (fun _ => ha) (fun _ => hb)
theorem zEt {c : Prop} [Decidable c] {x : Int} {o : Option Int} (hx : W32 x) (ho : W32 (o.getD 0)) : W32 ((if c then some x else o).getD 0) := zAx (P := fun z : Option Int => W32 (z.getD 0)) (fun _ => hx) (fun _ => ho)
theorem alu_w {op a b : Int} (ha : W32 a) : W32 ((aluD op a b).getD 0) := by
 have hq : W32 (divQ a b) := zS5 ⟨by decide, by decide⟩ (uw_w _)
 have hr : W32 (divR a b) := zS5 ha (uw_w _)
 unfold aluD
 exact zEt (uw_w _) (zEt (uw_w _) (zEt (zOc _ _) (zEt (zSG _ _) (zEt (ixor_w _ _) (zEt (uw_w _) (zEt (shr_w ha _) (zEt (uw_w _) (zEt (uw_w _) (zEt hq (zEt hr (zEt (zSu _) (zEt (zSu _) zBA))))))))))))
theorem OkC.setS {c : CpuD} (h : OkC c) {k v : Int} (hv : W32 v) (h0 : k = 0 → v ≤ 31) : OkC (c.setS k v) := by
 refine ⟨h.x, h.pc, fun i => ?_, ?_⟩
 ·simp only [CpuD.setS]; split; exact hv; exact h.csr i
 ·simp only [CpuD.setS]; split
  ·rename_i q; exact h0 (by simpa using q.symm)
  ·exact h.s
theorem OkC.write {c : CpuD} (h : OkC c) {k v : Int} (hv : W32 v) : OkC (zBC c k v) := by
 unfold zBC
 split
 ·exact h.setS (zOc _ _) (fun _ => by rw [show iand .u32 v 31 = v % 32 from zBD v 5 32 (by omega) (by decide)]; omega)
 ·split
  ·rename_i q; exact h.setS (zOc _ _) (fun z => by omega)
  ·split
   ·exact h.setS (zJv _ _) (fun z => by omega)
   ·split
    ·exact h.setS hv (fun z => by omega)
    ·exact h
theorem OkC.execute {c : CpuD} (h : OkC c) (i : InstD) : OkC (zAH c i).1 := by
 have hz : ∀ b : Bool, W32 (if b = true then uw (c.pc + uw (4 * uw i.imm)) else uw (c.pc + 4)) := fun b => zS5 (uw_w _) (uw_w _)
 unfold zAH
 exact zAx (P := fun z : CpuD × EffD => OkC z.1) (fun _ => (h.setR (uw_w _)).setP (uw_w _)) (fun _ => zAx (P := fun z : CpuD × EffD => OkC z.1) (fun _ => h.setP (hz _)) (fun _ => zAx (P := fun z : CpuD × EffD => OkC z.1) (fun _ => (h.setR (uw_w _)).setP (uw_w _)) (fun _ => zAx (P := fun z : CpuD × EffD => OkC z.1) (fun _ => (h.setR (uw_w _)).setP (uw_w _)) (fun _ => zAx (P := fun z : CpuD × EffD => OkC z.1) (fun _ => h.trap zBA) (fun _ => zAx (P := fun z : CpuD × EffD => OkC z.1) (fun _ => h.ret) (fun _ => zAx (P := fun z : CpuD × EffD => OkC z.1) (fun _ => (h.setR (h.csr _)).setP (uw_w _)) (fun _ => zAx (P := fun z : CpuD × EffD => OkC z.1) (fun _ => (h.write (h.x _)).setP (uw_w _)) (fun _ => zAx (P := fun z : CpuD × EffD => OkC z.1) (fun _ => h.setP (uw_w _)) (fun _ => zAx (P := fun z : CpuD × EffD => OkC z.1) (fun _ => h.setP (uw_w _)) (fun _ => zAx (P := fun z : CpuD × EffD => OkC z.1) (fun _ => h.setP (uw_w _)) (fun _ => zAx (P := fun z : CpuD × EffD => OkC z.1) (fun _ => h.setP (uw_w _)) (fun _ => zAx (P := fun z : CpuD × EffD => OkC z.1) (fun _ => h.setP (uw_w _)) (fun _ => (h.setR (alu_w (h.x _))).setP (uw_w _))))))))))))))
theorem OkE.execute {c : CpuD} (h : OkC c) (i : InstD) (hi : OkI i) : OkE (zAH c i).2 := by
 have hz : OkE zEff := ⟨fun q => by simp [zEff] at q, zBA⟩
 have h1 : OkE ⟨1, i.imm, i.a, 0⟩ := ⟨fun _ => ⟨hi.a0, hi.a1⟩, zBA⟩
 have h2 : OkE ⟨2, i.imm, 0, c.x i.a.toNat⟩ := ⟨fun q => by simp at q, h.x _⟩
 have h3 : ∀ k : Int, k ≠ 1 → OkE ⟨k, 0, 0, 0⟩ := fun k hk => ⟨fun q => absurd q hk, zBA⟩
 unfold zAH
 exact zAx (P := fun z : CpuD × EffD => OkE z.2) (fun _ => hz) (fun _ => zAx (P := fun z : CpuD × EffD => OkE z.2) (fun _ => hz) (fun _ => zAx (P := fun z : CpuD × EffD => OkE z.2) (fun _ => hz) (fun _ => zAx (P := fun z : CpuD × EffD => OkE z.2) (fun _ => hz) (fun _ => zAx (P := fun z : CpuD × EffD => OkE z.2) (fun _ => hz) (fun _ => zAx (P := fun z : CpuD × EffD => OkE z.2) (fun _ => hz) (fun _ => zAx (P := fun z : CpuD × EffD => OkE z.2) (fun _ => hz) (fun _ => zAx (P := fun z : CpuD × EffD => OkE z.2) (fun _ => hz) (fun _ => zAx (P := fun z : CpuD × EffD => OkE z.2) (fun _ => h1) (fun _ => zAx (P := fun z : CpuD × EffD => OkE z.2) (fun _ => h2) (fun _ => zAx (P := fun z : CpuD × EffD => OkE z.2) (fun _ => h3 _ (by decide)) (fun _ => zAx (P := fun z : CpuD × EffD => OkE z.2) (fun _ => h3 _ (by decide)) (fun _ => zAx (P := fun z : CpuD × EffD => OkE z.2) (fun _ => h3 _ (by decide)) (fun _ => hz)))))))))))))
theorem zSz {l : List Int} (h : OkW l) (a s : Int) : W32 (zBl l a s) := by
 unfold zBl
 split
 ·have := zFI (wAt l (a / 4)) (a % 4); exact ⟨by omega, by omega⟩
 ·exact zMQ h _
theorem zTP {v : Int} (h : 0 ≤ v ∧ v < 256) : W32 (zHj v) := by unfold zHj; split <;> (constructor <;> omega)
theorem load_c {c : CpuD} {l : List Int} {i : InstD} (h : OkC c) (hl : OkW l) : OkC (zAy c l i).1 := by
 unfold zAy
 have hw := zBy (c := c) (va := uw (c.x i.b.toNat + uw i.imm)) (s := zAY i.op) (acc := 2) hl
 generalize zAG c l (uw (c.x i.b.toNat + uw i.imm)) (zAY i.op) 2 = R at *
 obtain ⟨a, m, k⟩ := R
 simp only
 split
 ·exact h.trap (uw_w _)
 ·refine (h.setR ?_).setP (uw_w _)
  split
  ·rename_i q; exact zTP (by rw [show zAY i.op = 1 by rw [q]; rfl]; exact zFI _ _)
  ·exact zSz hw _ _
theorem zRi {c : CpuD} {l : List Int} {i : InstD} (hl : OkW l) : OkW (zAy c l i).2 ∧ (zAy c l i).2.length = l.length := by
 unfold zAy
 have hw := zBy (c := c) (va := uw (c.x i.b.toNat + uw i.imm)) (s := zAY i.op) (acc := 2) hl
 have hn := zBE c l (uw (c.x i.b.toNat + uw i.imm)) (zAY i.op) 2
 generalize zAG c l (uw (c.x i.b.toNat + uw i.imm)) (zAY i.op) 2 = R at *
 obtain ⟨a, m, k⟩ := R
 simp only
 split <;> exact ⟨hw, hn⟩
theorem zTR {c : CpuD} {l : List Int} {i : InstD} (h : OkC c) : OkC (zAS c l i).1 := by
 unfold zAS
 generalize zAG c l (uw (c.x i.b.toNat + uw i.imm)) (zAY i.op) 3 = R
 obtain ⟨a, m, k⟩ := R
 simp only
 split
 ·exact h.trap (uw_w _)
 ·exact h.setP (uw_w _)
theorem zRH {l : List Int} (hl : OkW l) (a s : Int) {v : Int} (hv : W32 v) : OkW (zCL l a s v) := by
 unfold zCL
 refine zS4 hl ?_
 split
 ·exact putB_w (zMQ hl _) (by omega)
 ·exact hv
theorem zNN {c : CpuD} {l : List Int} {i : InstD} (h : OkC c) (hl : OkW l) : OkW (zAS c l i).2 ∧ (zAS c l i).2.length = l.length := by
 unfold zAS
 have hw := zBy (c := c) (va := uw (c.x i.b.toNat + uw i.imm)) (s := zAY i.op) (acc := 3) hl
 have hn := zBE c l (uw (c.x i.b.toNat + uw i.imm)) (zAY i.op) 3
 generalize zAG c l (uw (c.x i.b.toNat + uw i.imm)) (zAY i.op) 3 = R at *
 obtain ⟨a, m, k⟩ := R
 simp only
 split
 ·exact ⟨hw, hn⟩
 ·exact ⟨zRH hw _ _ (h.x _), by simp [zCL]; exact hn⟩
theorem zR3 {c : CpuD} {l : List Int} (h : OkC c) (hl : OkW l) {w : Int} (hw : W32 w) : OkC (zBa c l w).1 ∧ OkW (zBa c l w).2.1 ∧ (zBa c l w).2.1.length = l.length ∧ OkE (zBa c l w).2.2 := by
 have hz : OkE zEff := ⟨fun q => by simp [zEff] at q, zBA⟩
 unfold zBa
 split
 ·exact ⟨h.trap hw, hl, rfl, hz⟩
 ·rename_i hv
  split
  ·exact ⟨h.trap hw, hl, rfl, hz⟩
  ·split
   ·exact ⟨load_c h hl, (zRi hl).1, (zRi hl).2, hz⟩
   ·split
    ·exact ⟨zTR h, (zNN h hl).1, (zNN h hl).2, hz⟩
    ·exact ⟨h.execute _, hl, rfl, OkE.execute h _ (zA6 (by simpa using hv))⟩
theorem zRr {c : CpuD} {l : List Int} (h : OkC c) (hl : OkW l) : OkC (zAs c l).1 ∧ OkW (zAs c l).2.1 ∧ (zAs c l).2.1.length = l.length ∧ OkE (zAs c l).2.2 := by
 have hz : OkE zEff := ⟨fun q => by simp [zEff] at q, zBA⟩
 unfold zAs
 have hw := zBy (c := c) (va := c.pc) (s := 4) (acc := 1) hl
 have hn := zBE c l c.pc 4 1
 generalize zAG c l c.pc 4 1 = R at *
 obtain ⟨a, m, k⟩ := R
 simp only
 split
 ·exact ⟨h.trap h.pc, hw, hn, hz⟩
 ·obtain ⟨a1, a2, a3, a4⟩ := zR3 h hw (zMQ hw (a / 4))
  exact ⟨a1, a2, a3.trans hn, a4⟩
theorem zIp {m : MchD} (h : OkM m) : OkM (zAM m) := by
 have hc := zEO h
 unfold zAM at *
 split
 ·exact h.wait false
 ·split
  ·exact h.wait false
  ·rename_i q _ _ hl
   rw [if_neg q, hl] at hc
   exact ⟨hc, h.w, h.n, h.k, h.t, h.d, h.r, h.tg, h.gv, h.ct⟩
theorem zFO {m : MchD} (h : OkM m) : OkM (zCK m) ∧ OkE (effD m) := by
 have hb := zIp h
 obtain ⟨a1, a2, a3, a4⟩ := zRr hb.c h.w
 exact ⟨⟨a1, a2, by show (zAs (zAM m).cpu m.mem).2.1.length ≤ 1024; rw [a3]; exact h.n, hb.k, hb.t, hb.d, hb.r, hb.tg, hb.gv, hb.ct⟩, a4⟩
theorem zMX {m : MchD} (h : OkM m) (p : Int) {k : Int} (hk : W32 k) : OkM (zAp m p k).1 ∧ W32 (zAp m p k).2 := by
 have hlen : (m.keys.length : Int) < 4294967296 := by have := h.k; omega
 have hkey : W32 (keyH m.keys) := by
  unfold keyH
  split
  ·exact ⟨by decide, by decide⟩
  ·rename_i b _ _; have := b.toNat_lt; exact ⟨by omega, by omega⟩
 unfold zAp
 split
 ·unfold zGa
  split
  ·exact ⟨⟨h.c, h.w, h.n, by simp only [List.length_tail]; have := h.k; omega, h.t, h.d, h.r, h.tg, h.gv, h.ct⟩, hkey⟩
  ·split
   ·exact ⟨h, ⟨by omega, hlen⟩⟩
   ·exact ⟨h, zBA⟩
 ·split
  ·exact ⟨h, hk⟩
  ·split
   ·exact ⟨h, zSu _⟩
   ·split
    ·refine ⟨h, ?_⟩
     unfold zRK
     repeat' split
     ·exact h.d.b
     ·exact h.d.c
     ·exact uw_w _
     ·exact zBA
    ·split
     ·refine ⟨h, ?_⟩
      unfold zPC
      repeat' split
      ·exact h.r.a
      ·exact h.r.d
      ·show W32 (b2w m.nc.posted + b2w m.nc.received * 2)
       cases m.nc.posted <;> cases m.nc.received <;> exact ⟨by decide, by decide⟩
      ·exact zBA
     ·split
      ·refine ⟨h, ?_⟩
       unfold zRC
       repeat' split
       ·exact h.tg
       ·have := zDY h.gv; exact ⟨by omega, by omega⟩
       ·exact zBA
      ·exact ⟨h, zBA⟩
theorem zTK (s : Str) (i : Nat) : W32 (zJ4 s i) := by
 unfold zJ4
 have := (s.getD (4 * i) 0).toNat_lt; have := (s.getD (4 * i + 1) 0).toNat_lt; have := (s.getD (4 * i + 2) 0).toNat_lt; have := (s.getD (4 * i + 3) 0).toNat_lt
 constructor <;> omega
theorem zRq {l : List Int} (h : OkW l) (o : Nat) (s : Str) : ∀ n, OkW (putW l o s n)
 | 0 => h
 | n + 1 => zS4 (zRq h o s n) (zTK s n)
theorem zFs {l : List Int} (h : OkW l) (f : Int) (s : Str) : OkW (zBW l f s) := zRq h _ s 32
theorem zDn (l : List Int) (f : Int) (s : Str) : (zBW l f s).length = l.length := zKu _ _ _ _
theorem OkD.out {d : DskD} (h : OkD d) (l : List Int) (p : Int) {v : Int} (hv : W32 v) (t : Int) : OkD (zBg d l p v t).1 := by
 obtain ⟨ha, hb, hc, he, hf⟩ := h
 unfold zBg zBo
 repeat' split
 all_goals exact ⟨by first | exact ha | exact hv, by first | exact hb | exact hv, by first | exact hc | exact hv, by first | exact he | exact hb, by first | exact hf | exact hc⟩
theorem OkN.out {n : NicD} (h : OkN n) (l : List Int) (p : Int) {v : Int} (hv : W32 v) (t : Int) : OkN (zAd n l p v t).1 := by
 obtain ⟨ha, hb, hc, hd⟩ := h
 unfold zAd
 repeat' split
 all_goals first
  | exact ⟨ha, hb, hc, hd⟩
  | exact ⟨hv, hb, hc, hd⟩
  | exact ⟨ha, hv, hc, hd⟩
  | exact ⟨ha, hb, ha, hd⟩
  | exact ⟨ha, hb, hc, zBA⟩
  | (simp only []; split <;> first | exact ⟨ha, hb, hc, hd⟩ | exact ⟨ha, hb, ha, hd⟩)
theorem zRm {g : Int} {l : List Int} (hg : W32 g) (hl : OkW l) (p v : Int) : W32 (zA1 g l p v).1 ∧ OkW (zA1 g l p v).2 ∧ (zA1 g l p v).2.length = l.length := by
 have h1 := zFs hl v zDv
 have h2 := zDn l v zDv
 unfold zA1
 generalize zBW l v zDv = S at *
 have h0 : W32 g ∧ OkW l ∧ l.length = l.length := ⟨hg, hl, rfl⟩
 exact zAx (P := fun z : Int × List Int => W32 z.1 ∧ OkW z.2 ∧ z.2.length = l.length) (fun _ => h0) (fun _ => zAx (P := fun z : Int × List Int => W32 z.1 ∧ OkW z.2 ∧ z.2.length = l.length) (fun _ => zAx (P := fun z : Int × List Int => W32 z.1 ∧ OkW z.2 ∧ z.2.length = l.length) (fun _ => ⟨zSG _ _, h1, h2⟩) (fun _ => h0)) (fun _ => zAx (P := fun z : Int × List Int => W32 z.1 ∧ OkW z.2 ∧ z.2.length = l.length) (fun _ => ⟨zJv _ _, hl, rfl⟩) (fun _ => h0)))
theorem zJN {m : MchD} (h : OkM m) (p : Int) {v : Int} (hv : W32 v) (t : Int) : OkM (zAO m p v t).1 := by
 unfold zAO
 split
 ·exact h
 ·split
  ·exact ⟨h.c, h.w, h.n, h.k, hv, h.d, h.r, h.tg, h.gv, h.ct⟩
  ·split
   ·exact ⟨h.c, h.w, h.n, h.k, h.t, h.d.out _ _ hv _, h.r, h.tg, h.gv, h.ct⟩
   ·split
    ·exact ⟨h.c, h.w, h.n, h.k, h.t, h.d, h.r.out _ _ hv _, h.tg, h.gv, h.ct⟩
    ·split
     ·obtain ⟨a1, a2, a3⟩ := zRm h.gv h.w p v
      exact ⟨h.c, a2, by show (zA1 m.given m.mem p v).2.length ≤ 1024; rw [a3]; exact h.n, h.k, h.t, h.d, h.r, h.tg, a1, h.ct⟩
     ·exact h
theorem done_m {m : MchD} {e : EffD} (h : OkM m) (he : OkE e) {k : Int} (hk : W32 k) (t : Int) : OkM (zBm m e k t).1 := by
 unfold zBm
 split
 ·obtain ⟨a1, a2⟩ := zMX h e.port hk
  exact ⟨a1.c.setR a2, a1.w, a1.n, a1.k, a1.t, a1.d, a1.r, a1.tg, a1.gv, a1.ct⟩
 ·split
  ·exact zJN h _ he.v _
  ·split
   ·exact h.wait true
   ·split
    ·exact ⟨h.c, h.w, h.n, h.k, h.t, h.d, h.r, h.tg, h.gv, h.ct⟩
    ·exact h
theorem zGy (m : MchD) (e : EffD) (k t : Int) : (zBm m e k t).1.count = m.count := by
 have h1 : (zAp m e.port k).1.count = m.count := by unfold zAp; (repeat' split) <;> rfl
 have h2 : (zAO m e.port e.val t).1.count = m.count := by unfold zAO; (repeat' split) <;> rfl
 unfold zBm
 repeat' split
 all_goals first | exact h1 | exact h2 | rfl
theorem zFo (m : MchD) : (zCK m).count = m.count := by
 show (zAM m).count = m.count
 unfold zAM; split; rfl; split <;> rfl
theorem go_ok {m : MchD} (h : OkM m) (hr : zE9 m = true) {k : Int} (hk : W32 k) : OkM (goD m k).1 ∧ (goD m k).1.count = m.count + 1 := by
 have hc : m.count < 1152921504606846976 := by unfold zE9 at hr; simp at hr; exact hr.2
 obtain ⟨a1, a2⟩ := zFO h
 have hd := done_m a1 a2 hk m.count
 have hq := zGy (zCK m) (effD m) k m.count
 rw [zFo] at hq
 unfold goD
 refine ⟨⟨hd.c, hd.w, hd.n, hd.k, hd.t, hd.d, hd.r, hd.tg, hd.gv, ?_⟩, by show _ + 1 = _; rw [hq]⟩
 show 0 ≤ _ + 1 ∧ _ + 1 < _
 rw [hq]
 have := h.ct
 omega
theorem step_m {m : MchD} (h : OkM m) {k : Int} (hk : W32 k) : OkM (stepD m k).1 := by
 unfold stepD
 split
 ·rename_i q; exact (go_ok h q hk).1
 ·exact h
theorem OkD.complete {d : DskD} (h : OkD d) (l : List Int) (e : EvD) : OkD (zAX d l e).1 := by
 obtain ⟨ha, hb, hc, he, hf⟩ := h
 unfold zAX doneD
 repeat' split
 all_goals first | exact ⟨ha, hb, hc, he, hf⟩ | exact ⟨ha, hb, hc, zBA, zBA⟩
theorem zL4 {d : DskD} {l : List Int} (hl : OkW l) (e : EvD) : OkW (zAX d l e).2.1 ∧ (zAX d l e).2.1.length = l.length := by
 have h1 := zFs hl d.opFrame e.data
 have h2 := zDn l d.opFrame e.data
 unfold zAX
 generalize zBW l d.opFrame e.data = S at *
 have h0 : OkW l ∧ l.length = l.length := ⟨hl, rfl⟩
 exact zAx (P := fun z : DskD × List Int × Bool => OkW z.2.1 ∧ z.2.1.length = l.length) (fun _ => h0) (fun _ => zAx (P := fun z : DskD × List Int × Bool => OkW z.2.1 ∧ z.2.1.length = l.length) (fun _ => zAx (P := fun z : DskD × List Int × Bool => OkW z.2.1 ∧ z.2.1.length = l.length) (fun _ => ⟨h1, h2⟩) (fun _ => h0)) (fun _ => zAx (P := fun z : DskD × List Int × Bool => OkW z.2.1 ∧ z.2.1.length = l.length) (fun _ => h0) (fun _ => h0)))
theorem recv_m {n : NicD} {l : List Int} (hn : OkN n) (hl : OkW l) (s : Str) : OkN (zAv n l s).1 ∧ OkW (zAv n l s).2.1 ∧ (zAv n l s).2.1.length = l.length := by
 have h1 := zFs hl n.buffer (s ++ (zCg l n.buffer).drop s.length)
 have h2 := zDn l n.buffer (s ++ (zCg l n.buffer).drop s.length)
 unfold zAv
 generalize zBW l n.buffer (s ++ (zCg l n.buffer).drop s.length) = S at *
 obtain ⟨ha, hb, hc, hd⟩ := hn
 refine zAx (P := fun z : NicD × List Int × Bool => OkN z.1 ∧ OkW z.2.1 ∧ z.2.1.length = l.length) (fun q => ?_) (fun _ => ⟨⟨ha, hb, hc, hd⟩, hl, rfl⟩)
 obtain ⟨q1, q2, q3, q4⟩ := q
 exact ⟨⟨ha, hb, zBA, ⟨by show (0 : Int) ≤ (s.length : Int); omega, by show (s.length : Int) < 4294967296; omega⟩⟩, h1, h2⟩
theorem zNu {m : MchD} (h : OkM m) {e : EvD} (he : W32 e.n) : OkM (zAz m e).1 ∧ (zAz m e).1.count = m.count := by
 unfold zAz
 split
 ·exact ⟨h, rfl⟩
 ·split
  ·split
   ·refine ⟨⟨h.c, h.w, h.n, h.k, ?_, h.d, h.r, h.tg, h.gv, h.ct⟩, rfl⟩
    unfold zHC; split <;> exact h.t
   ·exact ⟨h, rfl⟩
  ·split
   ·split
    ·refine ⟨⟨h.c, h.w, h.n, ?_, h.t, h.d, h.r, h.tg, h.gv, h.ct⟩, rfl⟩
     unfold zHL
     split
     ·exact h.k
     ·simp; omega
    ·exact ⟨h, rfl⟩
   ·split
    ·obtain ⟨a1, a2⟩ := zL4 (d := m.dk) h.w e
     exact ⟨⟨h.c, a1, by show (zAX m.dk m.mem e).2.1.length ≤ 1024; rw [a2]; exact h.n, h.k, h.t, h.d.complete _ _, h.r, h.tg, h.gv, h.ct⟩, rfl⟩
    ·split
     ·split
      ·obtain ⟨a1, a2, a3⟩ := recv_m h.r h.w e.data
       exact ⟨⟨h.c, a2, by show (zAv m.nc m.mem e.data).2.1.length ≤ 1024; rw [a3]; exact h.n, h.k, h.t, h.d, a1, h.tg, h.gv, h.ct⟩, rfl⟩
      ·exact ⟨h, rfl⟩
     ·split
      ·split
       ·exact ⟨⟨h.c, h.w, h.n, h.k, h.t, h.d, h.r, he, h.gv, h.ct⟩, rfl⟩
       ·exact ⟨h, rfl⟩
      ·exact ⟨h, rfl⟩
theorem zIe (m : MchD) (p v t : Int) (hM : OkM m) (hv : W32 v) : zAD Tryz.prog 175 [.st m.row, iv p, uv v, lv t] (.tup [.st (zAO m p v t).1.row, zJw (zAO m p v t).2]) := by
 have hd := zMk m.dk m.mem p v t hM.d.c hv
 have hn := zOw m.nc m.mem p v t hM.r.a hM.r.b
 have hb := zNK m.tgt m.given m.mem p v hM.gv hv (by have := hM.n; omega)
 by_cases h0 : p = 0
 ·subst h0
  have hbv : zBp [.int .u8 (IntKind.u8.wrap v)] := zNV v
  have hE : zAO m 0 v t = (m, [⟨1, t, 0, [UInt8.ofNat (v % 256).toNat]⟩]) := by simp [zAO]
  have hw : zDd [.int .u8 (IntKind.u8.wrap v)] = UInt8.ofNat (v % 256).toNat := by simp [zDd, IntKind.wrap_u8]
  rw [hE]
  refine sZ Tryz.func175 Tryz.ntmps175 ?_
  exact wx1 trivial trivial (kX3 @hbv @hw @zPU)
 ·by_cases h3 : p = 3
  ·subst h3
   have hE : zAO m 3 v t = ({ m with tim := armD v }, []) := by simp [zAO]
   rw [hE]
   refine sZ Tryz.func175 Tryz.ntmps175 ?_
   exact wx1 (qX1 (arm_ok m.tim v)) trivial @outs.eq_1
  ·by_cases h4 : p = 4 ∨ p = 5 ∨ p = 6
   ·have hE : zAO m p v t = ({ m with dk := (zBg m.dk m.mem p v t).1 }, (zBg m.dk m.mem p v t).2) := by unfold zAO; rw [if_neg h0, if_neg h3, if_pos h4]
    rw [hE]
    generalize zBg m.dk m.mem p v t = R at *
    rcases h4 with rfl | rfl | rfl
    ·refine sZ Tryz.func175 Tryz.ntmps175 ?_
     exact wx (qX1 (hd)) trivial
    ·refine sZ Tryz.func175 Tryz.ntmps175 ?_
     exact wx (qX1 (hd)) trivial
    ·refine sZ Tryz.func175 Tryz.ntmps175 ?_
     exact wx (qX1 (hd)) trivial
   ·by_cases h7 : p = 7 ∨ p = 8 ∨ p = 9
    ·have hE : zAO m p v t = ({ m with nc := (zAd m.nc m.mem p v t).1 }, (zAd m.nc m.mem p v t).2) := by unfold zAO; rw [if_neg h0, if_neg h3, if_neg h4, if_pos h7]
     rw [hE]
     generalize zAd m.nc m.mem p v t = R at *
     rcases h7 with rfl | rfl | rfl
     ·refine sZ Tryz.func175 Tryz.ntmps175 ?_
      exact wx (qX1 (hn)) trivial
     ·refine sZ Tryz.func175 Tryz.ntmps175 ?_
      exact wx (qX1 (hn)) trivial
     ·refine sZ Tryz.func175 Tryz.ntmps175 ?_
      exact wx (qX1 (hn)) trivial
    ·by_cases h10 : p = 10 ∨ p = 11
     ·have hE : zAO m p v t = ({ m with given := (zA1 m.given m.mem p v).1, mem := (zA1 m.given m.mem p v).2 }, []) := by unfold zAO; rw [if_neg h0, if_neg h3, if_neg h4, if_neg h7, if_pos h10]
      rw [hE]
      generalize zA1 m.given m.mem p v = R at *
      rcases h10 with rfl | rfl
      ·refine sZ Tryz.func175 Tryz.ntmps175 ?_
       exact wx (qX1 (hb)) trivial
      ·refine sZ Tryz.func175 Tryz.ntmps175 ?_
       exact wx (qX1 (hb)) trivial
     ·have hE : zAO m p v t = (m, []) := by unfold zAO; rw [if_neg h0, if_neg h3, if_neg h4, if_neg h7, if_neg h10]
      rw [hE]
      have n4 : ¬ p = 4 := by omega
      have n5 : ¬ p = 5 := by omega
      have n6 : ¬ p = 6 := by omega
      have n7 : ¬ p = 7 := by omega
      have n8 : ¬ p = 8 := by omega
      have n9 : ¬ p = 9 := by omega
      have n10 : ¬ p = 10 := by omega
      have n11 : ¬ p = 11 := by omega
      refine sZ Tryz.func175 Tryz.ntmps175 ?_
      exact wx1 trivial trivial (kX10 @h0 @h3 @n4 @n5 @n6 @n7 @n8 @n9 @n10 @n11)
theorem zGV (m : MchD) (p k : Int) : (zAp m p k).1.count = m.count := by unfold zAp; (repeat' split) <;> rfl
theorem zGN (m : MchD) (p v t : Int) : (zAO m p v t).1.count = m.count := by unfold zAO; (repeat' split) <;> rfl
theorem zJ8 (m : MchD) : (zAM m).count = m.count := by unfold zAM; split; rfl; split <;> rfl
theorem zP9 (m : MchD) {r : Int} (v : Int) (h0 : 0 ≤ r) (h1 : r ≤ 15) : m.row.set r.toNat (uv v) = ({ m with cpu := m.cpu.setX r v } : MchD).row := by
 rcases zFf h0 h1 with rfl | rfl | rfl | rfl | rfl | rfl | rfl | rfl | rfl | rfl | rfl | rfl | rfl | rfl | rfl | rfl <;> simp [CpuD.setX]
theorem step_ok (m : MchD) (k : Int) (hM : OkM m) :
  zAD Tryz.prog 114 [.st m.row, uv k] (.tup [.st (stepD m k).1.row, zJw (stepD m k).2]) := by
 obtain ⟨hb, he⟩ := zFO hM
 have hcl := zBQ (ints .u32 m.mem) false 1 (.inl rfl) (by rw [zAP]; have := hM.n; omega)
 have hr := zM0 m hM
 cases hR : zE9 m with
 | false =>
  have hE : stepD m k = (m, []) := by unfold stepD; rw [hR]; rfl
  rw [hR] at hr
  rw [hE]
  refine sZ Tryz.func114 Tryz.ntmps114 ?_
  exact wx (qX2 (hcl) (hr)) trivial
 | true =>
  have hE : stepD m k = goD m k := by unfold stepD; rw [hR]; rfl
  rw [hR] at hr
  rw [hE]
  have hx := zOv (zAM m).cpu m.mem (zEO hM) hM.w (by have := hM.n; omega)
  have hbe := zKR m hM
  have hm := zJ0 m
  have hbc := zJ8 m
  have hct0 := hM.ct
  unfold goD effD zCK
  unfold effD at he
  unfold zCK at hb
  generalize zAM m = b at *
  generalize zAs b.cpu m.mem = Z at *
  obtain ⟨M, hMd⟩ : ∃ M : MchD, M = { b with cpu := Z.1, mem := Z.2.1 } := ⟨_, rfl⟩
  have hMc : M.count = m.count := by rw [hMd]; exact hbc
  rw [← hMd] at hb ⊢
  by_cases k1 : Z.2.2.kind = 1
  ·obtain ⟨r0, r1⟩ := he.r k1
   have hp := zJp M Z.2.2.port k hb
   have hc := zGV M Z.2.2.port k
   have hD : zBm M Z.2.2 k m.count = ({ (zAp M Z.2.2.port k).1 with cpu := (zAp M Z.2.2.port k).1.cpu.setR Z.2.2.reg (zAp M Z.2.2.port k).2 }, []) := by unfold zBm; rw [if_pos k1]
   rw [hD]
   generalize zAp M Z.2.2.port k = R at *
   rw [hMc] at hc
   have hct : IntKind.u64.wrap (R.1.count + 1) = R.1.count + 1 := u64_in (by omega) (by omega)
   subst hMd
   by_cases hz : Z.2.2.reg = 0
   ·refine sZ Tryz.func114 Tryz.ntmps114 ?_
    exact wx1 (qX5 (hcl) (hr) (hbe) (hx) (hp)) trivial (kX5 @hm @k1 @hz @hct @CpuD.setR.eq_1)
   ·have hs := zP9 R.1 R.2 r0 r1
    simp at hs
    refine sZ Tryz.func114 Tryz.ntmps114 ?_
    exact wx1 (qX5 (hcl) (hr) (hbe) (hx) (hp)) trivial (kX6 @hm @k1 @hz @hct @hs @CpuD.setR.eq_1)
  ·by_cases k2 : Z.2.2.kind = 2
   ·have hp := zIe M Z.2.2.port Z.2.2.val m.count hb he.v
    have hc := zGN M Z.2.2.port Z.2.2.val m.count
    have hD : zBm M Z.2.2 k m.count = zAO M Z.2.2.port Z.2.2.val m.count := by unfold zBm; rw [if_neg k1, if_pos k2]
    rw [hD]
    generalize zAO M Z.2.2.port Z.2.2.val m.count = R at *
    rw [hMc] at hc
    have hct : IntKind.u64.wrap (R.1.count + 1) = R.1.count + 1 := u64_in (by omega) (by omega)
    subst hMd
    refine sZ Tryz.func114 Tryz.ntmps114 ?_
    exact wx1 (qX5 (hcl) (hr) (hbe) (hx) (hp)) trivial (kX3 @hm @k2 @hct)
   ·have hct : IntKind.u64.wrap (b.count + 1) = b.count + 1 := u64_in (by omega) (by omega)
    by_cases k3 : Z.2.2.kind = 3
    ·have hD : zBm M Z.2.2 k m.count = ({ M with waiting := true }, []) := by unfold zBm; rw [if_neg k1, if_neg k2, if_pos k3]
     rw [hD]
     subst hMd
     refine sZ Tryz.func114 Tryz.ntmps114 ?_
     exact wx1 (qX4 (hcl) (hr) (hbe) (hx)) trivial (kX3 @hm @k3 @hct)
    ·by_cases k4 : Z.2.2.kind = 4
     ·have hD : zBm M Z.2.2 k m.count = ({ M with halted := true }, []) := by unfold zBm; rw [if_neg k1, if_neg k2, if_neg k3, if_pos k4]
      rw [hD]
      subst hMd
      refine sZ Tryz.func114 Tryz.ntmps114 ?_
      exact wx1 (qX4 (hcl) (hr) (hbe) (hx)) trivial (kX3 @hm @k4 @hct)
     ·have hD : zBm M Z.2.2 k m.count = (M, []) := by unfold zBm; rw [if_neg k1, if_neg k2, if_neg k3, if_neg k4]
      rw [hD]
      subst hMd
      refine sZ Tryz.func114 Tryz.ntmps114 ?_
      exact wx1 (qX4 (hcl) (hr) (hbe) (hx)) trivial (kX6 @hm @k1 @k2 @k3 @k4 @hct)
end Go.Proofs.YtjmhjieflbnehaaGreat
end
