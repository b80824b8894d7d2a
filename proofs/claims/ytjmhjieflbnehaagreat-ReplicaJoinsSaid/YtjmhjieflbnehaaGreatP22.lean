/- A part of the proof of ReplicaJoins. -/
import Derived.Test.YtjmhjieflbnehaaGreatP06
import Derived.Test.YtjmhjieflbnehaaGreatP08
import Derived.Test.YtjmhjieflbnehaaGreatP16
import Derived.Test.YtjmhjieflbnehaaGreatP21
set_option linter.unusedSimpArgs false
set_option linter.unusedVariables false
set_option maxHeartbeats 16000000
set_option maxRecDepth 100000
section
namespace Go.Proofs.YtjmhjieflbnehaaGreat
open Go.Ab Go.RowKit
abbrev L64 (n : Int) : Prop := 0 ≤ n ∧ n < 18446744073709551616
abbrev lw (n : Int) : Int := IntKind.u64.wrap n
structure OkT (e : EntD) : Prop where
 a : L64 e.at_
 n : W32 e.ev.n
def putu : Nat → Nat → Str
 | 0, n => [UInt8.ofNat n]
 | k + 1, n => if n < 128 then [UInt8.ofNat n] else UInt8.ofNat (n % 128 + 128) :: putu k (n / 128)
def putD (n : Int) : Str := putu 10 n.toNat
def zDe (e : EvD) : Bool :=
 if e.kind = 1 ∨ e.kind = 6 then e.data == []
 else if e.kind = 2 then decide (e.n = 0) && (e.data == [])
 else if e.kind = 3 then decide (e.n ≤ 255) && (e.data == [])
 else if e.kind = 4 then if e.n = 1 then (e.data == []) || decide (e.data.length = 128) else decide (e.n = 0) && (e.data == [])
 else if e.kind = 5 then decide (e.n = 0) && decide (1 ≤ e.data.length) && decide (e.data.length ≤ 128)
 else false
def zDc (e : EvD) : Str :=
 if e.kind = 1 ∨ e.kind = 3 ∨ e.kind = 6 then putD e.kind ++ putD e.n
 else if e.kind = 4 then putD e.kind ++ (putD e.n ++ (putD e.data.length ++ e.data))
 else if e.kind = 5 then putD e.kind ++ (putD e.data.length ++ e.data)
 else putD e.kind
def zI3 : Int → List EntD → Str
 | _, [] => []
 | from_, e :: r => putD (e.at_ - from_) ++ (zDc e.ev ++ zI3 e.at_ r)
def ordD : List EntD → Bool
 | a :: b :: r => !(decide (b.at_ < a.at_) || (decide (b.at_ = a.at_) && decide (a.ev.kind = 1))) && ordD (b :: r)
 | _ => true
def zCN (from_ : Int) : List EntD → Bool
 | [] => true
 | e :: _ => decide (from_ ≤ e.at_)
def zDh (l : List EntD) (from_ : Int) : Int :=
 if 400 < l.length then 1902 else if l.all (fun e => zDe e.ev) = false then 1900 else if ordD l = false ∨ zCN from_ l = false then 1901
 else if 65536 < (putD l.length ++ zI3 from_ l).length then 1902 else 0
def logD (l : List EntD) (from_ : Int) : Str × Int := if zDh l from_ = 0 then (putD l.length ++ zI3 from_ l, 0) else ([], zDh l from_)
def zCn (l : List EntD) (known : Int) : Bool := l.any fun e => decide (known < e.at_)
def zCZ (g : SegD) : Str × Int := if g.known < g.from_ ∨ zCn g.ents g.known = true then ([], 2400) else logD g.ents g.from_
def zOR (g : SegD) : Bool := decide ((zCZ g).2 = 0)
def zA9 (r : RecD) (e : EvD) : RecD := if (zAz r.m e).2 = true then { r with m := (zAz r.m e).1, log := r.log ++ [⟨r.m.count, e⟩] } else r
def zCR (r : RecD) : RecD := if dueD r.m.tim r.clock = true then zA9 r ⟨2, 0, []⟩ else r
def zMe (m : MchD) : Bool := m.halted || zHV m || decide (m.count = 1152921504606846976)
def clkR (r : RecD) : RecD := if zG2 r.m = true then { r with log := r.log ++ [⟨r.m.count, ⟨1, r.clock, []⟩⟩] } else r
def goR (r : RecD) : RecD × List OutD := ({ clkR r with m := (stepD r.m r.clock).1, clock := uw (r.clock + 1) }, (stepD r.m r.clock).2)
def runR : Nat → RecD → List OutD → RecD × List OutD
 | 0, r, o => (r, o)
 | n + 1, r, o => if zMe (zCR r).m = true then (zCR r, o) else runR n (goR (zCR r)).1 (o ++ (goR (zCR r)).2)
def limS (steps : Int) : Nat := (min (max steps 0) 4000).toNat
def zGh (r : RecD) (clock : Int) : RecD := { r.queue.foldl zA9 { r with clock := max r.clock clock } with queue := [] }
def advD (r : RecD) (steps clock : Int) : RecD × List OutD := if mayD r.m = true then runR (limS steps) (zGh r clock) [] else (r, [])
def cutD (r : RecD) : RecD := { r with log := [] }
def zSD (o : OutD) : Bool := decide (o.block = 0) && (if o.kind = 1 then decide (o.data.length = 1) else if o.kind = 2 then decide (o.data.length ≤ 128) else false)
def zGg : Int → List OutD → Bool
 | _, [] => true
 | last, o :: r => (zSD o && decide (last ≤ o.at_)) && zGg o.at_ r
def zC6 (g : GateD) : Bool := zGg g.acked g.held
def zDB (g : GateD) (o : OutD) : GateD :=
 if o.kind ≠ 1 ∧ o.kind ≠ 2 then g else if g.acked ≤ o.at_ then { g with held := g.held ++ [o] } else if o.kind = 1 then { g with bytes := lw (g.bytes + 1) } else g
def zIG (g : GateD) (l : List OutD) : GateD × Bool := if zC6 g = true ∧ zC6 (l.foldl zDB g) = true then (l.foldl zDB g, true) else (g, false)
def zCX : Int → List SegD → Bool
 | _, [] => true
 | at_, g :: r => (decide (g.from_ = at_) && zOR g) && zCX g.known r
def zGM : Int → List SegD → Int
 | at_, [] => at_
 | _, g :: r => zGM g.known r
def zDN (s : SndD) : Bool :=
 if s.base < 1 ∨ 4611686018427387904 < s.base ∨ 8 < s.queue.length then false
 else match s.queue with
  | [] => decide (s.known ≤ s.tail)
  | g :: _ => decide (s.known ≤ g.from_) && zCX g.from_ s.queue && decide (s.tail = zGM g.from_ s.queue)
def zDi (s : SndD) (g : SegD) : SndD × Int :=
 if g.from_ ≠ s.tail ∨ zDN s = false then (s, 2400)
 else if (zCZ g).2 ≠ 0 then (s, (zCZ g).2)
 else if 8 ≤ s.queue.length then (s, 2401)
 else ({ s with queue := s.queue ++ [g], tail := g.known }, 0)
def zC3 (r : RepD) : Bool := decide (r.role = 1) || decide (r.role = 3)
def zL5 (r : RepD) : Bool := zC3 r && decide (r.rec_.m.dk.state = 1)
def cmd1 (c : Int × Int) (o : OutD) : Int × Int := if o.kind = 3 ∨ o.kind = 4 then (0, o.at_) else c
def cmdL (c : Int × Int) (l : List OutD) : Int × Int := l.foldl cmd1 c
def runA (r : RepD) (a : RecD) (o : List OutD) : RepD :=
 { r with rec_ := a, gate := (zIG r.gate o).1, cmd := if zL5 { r with rec_ := a } = true then (cmdL (r.cmd, r.cmdAt) o).1 else 0, cmdAt := (cmdL (r.cmd, r.cmdAt) o).2 }
def segA (r : RepD) : SegD := ⟨r.out.tail, r.rec_.m.count, r.rec_.log⟩
def logA (r : RepD) : RepD :=
 { r with rec_ := cutD r.rec_, hist := r.hist ++ r.rec_.log, out := if r.role = 1 ∧ (r.rec_.log ≠ [] ∨ r.rec_.m.count ≠ r.out.tail) then (zDi r.out (segA r)).1 else r.out }
def zDT (r : RepD) (steps clock : Int) : RepD := logA (runA r (advD r.rec_ steps clock).1 (advD r.rec_ steps clock).2)
structure OkV (e : EvD) : Prop where
 n : W32 e.n
 d : e.data.length ≤ 100000
structure OkR (r : RecD) (k : Nat) : Prop where
 m : OkM r.m
 c : W32 r.clock
 l : r.log.length ≤ k
 q : r.queue.length ≤ 1000
 v : ∀ e ∈ r.queue, OkV e
 t : ∀ e ∈ r.log, OkT e
theorem OkR.up {r : RecD} {k k' : Nat} (h : OkR r k) (hk : k ≤ k') : OkR r k' := ⟨h.m, h.c, Nat.le_trans h.l hk, h.q, h.v, h.t⟩
theorem zM3 {l : List EntD} {e : EntD} (h : ∀ x ∈ l, OkT x) (he : OkT e) : ∀ x ∈ l ++ [e], OkT x := by
 intro x hx
 rcases List.mem_append.1 hx with q | q
 ·exact h x q
 ·rw [List.mem_singleton.1 q]; exact he
theorem zMn {m : MchD} (h : OkM m) : L64 m.count := ⟨h.ct.1, by have := h.ct.2; omega⟩
theorem OkR.offer {r : RecD} {k : Nat} (h : OkR r k) {e : EvD} (he : OkV e) : OkR (zA9 r e) (k + 1) ∧ (zA9 r e).clock = r.clock ∧ (zA9 r e).queue = r.queue ∧ (zA9 r e).m.count = r.m.count := by
 obtain ⟨a1, a2⟩ := zNu h.m he.n
 unfold zA9
 split
 ·exact ⟨⟨a1, h.c, by simp; exact h.l, h.q, h.v, zM3 h.t ⟨zMn h.m, he.n⟩⟩, rfl, rfl, a2⟩
 ·exact ⟨h.up (by omega), rfl, rfl, rfl⟩
theorem timV : OkV ⟨2, 0, []⟩ := ⟨zBA, by simp⟩
theorem OkR.tick {r : RecD} {k : Nat} (h : OkR r k) : OkR (zCR r) (k + 1) ∧ (zCR r).clock = r.clock ∧ (zCR r).queue = r.queue ∧ (zCR r).m.count = r.m.count := by
 unfold zCR
 split
 ·exact h.offer timV
 ·exact ⟨h.up (by omega), rfl, rfl, rfl⟩
theorem OkR.clk {r : RecD} {k : Nat} (h : OkR r k) : OkR (clkR r) (k + 1) ∧ (clkR r).clock = r.clock ∧ (clkR r).queue = r.queue ∧ (clkR r).m = r.m := by
 unfold clkR
 split
 ·exact ⟨⟨h.m, h.c, by simp; exact h.l, h.q, h.v, zM3 h.t ⟨zMn h.m, h.c⟩⟩, rfl, rfl, rfl⟩
 ·exact ⟨h.up (by omega), rfl, rfl, rfl⟩
theorem OkR.go {r : RecD} {k : Nat} (h : OkR r k) : OkR (goR r).1 (k + 1) := by
 obtain ⟨a, -, -, -⟩ := h.clk
 exact ⟨step_m h.m h.c, uw_w _, a.l, a.q, a.v, a.t⟩
theorem OkR.run : ∀ (n : Nat) {r : RecD} {k : Nat} (o : List OutD), OkR r k → OkR (runR n r o).1 (k + 2 * n)
 | 0, r, k, o, h => h
 | n + 1, r, k, o, h => by
  obtain ⟨h1, -⟩ := h.tick
  unfold runR
  split
  ·exact h1.up (by omega)
  ·exact (OkR.run n _ h1.go).up (by omega)
theorem OkR.offers : ∀ (l : List EvD) {r : RecD} {k : Nat}, OkR r k → (∀ e ∈ l, OkV e) → OkR (l.foldl zA9 r) (k + l.length) ∧ (l.foldl zA9 r).clock = r.clock
 | [], r, k, h, _ => ⟨h, rfl⟩
 | e :: l, r, k, h, hl => by
  obtain ⟨h1, h2, -, -⟩ := h.offer (hl e (List.mem_cons_self ..))
  obtain ⟨h3, h4⟩ := OkR.offers l h1 (fun x hx => hl x (List.mem_cons_of_mem _ hx))
  exact ⟨h3.up (by simp; omega), h4.trans h2⟩
theorem max_w {a b : Int} (ha : W32 a) (hb : W32 b) : W32 (max a b) := ⟨by have := ha.1; omega, by have := ha.2; have := hb.2; omega⟩
theorem OkR.queue {r : RecD} {k : Nat} (h : OkR r k) {clock : Int} (hc : W32 clock) : OkR (zGh r clock) (k + r.queue.length) := by
 have h0 : OkR { r with clock := max r.clock clock } k := ⟨h.m, max_w h.c hc, h.l, h.q, h.v, h.t⟩
 obtain ⟨a, -⟩ := OkR.offers r.queue h0 h.v
 exact ⟨a.m, a.c, a.l, by simp [zGh], by simp [zGh], a.t⟩
theorem zOe (n : Int) : limS n ≤ 4000 := by unfold limS; omega
theorem OkR.adv {r : RecD} {k : Nat} (h : OkR r k) (steps : Int) {clock : Int} (hc : W32 clock) : OkR (advD r steps clock).1 (k + r.queue.length + 2 * limS steps) := by
 unfold advD
 split
 ·exact OkR.run _ _ (h.queue hc)
 ·exact h.up (by omega)
theorem zIv (m : MchD) (k : Int) : (stepD m k).2.length ≤ 1 := by
 have hi : ∀ (d : DskD) (l : List Int) (c t : Int), (zBo d l c t).2.length ≤ 1 := fun d l c t => by unfold zBo; (repeat' split) <;> simp
 have hd : ∀ (d : DskD) (l : List Int) (p v t : Int), (zBg d l p v t).2.length ≤ 1 := fun d l p v t => by
  unfold zBg
  (repeat' split) <;> first | exact hi _ _ _ _ | simp
 have hn : ∀ (n : NicD) (l : List Int) (p v t : Int), (zAd n l p v t).2.length ≤ 1 := fun n l p v t => by
  unfold zAd
  (repeat' split) <;> first | simp | (simp only []; split <;> simp)
 have hw : ∀ (m : MchD) (p v t : Int), (zAO m p v t).2.length ≤ 1 := fun m p v t => by
  unfold zAO
  (repeat' split) <;> first | exact hd _ _ _ _ _ | exact hn _ _ _ _ _ | simp
 unfold stepD
 split
 ·show (zBm _ _ _ _).2.length ≤ 1
  unfold zBm
  (repeat' split) <;> first | exact hw _ _ _ _ | simp
 ·simp
theorem zLW : ∀ (n : Nat) (r : RecD) (o : List OutD), (runR n r o).2.length ≤ o.length + n
 | 0, r, o => by simp [runR]
 | n + 1, r, o => by
  unfold runR
  split
  ·show o.length ≤ _; omega
  ·refine Nat.le_trans (zLW n _ _) ?_
   have := zIv (zCR r).m (zCR r).clock
   simp [goR]; omega
theorem zLC (r : RecD) (steps clock : Int) : (advD r steps clock).2.length ≤ limS steps := by
 unfold advD
 split
 ·exact Nat.le_trans (zLW _ _ _) (by simp)
 ·simp
structure MayC (c : CpuD) : Prop where
 x : c.x 0 = 0
 s : c.csr 0 ≤ 31
 e : c.csr 7 ≤ 31
 r : c.csr 6 ≤ 255
 v : c.csr 1 % 4 = 0
structure MayM (m : MchD) : Prop where
 p : pagesD m.mem ≠ 0
 c : MayC m.cpu
 n : m.count ≤ 1152921504606846976
 h : ¬ (m.waiting = true ∧ m.halted = true)
 k : m.keys.length ≤ 16
 t : timMay m.tim = true
 d : dskMay m.dk (pagesD m.mem) = true
 i : nicMay m.nc (pagesD m.mem) = true
 b : balMay m.given (pagesD m.mem) = true
theorem zNB (m : MchD) : mayD m = true ↔ MayM m := by
 constructor
 ·intro h
  unfold mayD at h
  simp only [Bool.and_eq_true, Bool.not_eq_true', Bool.and_eq_false_iff, decide_eq_true_eq, bne_iff_ne, beq_iff_eq, ne_eq] at h
  obtain ⟨⟨⟨⟨⟨⟨⟨⟨h1, h2⟩, h3⟩, h4⟩, h5⟩, h6⟩, h7⟩, h8⟩, ⟨⟨⟨h9, h10⟩, h11⟩, h12⟩, h13⟩ := h
  exact ⟨h1, ⟨h2, h3, h4, h5, h6⟩, h7, by rcases h8 with h8 | h8 <;> simp [h8], by omega, h10, h11, h12, h13⟩
 ·rintro ⟨h1, ⟨h2, h3, h4, h5, h6⟩, h7, h8, h9, h10, h11, h12, h13⟩
  unfold mayD
  simp only [Bool.and_eq_true, Bool.not_eq_true', Bool.and_eq_false_iff, decide_eq_true_eq, bne_iff_ne, beq_iff_eq, ne_eq]
  refine ⟨⟨⟨⟨⟨⟨⟨⟨h1, h2⟩, h3⟩, h4⟩, h5⟩, h6⟩, h7⟩, ?_⟩, ⟨⟨⟨by omega, h10⟩, h11⟩, h12⟩, h13⟩
  cases hw : m.waiting <;> cases hh : m.halted <;> simp_all
theorem MayC.setR {c : CpuD} (h : MayC c) {r v : Int} (hr : 0 ≤ r) : MayC (c.setR r v) := by
 unfold CpuD.setR
 split
 ·exact h
 ·rename_i q
  refine ⟨?_, h.s, h.e, h.r, h.v⟩
  simp only [CpuD.setX]
  rw [if_neg (by simp; omega)]; exact h.x
theorem MayC.setP {c : CpuD} (h : MayC c) (p : Int) : MayC (c.setP p) := ⟨h.x, h.s, h.e, h.r, h.v⟩
theorem MayC.trap {c : CpuD} (h : MayC c) (k b : Int) : MayC (zA8 c k b) := ⟨h.x, by simp [zA8]; exact (zM9 _).2, by simp [zA8]; exact h.e, by simp [zA8]; exact h.r, by simp [zA8]; exact h.v⟩
theorem MayC.ret {c : CpuD} (h : MayC c) : MayC (retD c) := ⟨h.x, by simp [retD]; exact (zRu _).2, by simp [retD]; exact h.e, by simp [retD]; exact h.r, by simp [retD]; exact h.v⟩
theorem and31 (v : Int) : iand .u32 v 31 ≤ 31 := by rw [show iand .u32 v 31 = v % 32 from zBD v 5 32 (by omega) (by decide)]; omega
theorem andn3 {v : Int} (h : W32 v) : zAQ .u32 v 3 % 4 = 0 := by
 obtain ⟨n, rfl⟩ := Int.eq_ofNat_of_zero_le h.1
 have hn : n < 4294967296 := by have := h.2; omega
 have hb : ∀ m : Nat, BitVec.ofInt 32 (m : Int) = BitVec.ofNat 32 m := fun m => by simp
 have e : (BitVec.ofNat 32 n &&& ~~~ BitVec.ofNat 32 3).toNat % 4 = 0 := by
  apply Nat.eq_of_testBit_eq
  intro i
  rw [show (4 : Nat) = 2 ^ 2 from rfl, Nat.testBit_mod_two_pow, ← BitVec.getLsbD, BitVec.getLsbD_and, BitVec.getLsbD_not]
  by_cases hi : i < 2
  ·have : i = 0 ∨ i = 1 := by omega
   rcases this with rfl | rfl <;> simp
  ·simp [hi]
 unfold zAQ
 rw [show IntKind.u32.bits = 32 from rfl, hb n, show BitVec.ofInt 32 3 = BitVec.ofNat 32 3 from rfl, zCE (by have := (BitVec.isLt (BitVec.ofNat 32 n &&& ~~~BitVec.ofNat 32 3)); omega)]
 omega
theorem MayC.write {c : CpuD} (h : MayC c) (k : Int) {v : Int} (hv : W32 v) : MayC (zBC c k v) := by
 have h31 := and31 v
 have h3 := andn3 hv
 have h255 : iand .u32 v 255 ≤ 255 := by rw [zBr]; omega
 unfold zBC
 split
 ·rename_i q
  refine ⟨h.x, ?_, ?_, ?_, ?_⟩ <;> simp only [CpuD.setS] <;> split <;> first | assumption | exact h.s | exact h.e | exact h.r | exact h.v | (exfalso; omega)
 ·split
  ·rename_i q
   refine ⟨h.x, ?_, ?_, ?_, ?_⟩ <;> simp only [CpuD.setS] <;> split <;> first | assumption | exact h.s | exact h.e | exact h.r | exact h.v | (exfalso; omega)
  ·split
   ·rename_i q
    refine ⟨h.x, ?_, ?_, ?_, ?_⟩ <;> simp only [CpuD.setS] <;> split <;> first | assumption | exact h.s | exact h.e | exact h.r | exact h.v | (exfalso; omega)
   ·split
    ·rename_i q
     refine ⟨h.x, ?_, ?_, ?_, ?_⟩ <;> simp only [CpuD.setS] <;> split <;> first | exact h.s | exact h.e | exact h.r | exact h.v | (exfalso; omega)
    ·exact h
theorem MayC.execute {c : CpuD} (h : MayC c) (hc : OkC c) (i : InstD) (hi : OkI i) : MayC (zAH c i).1 := by
 have ha := hi.a0
 unfold zAH
 exact zAx (P := fun z : CpuD × EffD => MayC z.1) (fun _ => (h.setR ha).setP _) (fun _ => zAx (P := fun z : CpuD × EffD => MayC z.1) (fun _ => h.setP _) (fun _ => zAx (P := fun z : CpuD × EffD => MayC z.1) (fun _ => (h.setR ha).setP _) (fun _ => zAx (P := fun z : CpuD × EffD => MayC z.1) (fun _ => (h.setR ha).setP _) (fun _ => zAx (P := fun z : CpuD × EffD => MayC z.1) (fun _ => h.trap _ _) (fun _ => zAx (P := fun z : CpuD × EffD => MayC z.1) (fun _ => h.ret) (fun _ => zAx (P := fun z : CpuD × EffD => MayC z.1) (fun _ => (h.setR ha).setP _) (fun _ => zAx (P := fun z : CpuD × EffD => MayC z.1) (fun _ => (h.write _ (hc.x _)).setP _) (fun _ => zAx (P := fun z : CpuD × EffD => MayC z.1) (fun _ => h.setP _) (fun _ => zAx (P := fun z : CpuD × EffD => MayC z.1) (fun _ => h.setP _) (fun _ => zAx (P := fun z : CpuD × EffD => MayC z.1) (fun _ => h.setP _) (fun _ => zAx (P := fun z : CpuD × EffD => MayC z.1) (fun _ => h.setP _) (fun _ => zAx (P := fun z : CpuD × EffD => MayC z.1) (fun _ => h.setP _) (fun _ => (h.setR ha).setP _)))))))))))))
theorem MayC.load {c : CpuD} (h : MayC c) (l : List Int) (i : InstD) (hi : OkI i) : MayC (zAy c l i).1 := by
 unfold zAy
 generalize zAG c l (uw (c.x i.b.toNat + uw i.imm)) (zAY i.op) 2 = R
 obtain ⟨a, m, k⟩ := R
 simp only
 split
 ·exact h.trap _ _
 ·exact (h.setR hi.a0).setP _
theorem MayC.store {c : CpuD} (h : MayC c) (l : List Int) (i : InstD) : MayC (zAS c l i).1 := by
 unfold zAS
 generalize zAG c l (uw (c.x i.b.toNat + uw i.imm)) (zAY i.op) 3 = R
 obtain ⟨a, m, k⟩ := R
 simp only
 split
 ·exact h.trap _ _
 ·exact h.setP _
theorem MayC.exec {c : CpuD} (h : MayC c) (hc : OkC c) (l : List Int) : MayC (zAs c l).1 := by
 unfold zAs
 generalize zAG c l c.pc 4 1 = R
 obtain ⟨a, m, k⟩ := R
 simp only
 split
 ·exact h.trap _ _
 ·unfold zBa
  split
  ·exact h.trap _ _
  ·rename_i hv
   have hi := zA6 (by simpa using hv)
   split
   ·exact h.trap _ _
   ·split
    ·exact h.load _ _ hi
    ·split
     ·exact h.store _ _
     ·exact h.execute hc _ hi
theorem zOK {m : MchD} (h : MayM m) (hh : m.halted = false) : MayM (zAM m) ∧ (zAM m).waiting = false ∧ (zAM m).halted = false := by
 have hw : ∀ c, MayC c → MayM { m with waiting := false, cpu := c } := fun c hc => ⟨h.p, hc, h.n, by simp, h.k, h.t, h.d, h.i, h.b⟩
 unfold zAM
 split
 ·exact ⟨hw _ h.c, rfl, hh⟩
 ·split
  ·exact ⟨hw _ h.c, rfl, hh⟩
  ·exact ⟨hw _ (h.c.trap _ _), rfl, hh⟩
theorem zQV {c : CpuD} {l : List Int} (hc : OkC c) (hl : OkW l) : (zAs c l).2.1.length = l.length := (zRr hc hl).2.2.1
theorem zOt {m : MchD} (hM : OkM m) (h : MayM m) (hh : m.halted = false) : MayM (zCK m) ∧ (zCK m).waiting = false ∧ (zCK m).halted = false := by
 obtain ⟨hb, h1, h2⟩ := zOK h hh
 have ho := zIp hM
 have hlen : pagesD (zAs (zAM m).cpu m.mem).2.1 = pagesD (zAM m).mem := by
  rw [zCq (zQV ho.c hM.w)]
  have : (zAM m).mem = m.mem := zJ0 m
  rw [this]
 refine ⟨⟨by show pagesD (zAs _ _).2.1 ≠ 0; rw [hlen]; exact hb.p, hb.c.exec ho.c _, hb.n, hb.h, hb.k, hb.t, ?_, ?_, ?_⟩, h1, h2⟩
 ·show dskMay _ (pagesD (zAs _ _).2.1) = true; rw [hlen]; exact hb.d
 ·show nicMay _ (pagesD (zAs _ _).2.1) = true; rw [hlen]; exact hb.i
 ·show balMay _ (pagesD (zAs _ _).2.1) = true; rw [hlen]; exact hb.b
theorem zRc : ∀ (p x : Nat), x < 2 ^ 64 → (Lib.bitLen x ≤ p ↔ x < 2 ^ p)
 | 0, x, hx => by
  by_cases h : x = 0
  ·subst h; decide
  ·have := Lib.bitLen_half x h hx
   rw [this]; simp; omega
 | p + 1, x, hx => by
  by_cases h : x = 0
  ·subst h; exact ⟨fun _ => Nat.two_pow_pos _, fun _ => by rw [show Lib.bitLen 0 = 0 by decide]; omega⟩
  ·have e := Lib.bitLen_half x h hx
   have ih := zRc p (x / 2) (by omega)
   rw [e, Nat.pow_succ]
   omega
theorem bitLen_le (x : Int) (p : Nat) (h : W32 x) : bitLen x ≤ p ↔ x < 2 ^ p := by
 unfold bitLen
 have h0 := h.1
 have e : x < 2 ^ p ↔ x.toNat < 2 ^ p := by
  rw [show (2 : Int) ^ p = ((2 ^ p : Nat) : Int) by push_cast; rfl]; omega
 rw [e]
 exact zRc p x.toNat (by have := h.2; omega)
theorem zCG (g p : Int) (hg : W32 g) (hp : 0 ≤ p) : balMay g p = true ↔ g < 2 ^ p.toNat := by
 unfold balMay
 rw [decide_eq_true_eq, ← bitLen_le g p.toNat hg]
 omega
theorem ior_lt {a b : Int} (ha : W32 a) (hb : W32 b) {p : Nat} (h1 : a < 2 ^ p) (h2 : b < 2 ^ p) : ior .u32 a b < 2 ^ p := by
 obtain ⟨n, rfl⟩ := Int.eq_ofNat_of_zero_le ha.1
 obtain ⟨k, rfl⟩ := Int.eq_ofNat_of_zero_le hb.1
 have q1 : n < 2 ^ p := by
  have : (n : Int) < ((2 ^ p : Nat) : Int) := by push_cast; exact h1
  omega
 have q2 : k < 2 ^ p := by
  have : (k : Int) < ((2 ^ p : Nat) : Int) := by push_cast; exact h2
  omega
 have hn : n < 4294967296 := by have := ha.2; omega
 have hk : k < 4294967296 := by have := hb.2; omega
 have hb' : ∀ m : Nat, BitVec.ofInt 32 (m : Int) = BitVec.ofNat 32 m := fun m => by simp
 unfold ior
 rw [show IntKind.u32.bits = 32 from rfl, hb' n, hb' k, BitVec.toNat_or, BitVec.toNat_ofNat, BitVec.toNat_ofNat, Nat.mod_eq_of_lt (show n < 2 ^ 32 from hn), Nat.mod_eq_of_lt (show k < 2 ^ 32 from hk), zCE (Nat.or_lt_two_pow (n := 32) hn hk)]
 have := Nat.or_lt_two_pow q1 q2
 have e : ((n ||| k : Nat) : Int) < ((2 ^ p : Nat) : Int) := by omega
 push_cast at e
 exact e
theorem zRA {a : Int} (ha : W32 a) (b : Int) : zAQ .u32 a b ≤ a := by
 obtain ⟨n, rfl⟩ := Int.eq_ofNat_of_zero_le ha.1
 have hn : n < 4294967296 := by have := ha.2; omega
 unfold zAQ
 have hb' : ∀ m : Nat, BitVec.ofInt 32 (m : Int) = BitVec.ofNat 32 m := fun m => by simp
 rw [show IntKind.u32.bits = 32 from rfl, hb' n, BitVec.toNat_and, BitVec.toNat_ofNat, Nat.mod_eq_of_lt (show n < 2 ^ 32 from hn)]
 have := Nat.and_le_left (n := n) (m := (~~~ BitVec.ofInt 32 b).toNat)
 rw [zCE (by omega)]
 omega
theorem pow_w {v : Int} (h0 : 0 ≤ v) (h1 : v < 32) : W32 (2 ^ v.toNat) := by
 have h : (2 : Nat) ^ v.toNat < 2 ^ 32 := Nat.pow_lt_pow_right (by decide) (by omega)
 have e : (2 : Int) ^ v.toNat = ((2 ^ v.toNat : Nat) : Int) := by push_cast; rfl
 rw [e]
 generalize 2 ^ v.toNat = q at h
 constructor <;> omega
theorem zLe {g : Int} {l : List Int} (hg : W32 g) (p : Int) {v : Int} (hv : W32 v) (h : balMay g (pagesD l) = true) : balMay (zA1 g l p v).1 (pagesD l) = true := by
 have hp := (zAf l).1
 rw [zCG _ _ hg hp] at h
 unfold zA1
 split
 ·rw [zCG _ _ hg hp]; exact h
 ·rename_i q
  have hw := pow_w hv.1 (by omega)
  split
  ·split
   ·rename_i z
    rw [zCG _ _ (zSG _ _) hp]
    refine ior_lt hg hw h ?_
    have : (2 : Nat) ^ v.toNat < 2 ^ (pagesD l).toNat := Nat.pow_lt_pow_right (by decide) (by have := hv.1; omega)
    rw [show (2 : Int) ^ v.toNat = ((2 ^ v.toNat : Nat) : Int) by push_cast; rfl, show (2 : Int) ^ (pagesD l).toNat = ((2 ^ (pagesD l).toNat : Nat) : Int) by push_cast; rfl]
    omega
   ·rw [zCG _ _ hg hp]; exact h
  ·split
   ·rw [zCG _ _ (zJv _ _) hp]
    exact Int.lt_of_le_of_lt (zRA hg _) h
   ·rw [zCG _ _ hg hp]; exact h
theorem zRV {a : Int} (h : W32 a) : IntKind.i64.wrap a = a := zAC (by have := h.1; omega) (by have := h.2; omega)
theorem zMt {d : DskD} {l : List Int} (hd : OkD d) (h : dskMay d (pagesD l) = true) {c : Int} (hc : c = 1 ∨ c = 2) (t : Int) : dskMay (zBo d l c t).1 (pagesD l) = true := by
 unfold zBo
 split
 ·exact h
 ·rename_i q
  have q : d.state = 0 := by simpa using q
  have hbl : ¬ d.blocks > 64 := by intro z; unfold dskMay at h; rw [if_pos z] at h; cases h
  have h2 := h
  unfold dskMay at h2
  rw [if_neg hbl, if_pos (.inl q)] at h2
  split
  ·unfold dskMay
   simp only
   rw [if_neg hbl, if_pos (by simp)]; exact h2
  ·rename_i z
   have z1 : d.block < d.blocks := by omega
   have z2 : d.frame < pagesD l := by omega
   unfold dskMay
   simp only
   rw [if_neg hbl, if_neg (by simp), if_pos (by simp), zRV hd.c]
   simp only [z1, z2, decide_true, Bool.and_true]
   rcases hc with rfl | rfl
   ·simp [zGk]
   ·simp [zGk, zGD hd.c.1 z2]
theorem zLj {d : DskD} {l : List Int} (hd : OkD d) (h : dskMay d (pagesD l) = true) (p v t : Int) : dskMay (zBg d l p v t).1 (pagesD l) = true := by
 unfold zBg
 split
 ·exact h
 ·split
  ·exact h
  ·split
   ·split
    ·exact zMt hd h (by omega) t
    ·split
     ·rename_i z
      have hbl : ¬ d.blocks > 64 := by intro y; unfold dskMay at h; rw [if_pos y] at h; cases h
      have z2 := z.2
      unfold zBj at z2
      simp only [Bool.or_eq_true, decide_eq_true_eq] at z2
      unfold dskMay at h ⊢
      rw [if_neg hbl, if_pos (by omega)] at h
      simp only
      rw [if_neg hbl, if_pos (by simp)]; exact h
     ·exact h
   ·exact h
theorem zML {n : NicD} {l : List Int} (hn : OkN n) (h : nicMay n (pagesD l) = true) (p v t : Int) : nicMay (zAd n l p v t).1 (pagesD l) = true := by
 unfold zAd
 split
 ·exact h
 ·split
  ·exact h
  ·split
   ·split
    ·exact h
    ·split
     ·show nicMay (if _ then _ else _) _ = true
      split
      ·rename_i z
       obtain ⟨z1, z2, z3⟩ := z
       have hg : n.got = 0 := by unfold nicMay at h; simp [z2, z3] at h; exact h.2
       unfold nicMay
       simp [z3, hg, zRV hn.a]
       omega
      ·exact h
     ·split
      ·unfold nicMay at h ⊢
       simp only
       by_cases hp : n.posted = true
       ·by_cases hr : n.received = true
        ·simp [hp, hr] at h
        ·have hr : n.received = false := by simpa using hr
         simp [hp, hr] at h ⊢
         exact h.1
       ·have hp : n.posted = false := by simpa using hp
        simp [hp] at h ⊢
        exact h.1
      ·exact h
   ·exact h
theorem zPM {m : MchD} {e : EffD} (hM : OkM m) (he : OkE e) (h : MayM m) (hw : m.waiting = false) (hh : m.halted = false) (k t : Int) (hr : e.kind = 1 → 0 ≤ e.reg) : MayM (zBm m e k t).1 := by
 unfold zBm
 split
 ·rename_i q
  have hR : MayM (zAp m e.port k).1 := by
   unfold zAp
   split
   ·refine ⟨h.p, h.c, h.n, h.h, ?_, h.t, h.d, h.i, h.b⟩
    have := h.k
    unfold zGa
    split
    ·simp; omega
    ·split <;> exact h.k
   ·repeat' split
    all_goals exact h
  exact ⟨hR.p, hR.c.setR (hr q), hR.n, hR.h, hR.k, hR.t, hR.d, hR.i, hR.b⟩
 ·split
  ·unfold zAO
   split
   ·exact h
   ·split
    ·refine ⟨h.p, h.c, h.n, h.h, h.k, ?_, h.d, h.i, h.b⟩
     show timMay (armD e.val) = true
     unfold timMay armD
     by_cases z : e.val = 0 <;> simp [z]
    ·split
     ·exact ⟨h.p, h.c, h.n, h.h, h.k, h.t, zLj hM.d h.d _ _ _, h.i, h.b⟩
     ·split
      ·exact ⟨h.p, h.c, h.n, h.h, h.k, h.t, h.d, zML hM.r h.i _ _ _, h.b⟩
      ·split
       ·obtain ⟨-, -, a3⟩ := zRm hM.gv hM.w e.port e.val
        have hl := zCq a3
        refine ⟨by show pagesD (zA1 _ _ _ _).2 ≠ 0; rw [hl]; exact h.p, h.c, h.n, h.h, h.k, h.t, ?_, ?_, ?_⟩
        ·show dskMay _ (pagesD (zA1 _ _ _ _).2) = true; rw [hl]; exact h.d
        ·show nicMay _ (pagesD (zA1 _ _ _ _).2) = true; rw [hl]; exact h.i
        ·show balMay _ (pagesD (zA1 _ _ _ _).2) = true; rw [hl]; exact zLe hM.gv _ he.v h.b
       ·exact h
  ·split
   ·exact ⟨h.p, h.c, h.n, by simp [hh], h.k, h.t, h.d, h.i, h.b⟩
   ·split
    ·exact ⟨h.p, h.c, h.n, by simp [hw], h.k, h.t, h.d, h.i, h.b⟩
    ·exact h
theorem go_may {m : MchD} (hM : OkM m) (hr : zE9 m = true) (k : Int) : MayM (goD m k).1 := by
 have hx := hr
 unfold zE9 at hx
 simp only [Bool.and_eq_true, Bool.not_eq_true', decide_eq_true_eq] at hx
 obtain ⟨⟨⟨h1, h2⟩, h3⟩, h4⟩ := hx
 obtain ⟨a1, a2⟩ := zFO hM
 obtain ⟨b1, b2, b3⟩ := zOt hM ((zNB m).1 h1) h2
 have hd := zPM a1 a2 b1 b2 b3 k m.count (fun q => (a2.r q).1)
 have hq := zGy (zCK m) (effD m) k m.count
 rw [zFo] at hq
 unfold goD
 refine ⟨hd.p, hd.c, ?_, hd.h, hd.k, hd.t, hd.d, hd.i, hd.b⟩
 show _ + 1 ≤ _
 rw [hq]; omega
theorem zB8 (l : List OutD) : (outs l).length = l.length := by simp [outs]
theorem zCS (l : List SegD) : (segs l).length = l.length := by simp [segs]
theorem zIx (l : List (Int × SegD)) : (zGP l).length = l.length := by simp [zGP]
theorem zCu {l : List EntD} {i : Nat} {x : EntD} (h : l[i]? = some x) : (ents l)[i]? = some x.row := by simp [ents, h]
theorem zNp {l : List EvD} {i : Nat} {x : EvD} (h : l[i]? = some x) : (evs l)[i]? = some x.row := by simp [evs, h]
theorem zFL {l : List OutD} {i : Nat} {x : OutD} (h : l[i]? = some x) : (outs l)[i]? = some x.row := by simp [outs, h]
theorem zDq {l : List SegD} {i : Nat} {x : SegD} (h : l[i]? = some x) : (segs l)[i]? = some x.row := by simp [segs, h]
theorem zM5 {l : List (Int × SegD)} {i : Nat} {x : Int × SegD} (h : l[i]? = some x) : (zGP l)[i]? = some [lv x.1, lv x.2.from_, lv x.2.known, zB6 x.2.ents] := by simp [zGP, h]
theorem zKX (a b : List EntD) : ents (a ++ b) = ents a ++ ents b := by simp [ents]
theorem zKC (a b : List OutD) : outs (a ++ b) = outs a ++ outs b := by simp [outs]
theorem zCA (a b : List SegD) : segs (a ++ b) = segs a ++ segs b := by simp [segs]
theorem zQB (a : EntD) : ents [a] = [a.row] := rfl
theorem zRG (a : OutD) : outs [a] = [a.row] := rfl
theorem zBx (a : SegD) : segs [a] = [a.row] := rfl
theorem get_at {α : Type} {l : List α} {i : Nat} (h : i < l.length) : ∃ x, l[i]? = some x ∧ l.drop i = x :: l.drop (i + 1) ∧ l.take (i + 1) = l.take i ++ [x] ∧ x ∈ l :=
 ⟨l[i], List.getElem?_eq_getElem h, List.drop_eq_getElem_cons h, (List.take_append_getElem h).symm, List.getElem_mem h⟩
theorem getE {α : Type} {L : List α} {i : Nat} {x : α} (h : L[i]? = some x) (h' : i < L.length) : L[i]'h' = x := by rw [List.getElem?_eq_getElem h'] at h; exact Option.some.inj h
theorem zCT {α : Type} {l : List α} {i : Nat} (h : l.length ≤ i) : l.drop i = [] := List.drop_eq_nil_of_le h
theorem zFE {α : Type} {l : List α} {i : Nat} (h : l.length ≤ i) : l.take i = l := List.take_of_length_le h
theorem zSa (o : OutD) : zAD Tryz.prog 176 [.st o.row] (.bool (zSD o)) := by
 refine sZ Tryz.func176 Tryz.ntmps176 ?_
 exact wx1 trivial trivial @zSD.eq_1
theorem zM2 (g : GateD) : zAD Tryz.prog 115 [.st g.row] (.bool (zC6 g)) := by
 have hl := zB8 g.held
 refine zAD.lens (by kernel_rfl) fun hlens => ?_
 simp [zMb, zLz, zE4, maxLen] at hlens
 refine sY Tryz.func115 Tryz.ntmps115 @hl ?_;(repeat intro K hK);refine wr ?_
 simp only [hl] at hlens
 obtain ⟨I, hI⟩ : ∃ I : Nat → St → Prop, I = (fun kk ss => ∃ (i : Nat) (la : Int), i ≤ g.held.length ∧ kk = g.held.length - i ∧ (zGg g.acked g.held = zGg la (g.held.drop i)) ∧ ss = ⟨27, [(11, .int .i64 i), (10, .int .i64 g.held.length), (9, .sl 4 false (outs g.held)), (3, lv la)], 1, [], 0⟩) := ⟨_, rfl⟩
 refine lX I (id) (by rw [hI]; exact ⟨0, g.acked, by simp, rfl, rfl, rfl⟩) ?_
 intro kk ss hIk _
 rw [hI] at hIk
 obtain ⟨i, la, hi, rfl, hx, rfl⟩ := hIk
 refine au1 @hl ?_;(repeat intro K hK);refine wr ?_
 refine zAA rfl (fun hh => ?_) (fun hh => ?_)
 ·simp at hh
  obtain ⟨o, ho, hd, -, -⟩ := get_at hh
  have hget := zFL ho
  rw [hd, zGg] at hx
  refine au1 @hget ?_;(repeat intro K hK);refine wr ?_
  (refine au1 (kX2 @zC6.eq_1 @hx) ?_; (repeat intro K hK); refine wr ?_)
  repeat' ((first | (refine zAA rfl (fun h => ?_) (fun h => ?_) <;> (first | (simp [zC6, hx] at h; done) | (simp [zC6, hx] at h) | skip) <;> (first | (exfalso; omega) | skip)) | refine cc1 (zSa o) (kX2 @zC6.eq_1 @hx) ?_ | exact rt1 (kX2 @zC6.eq_1 @hx) | fail) <;> (refine au1 (kX2 @zC6.eq_1 @hx) ?_; (repeat intro K hK); refine wr ?_))
  exact aX (id) (by rw [hI]; exact ⟨i + 1, o.at_, by omega, rfl, (by simpa [h] using hx), rfl⟩) (zAC (n := (i : Int) + 1) (by omega) (by omega))
 ·simp at hh
  rw [zCT hh, zGg] at hx
  refine au ?_;(repeat intro K hK);refine wr ?_
  refine zAB ?_
  simp [zC6, hx]
theorem zTj (g : GateD) (l : List OutD) (h1 : g.held.length ≤ 50000) (h2 : l.length ≤ 10000) : zAD Tryz.prog 71 [.st g.row, .sl 4 false (outs l)] (.tup [.st (zIG g l).1.row, .bool (zIG g l).2]) := by
 have hl := zB8 g.held
 have hl2 := zB8 l
 have hc := zGs (outs g.held) false 4 (.inl rfl) (by omega)
 have hv := zM2 g
 cases hg : zC6 g with
 | false =>
  rw [hg] at hv
  refine sY Tryz.func71 Tryz.ntmps71 @hl ?_;(repeat intro K hK);refine wr ?_
  exact wx1 (qX2 (hc) (hv)) trivial (kX2 @zIG.eq_1 @hg)
 | true =>
  rw [hg] at hv
  refine sY Tryz.func71 Tryz.ntmps71 @hl ?_;(repeat intro K hK);refine wr ?_
  refine cX (hc) ?_;(repeat intro K hK);refine wr ?_
  refine cX (hv) ?_;(repeat intro K hK);refine wr ?_
  refine gF00 rfl ?_;(repeat intro K hK);refine wr ?_
  refine cY (hc) @hl2 ?_;(repeat intro K hK);refine wr ?_
  obtain ⟨I, hI⟩ : ∃ I : Nat → St → Prop, I = (fun kk ss => ∃ (i : Nat) (x : GateD), i ≤ l.length ∧ kk = l.length - i ∧ (x = (l.take i).foldl zDB g ∧ x.acked = g.acked ∧ x.held.length ≤ 50000 + i) ∧ ss = ⟨62, [(26, .int .i64 i), (25, .int .i64 l.length), (24, .sl 4 false (outs l)), (2, .ptr 0 3 0 0), (7, .ptr 5 3 0 0), (6, .ptr 2 3 0 0), (4, .ptr 1 3 0 0)], 7, [(0, some ⟨51, 3, true, false, [g.row]⟩), (1, some ⟨51, 3, true, false, [[.sl 0 true [], lv 0, lv 0]]⟩), (2, some ⟨51, 3, true, false, [[.own 3, lv g.acked, lv g.bytes]]⟩), (3, some ⟨81, 4, false, false, outs g.held⟩), (5, some ⟨51, 3, true, false, [[.own 6, lv x.acked, lv x.bytes]]⟩), (6, some ⟨81, 4, false, false, outs x.held⟩)], 0⟩) := ⟨_, rfl⟩
  refine lX I (id) (by rw [hI]; exact ⟨0, g, by simp, rfl, ⟨rfl, rfl, by omega⟩, rfl⟩) ?_
  intro kk ss hIk _
  rw [hI] at hIk
  obtain ⟨i, x, hi, rfl, hx, rfl⟩ := hIk
  obtain ⟨hx1, hx2, hx3⟩ := hx
  refine au1 @hl2 ?_;(repeat intro K hK);refine wr ?_
  refine zAA rfl (fun hh => ?_) (fun hh => ?_)
  ·simp at hh
   obtain ⟨o, ho, -, ht, -⟩ := get_at hh
   have hget := zFL ho
   have hnx : (l.take (i + 1)).foldl zDB g = zDB x o := by rw [ht, List.foldl_append, ← hx1]; rfl
   have hlx := zB8 x.held
   refine au1 @hget ?_;(repeat intro K hK);refine wr ?_
   by_cases hk : o.kind ≠ 1 ∧ o.kind ≠ 2
   ·have hE : zDB x o = x := by unfold zDB; rw [if_pos hk]
    rw [hE] at hnx
    obtain ⟨k1, k2⟩ := hk
    (refine au1 (kX2 @k1 @k2) ?_; (repeat intro K hK); refine wr ?_)
    repeat' ((first | (refine zAA rfl (fun h => ?_) (fun h => ?_) <;> (first | (simp [k1, k2] at h; done) | (simp [k1, k2] at h) | skip) <;> (first | (exfalso; omega) | skip)) | exact rt1 (kX2 @k1 @k2) | fail) <;> (refine au1 (kX2 @k1 @k2) ?_; (repeat intro K hK); refine wr ?_))
    exact aX (id) (by rw [hI]; exact ⟨i + 1, x, by omega, rfl, ⟨hnx.symm, hx2, by omega⟩, rfl⟩) (zAC (n := (i : Int) + 1) (by omega) (by omega))
   ·by_cases ha : g.acked ≤ o.at_
    ·have hE : zDB x o = { x with held := x.held ++ [o] } := by unfold zDB; rw [if_neg hk, hx2, if_pos ha]
     rw [hE] at hnx
     (refine au1 (kX3 @ha @hlx @maxLen.eq_1) ?_; (repeat intro K hK); refine wr ?_)
     repeat' ((first | (refine zAA rfl (fun h => ?_) (fun h => ?_) <;> (first | (simp [ha, hlx, maxLen] at h; done) | (simp [ha, hlx, maxLen] at h) | skip) <;> (first | (exfalso; omega) | skip)) | exact rt1 (kX3 @ha @hlx @maxLen.eq_1) | fail) <;> (refine au1 (kX3 @ha @hlx @maxLen.eq_1) ?_; (repeat intro K hK); refine wr ?_))
     exact aX (fun x => if x = 6 then 9 else x) (by rw [hI]; exact ⟨i + 1, ({ x with held := x.held ++ [o] }), by omega, rfl, ⟨hnx.symm, hx2, by simp; omega⟩, rfl⟩) (kX3 (zAC (n := (i : Int) + 1) (by omega) (by omega)) @zKC @zRG)
    ·by_cases hb : o.kind = 1
     ·have hE : zDB x o = { x with bytes := lw (x.bytes + 1) } := by unfold zDB; rw [if_neg hk, hx2, if_neg ha, if_pos hb]
      rw [hE] at hnx
      (refine au1 (kX2 @ha @hb) ?_; (repeat intro K hK); refine wr ?_)
      repeat' ((first | (refine zAA rfl (fun h => ?_) (fun h => ?_) <;> (first | (simp [ha, hb] at h; done) | (simp [ha, hb] at h) | skip) <;> (first | (exfalso; omega) | skip)) | exact rt1 (kX2 @ha @hb) | fail) <;> (refine au1 (kX2 @ha @hb) ?_; (repeat intro K hK); refine wr ?_))
      exact aX (id) (by rw [hI]; exact ⟨i + 1, ({ x with bytes := lw (x.bytes + 1) }), by omega, rfl, ⟨hnx.symm, hx2, by simp; omega⟩, rfl⟩) (zAC (n := (i : Int) + 1) (by omega) (by omega))
     ·have hE : zDB x o = x := by unfold zDB; rw [if_neg hk, hx2, if_neg ha, if_neg hb]
      rw [hE] at hnx
      have hk2 : o.kind = 2 := by omega
      (refine au1 (kX2 @ha @hk2) ?_; (repeat intro K hK); refine wr ?_)
      repeat' ((first | (refine zAA rfl (fun h => ?_) (fun h => ?_) <;> (first | (simp [ha, hk2] at h; done) | (simp [ha, hk2] at h) | skip) <;> (first | (exfalso; omega) | skip)) | exact rt1 (kX2 @ha @hk2) | fail) <;> (refine au1 (kX2 @ha @hk2) ?_; (repeat intro K hK); refine wr ?_))
      exact aX (id) (by rw [hI]; exact ⟨i + 1, x, by omega, rfl, ⟨hnx.symm, hx2, by omega⟩, rfl⟩) (zAC (n := (i : Int) + 1) (by omega) (by omega))
  ·simp at hh
   rw [zFE hh] at hx1
   have hv2 := zM2 x
   refine au ?_;(repeat intro K hK);refine wr ?_
   exact wx1 (qX1 (hv2)) trivial (kX2 @zIG.eq_1 @hg)
def rels (l : List (OutD × Int)) : List (List V) := l.map fun p => [iv p.1.kind, lv p.1.at_, uv p.1.block, .str p.1.data, lv p.2]
@[simp] theorem nil_rels : rels [] = [] := rfl
theorem or128f : ∀ k : Fin 256, ior .u8 (k.val : Int) 128 = (k.val : Int) % 128 + 128 := by decide +kernel
theorem or128 (x : Int) : ior .u8 (IntKind.u8.wrap x) 128 = x % 128 + 128 := by
 have e : IntKind.u8.wrap x = x % 256 := by rw [IntKind.wrap_u8]
 have h := or128f ⟨(x % 256).toNat, by omega⟩
 simp only at h
 rw [show (((x % 256).toNat : Nat) : Int) = x % 256 by omega] at h
 rw [e, h]; omega
theorem zJC {k : Nat} (h : k < 256) : ((UInt8.ofNat k).toNat : Int) = k := by rw [UInt8.toNat_ofNat']; omega
theorem zEq (a : Str) (b : UInt8) : zAR a ++ [[V.int .u8 (b.toNat : Int)]] = zAR (a ++ [b]) := by simp [zAR]
theorem zLl {k n : Nat} (h : n < 128) : putu k n = [UInt8.ofNat n] := by cases k <;> simp [putu, h]
theorem zKs : ∀ k n : Nat, (putu k n).length ≤ k + 1
 | 0, n => by simp [putu]
 | k + 1, n => by unfold putu; split <;> simp; exact zKs k _
theorem zBh (n : Int) : (putD n).length ≤ 11 := zKs _ _
theorem fd128 (x : Int) : x.fdiv 128 = x / 128 := Int.fdiv_eq_ediv_of_nonneg _ (by decide)
theorem fdsh7 (x : Int) : x.fdiv (2 ^ min 7 IntKind.u64.bits) = x / 128 := fd128 x
theorem zIs (n : Int) (h : L64 n) : zAD Tryz.prog 101 [lv n] (.str (putD n)) := by
 refine sX Tryz.func101 Tryz.ntmps101 ?_;intros;refine wr ?_
 refine zAc 3 5 1 (by decide) rfl ?_
 obtain ⟨I, hI⟩ : ∃ I : Nat → St → Prop, I = (fun kk ss => ∃ (i : Nat) (x : Int) (out : Str), i ≤ 10 ∧ kk = 10 - i ∧ (out ++ putu (10 - i) x.toNat = putD n ∧ 0 ≤ x ∧ x.toNat < 2 ^ (70 - 7 * i) ∧ out.length ≤ i) ∧ ss = ⟨20, [(0, lv x), (3, .own 0)], 1, [(0, some ⟨5, 1, false, false, zAR out⟩)], 0⟩) := ⟨_, rfl⟩
 refine lX I (id) (by rw [hI]; exact ⟨0, n, [], by simp, rfl, ⟨rfl, h.1, by have := h.2; simp; omega, by simp⟩, rfl⟩) ?_
 intro kk ss hIk _
 rw [hI] at hIk
 obtain ⟨i, x, out, hi, rfl, hx, rfl⟩ := hIk
 obtain ⟨hx1, hx2, hx3, hx4⟩ := hx
 refine au ?_;intros;refine wr ?_
 have hbl : (zAR out).length = out.length := by simp [zAR]
 have hi10 : out.length ≤ 10 := by omega
 refine zAA rfl (fun hh => ?_) (fun hh => ?_)
 ·simp at hh
  have hlt : i < 10 := by
   rcases Nat.lt_or_ge i 10 with q | q
   ·exact q
   ·rw [show 70 - 7 * i = 0 by omega] at hx3; omega
  have hst : putu (10 - i) x.toNat = UInt8.ofNat (x.toNat % 128 + 128) :: putu (10 - (i + 1)) (x.toNat / 128) := by
   rw [show 10 - i = (10 - (i + 1)) + 1 by omega, putu, if_neg (by omega)]
  rw [hst] at hx1
  have hb : x % 128 + 128 = ((UInt8.ofNat (x.toNat % 128 + 128)).toNat : Int) := by rw [zJC (by omega)]; omega
  have hpow : x.toNat / 128 < 2 ^ (70 - 7 * (i + 1)) := by
   rw [Nat.div_lt_iff_lt_mul (by decide), show (128 : Nat) = 2 ^ 7 from rfl, ← Nat.pow_add, show 70 - 7 * (i + 1) + 7 = 70 - 7 * i by omega]; exact hx3
  have hdv : (x / 128).toNat = x.toNat / 128 := by omega
  generalize UInt8.ofNat (x.toNat % 128 + 128) = b at *
  refine au1 (kX6 @or128 @hb @hbl @fd128 @maxLen.eq_1 @zEq) ?_;intros;refine wr ?_
  exact aX (fun x => if x = 0 then 2 else x) (by rw [hI]; exact ⟨i + 1, (x / 128), (out ++ [b]), by omega, rfl, ⟨by rw [hdv]; simpa using hx1, by omega, by rw [hdv]; exact hpow, by simp; omega⟩, rfl⟩) (kX3 (zAC (n := (i : Int) + 1) (by omega) (by omega)) @zEq @fdsh7)
 ·simp at hh
  rw [zLl (by omega)] at hx1
  have hb : IntKind.u8.wrap x = ((UInt8.ofNat x.toNat).toNat : Int) := by rw [zJC (by omega), IntKind.wrap_u8]; omega
  generalize UInt8.ofNat x.toNat = b at *
  have hB := zEj (putD n)
  have hS := zEo (putD n)
  refine au1 (kX7 @hb @hbl @maxLen.eq_1 @zEq @hx1 @hB @hS) ?_;intros;refine wr ?_
  refine zAB ?_
  simp [hx1, hB, hS]
theorem zKv (e : EvD) : zAD Tryz.prog 68 [.st e.row] (.bool (zDe e)) := by
 refine sZ Tryz.func68 Tryz.ntmps68 ?_
 exact wx1 trivial trivial @zDe.eq_1
theorem zRM (e : EvD) (hk : L64 e.kind) (hn : W32 e.n) (hd : e.data.length ≤ 1000000) : zAD Tryz.prog 248 [.st e.row] (.str (zDc e)) := by
 have w1 : IntKind.u64.wrap e.kind = e.kind := u64_in hk.1 hk.2
 have w2 : IntKind.u64.wrap e.n = e.n := u64_in hn.1 (by have := hn.2; omega)
 have w3 : IntKind.u64.wrap (e.data.length : Int) = e.data.length := u64_in (by omega) (by omega)
 have p1 := zBh e.kind
 have p2 := zBh e.n
 have p3 := zBh (e.data.length : Int)
 refine sZ Tryz.func248 Tryz.ntmps248 ?_
 (refine af1 (kX4 @w1 @w2 @w3 @zDc.eq_1) ?_; (repeat intro K hK); refine wr ?_)
 repeat' ((first | (refine zAA rfl (fun h => ?_) (fun h => ?_) <;> (first | (simp [w1, w2, w3, zDc] at h; done) | (simp [w1, w2, w3, zDc] at h) | skip) <;> (first | (exfalso; omega) | skip)) | refine cc1 (zIs e.kind hk) (kX4 @w1 @w2 @w3 @zDc.eq_1) ?_ | refine cc1 (zIs e.n ⟨hn.1, by have := hn.2; omega⟩) (kX4 @w1 @w2 @w3 @zDc.eq_1) ?_ | refine cc1 (zIs e.data.length ⟨by omega, by omega⟩) (kX4 @w1 @w2 @w3 @zDc.eq_1) ?_ | (refine zAE ([0, 1, 2, 3, 4, 5, 6, 7, 8] : List Nat) ([[], [0], [0, 1], [0, 1, 2], [0, 1, 2, 3], [], [5], [0, 1, 2, 3, 4, 5, 6], [0, 1, 2, 3, 4, 5, 6, 7]] : List (List Nat)) ([(7, ([[], [0], [0, 1], [0, 1, 2], [0, 1, 2, 3], [], [5]], [(6, 4)])), (1, ([], [])), (1, ([], []))] : List (Nat × List (List Nat) × List (Nat × Nat))) (by kernel_rfl) (by kernel_rfl) (by kernel_rfl) ?_) | exact rt1 (kX4 @w1 @w2 @w3 @zDc.eq_1) | fail) <;> (refine af1 (kX4 @w1 @w2 @w3 @zDc.eq_1) ?_; (repeat intro K hK); refine wr ?_))
theorem ord_ok (l : List EntD) : zAD Tryz.prog 217 [zB6 l] (.bool (ordD l)) := by
 have hl := zBB l
 refine zAD.lens (by kernel_rfl) fun hlens => ?_
 simp [zMb, zLz, zE4, maxLen] at hlens
 refine sX Tryz.func217 Tryz.ntmps217 ?_;(repeat intro K hK);refine wr ?_
 simp only [hl] at hlens
 obtain ⟨I, hI⟩ : ∃ I : Nat → St → Prop, I = (fun kk ss => ∃ (i : Nat) , i ≤ l.length ∧ kk = l.length - i ∧ (ordD l = ordD (l.drop i)) ∧ ss = ⟨39, [(3, .int .i64 (i + 1)), (0, zB6 l)], 0, [], 0⟩) := ⟨_, rfl⟩
 refine lX I (id) (by rw [hI]; exact ⟨0, by simp, rfl, rfl, rfl⟩) ?_
 intro kk ss hIk _
 rw [hI] at hIk
 obtain ⟨i, hi, rfl, hx, rfl⟩ := hIk
 refine au1 @hl ?_;(repeat intro K hK);refine wr ?_
 refine zAA rfl (fun hh => ?_) (fun hh => ?_)
 ·simp at hh
  obtain ⟨a, ha, hd, -, -⟩ := get_at (show i < l.length by omega)
  obtain ⟨b, hb, hd2, -, -⟩ := get_at (show i + 1 < l.length by omega)
  have hga := zCu ha
  have hgb := zCu hb
  have hw : IntKind.i64.wrap ((i : Int) + 1 + 1) = (i : Int) + 1 + 1 := zAC (by omega) (by omega)
  rw [hd, hd2, ordD, ← hd2] at hx
  have hwi : IntKind.i64.wrap (i : Int) = i := zAC (by omega) (by omega)
  refine au1 (kX4 @hga @hgb @hl @hwi) ?_;(repeat intro K hK);refine wr ?_
  (refine af1 (kX5 @hga @hgb @hl @hwi @hx) ?_; (repeat intro K hK); refine wr ?_)
  repeat' ((first | (refine zAA rfl (fun h => ?_) (fun h => ?_) <;> (first | (simp [hga, hgb, hl, hwi, hx] at h; done) | (simp [hga, hgb, hl, hwi, hx] at h) | skip) <;> (first | (exfalso; omega) | skip)) | (refine zBe (.node 9 10 (.leaf [0, 1, 2, 3, 4, 5, 6, 7, 8, 9, 10, 11, 12] [[], [], [1], [0, 1, 2], [0, 1, 2, 3], [], [], [5, 6], [5, 6, 7], [], [9], [0, 1, 2, 3, 4, 9, 10], [0, 1, 2, 3, 4, 5, 6, 7, 8, 9, 10, 11]] [(12, ([[], [], [1], [0, 1, 2], [0, 1, 2, 3], [], [], [5, 6], [5, 6, 7], [], [9], [0, 1, 2, 3, 4, 9, 10]], [(3, 9), (3, 10), (4, 9), (4, 10), (7, 9), (7, 10), (7, 11), (8, 9), (8, 10), (8, 11)])), (1, ([], []))]) (.leaf [0, 1, 2, 3, 4, 5, 6, 7, 8, 10, 9, 11, 12] [[], [], [1], [0, 1, 2], [0, 1, 2, 3], [], [], [5, 6], [5, 6, 7], [], [9], [0, 1, 2, 3, 4, 9, 10], [0, 1, 2, 3, 4, 5, 6, 7, 8, 9, 10, 11]] [(12, ([[], [], [1], [0, 1, 2], [0, 1, 2, 3], [], [], [5, 6], [5, 6, 7], [], [9], [0, 1, 2, 3, 4, 9, 10]], [(3, 9), (3, 10), (4, 9), (4, 10), (7, 9), (7, 10), (7, 11), (8, 9), (8, 10), (8, 11)])), (1, ([], []))])) (by kernel_rfl) (by kernel_rfl) ?_; simp only [PT.run]; repeat' (with_reducible apply And.intro); all_goals (simp only [zB0, List.map_cons, List.map_nil, List.getD_cons_zero, List.getD_cons_succ])) | exact rt1 (kX5 @hga @hgb @hl @hwi @hx) | fail) <;> (refine af1 (kX5 @hga @hgb @hl @hwi @hx) ?_; (repeat intro K hK); refine wr ?_))
  all_goals ((exact aX (id) (by rw [hI]; exact ⟨i + 1, by omega, rfl, (by rw [hx]; grind), rfl⟩) (kX2 (zAC (n := (i : Int) + 1) (by omega) (by omega)) @hw)))
 ·simp at hh
  have hx2 : ordD l = true := by
   rw [hx]
   rcases Nat.lt_or_ge i l.length with q | q
   ·obtain ⟨a, ha, hd, -, -⟩ := get_at q
    rw [hd, zCT (by omega)]; rfl
   ·rw [zCT q]; rfl
  refine au ?_;(repeat intro K hK);refine wr ?_
  refine zAB ?_
  simp [hx2]
theorem zGn (o : EntD) (k : Int) : zAD Tryz.prog 246 [.st o.row, .iptr [lv k]] (.bool (decide (k < o.at_))) := by
 refine sZ Tryz.func246 Tryz.ntmps246 ?_
 exact wx trivial trivial
theorem zN8 (l : List EntD) (k : Int) : ∃ n : Int, (0 ≤ n ↔ zCn l k = true) ∧ zAD Tryz.prog 308 [zB6 l, .clo 246 [.iptr [lv k]]] (iv n) := by
 refine ⟨match l.findIdx? (fun e => decide (k < e.at_)) with | some j => j | none => -1, ?_, ?_⟩
 ·cases q : l.findIdx? (fun e => decide (k < e.at_)) with
  | none => simp [zCn]; intro x hx; have := List.findIdx?_eq_none_iff.1 q x hx; simpa using this
  | some j =>
   simp [zCn]
   obtain ⟨h1, h2⟩ := List.findIdx?_eq_some_iff_getElem.1 q
   exact ⟨l[j], List.getElem_mem h1, by simpa using h2.1⟩
 ·have hl := zBB l
  refine zAD.lens (by kernel_rfl) fun hlens => ?_
  simp [zMb, zLz, zE4, maxLen] at hlens
  refine sY Tryz.func308 Tryz.ntmps308 @hl ?_;(repeat intro K hK);refine wr ?_
  simp only [hl] at hlens
  obtain ⟨I, hI⟩ : ∃ I : Nat → St → Prop, I = (fun kk ss => ∃ (i : Nat) , i ≤ l.length ∧ kk = l.length - i ∧ (l.findIdx? (fun e => decide (k < e.at_)) = ((l.drop i).findIdx? (fun e => decide (k < e.at_))).map (· + i)) ∧ ss = ⟨19, [(8, .int .i64 i), (7, .int .i64 l.length), (1, .clo 246 [.iptr [lv k]]), (0, zB6 l)], 0, [], 0⟩) := ⟨_, rfl⟩
  refine lX I (id) (by rw [hI]; exact ⟨0, by simp, rfl, by simp, rfl⟩) ?_
  intro kk ss hIk _
  rw [hI] at hIk
  obtain ⟨i, hi, rfl, hx, rfl⟩ := hIk
  refine au1 @hl ?_;(repeat intro K hK);refine wr ?_
  refine zAA rfl (fun hh => ?_) (fun hh => ?_)
  ·simp at hh
   obtain ⟨o, ho, hd, -, -⟩ := get_at hh
   have hget := zCu ho
   rw [hd, List.findIdx?_cons] at hx
   by_cases hk : k < o.at_
   ·simp [hk] at hx
    refine au1 (kX2 @hget @hl) ?_;(repeat intro K hK);refine wr ?_
    exact wx1 (qX1 (zGn o k)) trivial (kX5 @hk @hget @hl @hx @hh)
   ·simp [hk] at hx
    refine au1 (kX2 @hget @hl) ?_;(repeat intro K hK);refine wr ?_
    (refine au1 (kX3 @hk @hget @hl) ?_; (repeat intro K hK); refine wr ?_)
    repeat' ((first | (refine zAA rfl (fun h => ?_) (fun h => ?_) <;> (first | (simp [hk, hget, hl] at h; done) | (simp [hk, hget, hl] at h) | skip) <;> (first | (exfalso; omega) | skip)) | refine cc1 (zGn o k) (kX3 @hk @hget @hl) ?_ | exact rt1 (kX3 @hk @hget @hl) | fail) <;> (refine au1 (kX3 @hk @hget @hl) ?_; (repeat intro K hK); refine wr ?_))
    exact aX (id) (by rw [hI]; exact ⟨i + 1, by omega, rfl, (by rw [hx]; cases (l.drop (i + 1)).findIdx? (fun e => decide (k < e.at_)) <;> simp <;> omega), rfl⟩) (zAC (n := (i : Int) + 1) (by omega) (by omega))
  ·simp at hh
   rw [zCT hh] at hx
   have hx2 := hx.trans (show _ = none by simp)
   refine au ?_;(repeat intro K hK);refine wr ?_
   refine zAB ?_
   rw [hx2]
   simp
theorem zOm (l : List EntD) (k : Int) : zAD Tryz.prog 177 [zB6 l, lv k] (.bool (zCn l k)) := by
 obtain ⟨n, hn, hi⟩ := zN8 l k
 have hc : zAD Tryz.prog 245 [zB6 l, .clo 246 [.iptr [lv k]]] (.bool (zCn l k)) := by
  have hb : decide (0 ≤ n) = zCn l k := by cases q : zCn l k <;> simp [q] at hn ⊢ <;> omega
  refine sZ Tryz.func245 Tryz.ntmps245 ?_
  exact wx1 (qX1 (hi)) trivial @hb
 refine sZ Tryz.func177 Tryz.ntmps177 ?_
 exact wx (qX1 (hc)) trivial
theorem zQI {e : EvD} (h : zDe e = true) : 1 ≤ e.kind ∧ e.kind ≤ 6 := by
 unfold zDe at h
 (repeat' split at h) <;> first | omega | (simp at h)
theorem zKQ {e : EvD} (h : zDe e = true) : e.data.length ≤ 128 := by
 unfold zDe at h
 (repeat' split at h) <;> simp at h <;> first | omega | (rcases h with h | h <;> simp [h]) | (simp [h]) | (simp [h.2])
theorem zOl {e : EvD} (h : zDe e = true) : (zDc e).length ≤ 200 := by
 have p1 := zBh e.kind
 have p2 := zBh e.n
 have p3 := zBh (e.data.length : Int)
 have p4 := zKQ h
 unfold zDc
 (repeat' split) <;> simp <;> omega
theorem zFV {l : List EntD} {from_ k : Int} (h : zDh l from_ = k) (hk : k ≠ 0) : logD l from_ = ([], k) := by unfold logD; rw [h, if_neg hk]
theorem zLn {l : List EntD} {from_ : Int} (h : ¬ 400 < l.length) (ha : l.all (fun e => zDe e.ev) = false) : zDh l from_ = 1900 := by unfold zDh; rw [if_neg h, if_pos ha]
theorem zMS {l : List EntD} {from_ : Int} (h : ¬ 400 < l.length) (ha : l.all (fun e => zDe e.ev) = true) (ho : ordD l = false ∨ zCN from_ l = false) : zDh l from_ = 1901 := by unfold zDh; rw [if_neg h, if_neg (by simp [ha]), if_pos ho]
theorem zMN {l : List EntD} {from_ : Int} (h : ¬ 400 < l.length) (ha : l.all (fun e => zDe e.ev) = true) (ho : ¬ (ordD l = false ∨ zCN from_ l = false)) : zDh l from_ = if 65536 < (putD l.length ++ zI3 from_ l).length then 1902 else 0 := by unfold zDh; rw [if_neg h, if_neg (by simp [ha]), if_neg ho]
theorem zPQ {a : EntD} {r : List EntD} (h : ordD (a :: r) = true) : zCN a.at_ r = true ∧ ordD r = true := by
 cases r with
 | nil => exact ⟨rfl, rfl⟩
 | cons b r =>
  rw [ordD] at h
  simp at h
  exact ⟨by simp [zCN]; omega, h.2⟩
theorem zS3 (l : List EntD) (from_ : Int) (hf : L64 from_) (hE : ∀ e ∈ l, OkT e) (hb : l.length ≤ 100000) : zAD Tryz.prog 178 [zB6 l, lv from_] (.tup [.str (logD l from_).1, iv (logD l from_).2]) := by
 have hl := zBB l
 by_cases h400 : 400 < l.length
 ·have hR : logD l from_ = ([], 1902) := zFV (by unfold zDh; rw [if_pos h400]) (by decide)
  rw [hR]
  have h4 : (400 : Int) < l.length := by omega
  refine sZ Tryz.func178 Tryz.ntmps178 ?_
  exact wx1 trivial trivial (kX2 @hl @h4)
 ·have h4 : ¬ (400 : Int) < l.length := by omega
  refine sY Tryz.func178 Tryz.ntmps178 (kX2 @hl @h4) ?_;(repeat intro K hK);refine wr ?_
  refine gF11 @h4 rfl @hl ?_;(repeat intro K hK);refine wr ?_
  obtain ⟨I, hI⟩ : ∃ I : Nat → St → Prop, I = (fun kk ss => ∃ (i : Nat) , i ≤ l.length ∧ kk = l.length - i ∧ (l.all (fun e => zDe e.ev) = (l.drop i).all (fun e => zDe e.ev)) ∧ ss = ⟨68, [(16, .int .i64 i), (15, .int .i64 l.length), (14, zB6 l), (0, zB6 l), (1, lv from_)], 0, [], 0⟩) := ⟨_, rfl⟩
  refine lX I (id) (by rw [hI]; exact ⟨0, by simp, rfl, rfl, rfl⟩) ?_
  intro kk ss hIk _
  rw [hI] at hIk
  obtain ⟨i, hi, rfl, hx, rfl⟩ := hIk
  refine au1 @hl ?_;(repeat intro K hK);refine wr ?_
  refine zAA rfl (fun hh => ?_) (fun hh => ?_)
  ·simp at hh
   obtain ⟨o, ho, hd, -, -⟩ := get_at hh
   have hget := zCu ho
   rw [hd, List.all_cons] at hx
   refine au1 @hget ?_;(repeat intro K hK);refine wr ?_
   cases hv : zDe o.ev with
   | false =>
    have hR : logD l from_ = ([], 1900) := zFV (zLn h400 (by rw [hx, hv]; rfl)) (by decide)
    rw [hR]
    exact wx1 (qX1 (zKv o.ev)) trivial @hv
   | true =>
    rw [hv, Bool.true_and] at hx
    (refine au1 @hv ?_; (repeat intro K hK); refine wr ?_)
    repeat' ((first | (refine zAA rfl (fun h => ?_) (fun h => ?_) <;> (first | (simp [hv] at h; done) | (simp [hv] at h) | skip) <;> (first | (exfalso; omega) | skip)) | refine cc1 (zKv o.ev) @hv ?_ | exact rt1 @hv | fail) <;> (refine au1 @hv ?_; (repeat intro K hK); refine wr ?_))
    exact aX (id) (by rw [hI]; exact ⟨i + 1, by omega, rfl, hx, rfl⟩) (zAC (n := (i : Int) + 1) (by omega) (by omega))
  ·simp at hh
   rw [zCT hh] at hx
   have hall : l.all (fun e => zDe e.ev) = true := hx.trans rfl
   have ho := ord_ok l
   refine au ?_;(repeat intro K hK);refine wr ?_
   by_cases hor : ordD l = false ∨ zCN from_ l = false
   ·have hR : logD l from_ = ([], 1901) := zFV (zMS h400 hall hor) (by decide)
    rw [hR]
    have hne : l ≠ [] := by rintro rfl; rcases hor with q | q <;> cases q
    obtain ⟨a, r, rfl⟩ : ∃ a r, l = a :: r := by cases l with | nil => exact absurd rfl hne | cons a r => exact ⟨a, r, rfl⟩
    have hg0 : (ents (a :: r))[0]? = some a.row := rfl
    have hpos : 0 < (ents (a :: r)).length := by rw [hl]; simp
    simp only [zCN] at hor
    refine cc1 (ho) (kX3 @hpos @hg0 (getE hg0)) ?_
    refine au ?_;(repeat intro K hK);refine wr ?_
    have hct : (!ordD (a :: r) || decide (a.at_ < from_)) = true := by rcases hor with q | q <;> (try simp at q) <;> simp [q]
    refine gT10 @hct rfl ?_;(repeat intro K hK);refine wr ?_
    refine zAB ?_
    simp [hR]
   ·have hR := zMN h400 hall hor
    have hor1 : ordD l = true := by simpa using (fun z => hor (.inl z))
    have hfo : zCN from_ l = true := by simpa using (fun z => hor (.inr z))
    rw [hor1] at ho
    refine zBs (α := Unit) (fun _ => (⟨68, [(40, .bool false), (0, zB6 l), (1, lv from_)], 1, [], 0⟩ : St)) (fun _ => True) hK (fun _ hxhJ => ?_) (fun hJ => ?_)
    all_goals clear hK
    ·refine cF0 rfl ?_
     have w1 : IntKind.u64.wrap (l.length : Int) = l.length := u64_in (by omega) (by omega)
     refine au1 (kX2 @hl @w1) ?_;(repeat intro K hK);refine wr ?_
     refine cc (zIs l.length ⟨by omega, by omega⟩) ?_
     first | refine .inr ((zDX 1 (putD l.length) (by simp [lookO]) (by decide) (by have := zBh (l.length : Int); omega)).mono fun r nx' ob' hp => ?_) | refine (zDX 1 (putD l.length) (by simp [lookO]) (by decide) (by have := zBh (l.length : Int); omega)).mono fun r nx' ob' hp => ?_ | refine ((zDX 1 (putD l.length) (by simp [lookO]) (by decide) (by have := zBh (l.length : Int); omega)).mono fun r nx' ob' hp => ?_).2
     simp only [aftI]
     obtain ⟨rfl, k1, hk, hkn, hkb, hki, hko⟩ := hp
     simp
     refine au1 @hl ?_;(repeat intro K hK);refine wr ?_
     clear hko
     obtain ⟨I, hI⟩ : ∃ I : Nat → St → Prop, I = (fun kk ss => ∃ (i : Nat) (fr : Int) (s : Str), i ≤ l.length ∧ kk = l.length - i ∧ (putD l.length ++ zI3 from_ l = s ++ zI3 fr (l.drop i) ∧ L64 fr ∧ s.length ≤ 11 + 250 * i ∧ zCN fr (l.drop i) = true ∧ ordD (l.drop i) = true) ∧ ss = ⟨68, [(48, .int .i64 i), (47, .int .i64 l.length), (46, zB6 l), (8, .ptr 1 2 0 0), (1, lv fr)], 3, [(1, some (bldO (.ptr 1 2 0 0) (.own 2))), (2, some (bufO s))], 0⟩) := ⟨_, rfl⟩
     refine lX1 I (fun x => if x = 2 then k1 else x) (by rw [hI]; exact ⟨0, from_, (putD l.length), by simp, rfl, ⟨rfl, hf, zBh _, hfo, hor1⟩, rfl⟩) (kX2 @hki @hkb) ?_
     intro kk ss hIk _
     rw [hI] at hIk
     obtain ⟨i, fr, s, hi, rfl, hx, rfl⟩ := hIk
     obtain ⟨hx1, hx2, hx3, hx4, hx5⟩ := hx
     refine au ?_;(repeat intro K hK);refine wr ?_
     refine zAA rfl (fun hh2 => ?_) (fun hh2 => ?_)
     ·simp at hh2
      obtain ⟨o, ho, hd, -, hmem⟩ := get_at hh2
      have hget := zCu ho
      obtain ⟨hoa, hon⟩ := hE o hmem
      rw [hd] at hx1 hx4 hx5
      obtain ⟨hf2, ho2⟩ := zPQ hx5
      have hle : fr ≤ o.at_ := by simpa [zCN] using hx4
      have hv : zDe o.ev = true := List.all_eq_true.1 hall o hmem
      have hk := zQI hv
      have hdt := zKQ hv
      have hw : IntKind.u64.wrap (o.at_ - fr) = o.at_ - fr := u64_in (by omega) (by have := hoa.2; have := hx2.1; omega)
      have hp1 := zBh (o.at_ - fr)
      have hp2 := zOl hv
      refine au1 (kX2 @hget @hw) ?_;(repeat intro K hK);refine wr ?_
      refine cc (zIs (o.at_ - fr) ⟨by omega, by have := hoa.2; have := hx2.1; omega⟩) ?_
      first | refine .inr ((zEP 1 2 (.ptr 1 2 0 0) s (putD (o.at_ - fr)) (by simp [lookO]) (by simp [lookO]) (.inr rfl) (by decide) (by decide) (by decide) (by omega)).mono fun r nx' ob' hp => ?_) | refine (zEP 1 2 (.ptr 1 2 0 0) s (putD (o.at_ - fr)) (by simp [lookO]) (by simp [lookO]) (.inr rfl) (by decide) (by decide) (by decide) (by omega)).mono fun r nx' ob' hp => ?_ | refine ((zEP 1 2 (.ptr 1 2 0 0) s (putD (o.at_ - fr)) (by simp [lookO]) (by simp [lookO]) (.inr rfl) (by decide) (by decide) (by decide) (by omega)).mono fun r nx' ob' hp => ?_).2
      simp only [aftI]
      obtain ⟨rfl, k2, g0, g1, g2, g3, g4⟩ := hp
      have g5 := g4 3 (by decide) (by decide) (by decide)
      simp [lookO] at g5
      simp
      refine au1 @g5 ?_;(repeat intro K hK);refine wr ?_
      refine cc (zRM o.ev ⟨by omega, by omega⟩ hon (by omega)) ?_
      first | refine .inr ((zEP 1 k2 (.ptr 1 2 0 0) (s ++ putD (o.at_ - fr)) (zDc o.ev) g3 g2 (.inr rfl) (by omega) (by omega) (by omega) (by simp; omega)).mono fun r nx' ob' hp => ?_) | refine (zEP 1 k2 (.ptr 1 2 0 0) (s ++ putD (o.at_ - fr)) (zDc o.ev) g3 g2 (.inr rfl) (by omega) (by omega) (by omega) (by simp; omega)).mono fun r nx' ob' hp => ?_ | refine ((zEP 1 k2 (.ptr 1 2 0 0) (s ++ putD (o.at_ - fr)) (zDc o.ev) g3 g2 (.inr rfl) (by omega) (by omega) (by omega) (by simp; omega)).mono fun r nx' ob' hp => ?_).2
      simp only [aftI]
      obtain ⟨rfl, k3, j0, j1, j2, j3, j4⟩ := hp
      simp
      refine au ?_;(repeat intro K hK);refine wr ?_
      exact aX (fun x => if x = 2 then k3 else x) (by rw [hI]; exact ⟨i + 1, o.at_, (s ++ putD (o.at_ - fr) ++ zDc o.ev), by omega, rfl, ⟨by rw [hx1, zI3]; simp, hoa, by simp; omega, hf2, ho2⟩, rfl⟩) (kX3 (zAC (n := (i : Int) + 1) (by omega) (by omega)) @j3 @j2)
     ·simp at hh2
      rw [zCT hh2, zI3, List.append_nil] at hx1
      rw [hx1] at hR
      refine au ?_;(repeat intro K hK);refine wr ?_
      first | refine .inr ((zEQ 1 2 (.ptr 1 2 0 0) s (by simp [lookO]) (by simp [lookO])).mono fun r nx' ob' hp => ?_) | refine (zEQ 1 2 (.ptr 1 2 0 0) s (by simp [lookO]) (by simp [lookO])).mono fun r nx' ob' hp => ?_ | refine ((zEQ 1 2 (.ptr 1 2 0 0) s (by simp [lookO]) (by simp [lookO])).mono fun r nx' ob' hp => ?_).2
      simp only [aftI]
      obtain ⟨rfl, rfl, rfl⟩ := hp
      simp
      refine au ?_;(repeat intro K hK);refine wr ?_
      by_cases hs : 65536 < s.length
      ·rw [if_pos hs] at hR
       rw [zFV hR (by decide)]
       exact wx1 trivial trivial @hs
      ·rw [if_neg hs] at hR
       have hE2 : logD l from_ = (s, 0) := by unfold logD; rw [if_pos hR, hx1]
       rw [hE2]
       have hs2 : ¬ (65536 : Int) < s.length := by omega
       refine gF10 @hs2 rfl ?_;(repeat intro K hK);refine wr ?_
       first | refine .inr ((zEe 1 2 (.ptr 1 2 0 0) s (by simp [lookO]) (by simp [lookO])).mono fun r nx' ob' hp => ?_) | refine (zEe 1 2 (.ptr 1 2 0 0) s (by simp [lookO]) (by simp [lookO])).mono fun r nx' ob' hp => ?_ | refine ((zEe 1 2 (.ptr 1 2 0 0) s (by simp [lookO]) (by simp [lookO])).mono fun r nx' ob' hp => ?_).2
       simp only [aftI]
       obtain rfl := hp
       simp
       refine au ?_;(repeat intro K hK);refine wr ?_
       refine zAB ?_
       simp [hE2]
    ·rcases Nat.eq_zero_or_pos (ents l).length with hz | hpos
     ·refine cc1 (ho) @hz ?_
      refine hJ () _ (id) (trivial) ⟨rfl, ?_, ?_, ?_, by simp⟩
      ·simp [leT, ltV, lt1, ren, ren1]
      ·simp [leO, lt1, ren1]
      ·(simp; try omega)
     ·obtain ⟨a, ha0, -, -, -⟩ := get_at (show 0 < l.length by omega)
      have hg0 := zCu ha0
      have hfa : ¬ a.at_ < from_ := by cases l with | nil => cases ha0 | cons b r => cases ha0; simpa [zCN] using hfo
      refine cc1 (ho) (kX4 @hpos @hg0 (getE hg0) @hfa) ?_
      refine hJ () _ (id) (trivial) ⟨rfl, ?_, ?_, ?_, by simp⟩
      ·simp [leT, ltV, lt1, ren, ren1]
      ·simp [leO, lt1, ren1]
      ·(simp; try omega)
end Go.Proofs.YtjmhjieflbnehaaGreat
end
