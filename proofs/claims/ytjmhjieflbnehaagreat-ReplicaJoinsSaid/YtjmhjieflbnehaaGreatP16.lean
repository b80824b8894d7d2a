/- A part of the proof of ReplicaJoins. -/
import Derived.Test.YtjmhjieflbnehaaGreatP06
import Derived.Test.YtjmhjieflbnehaaGreatP11
set_option linter.unusedSimpArgs false
set_option linter.unusedVariables false
set_option maxHeartbeats 16000000
set_option maxRecDepth 100000
section
namespace Go.Proofs.YtjmhjieflbnehaaGreat
open Go.Ab Go.RowKit
abbrev W32 (n : Int) : Prop := 0 ≤ n ∧ n < 4294967296
abbrev uw (n : Int) : Int := IntKind.u32.wrap n
abbrev sw (n : Int) : Int := IntKind.i32.wrap n
def divQ (a b : Int) : Int := if b = 0 then 4294967295 else uw ((sw a).tdiv (sw b))
def divR (a b : Int) : Int := if b = 0 then a else uw ((sw a).tmod (sw b))
def b2w (b : Bool) : Int := if b then 1 else 0
def aluD (op a b : Int) : Option Int :=
 if op = 1 ∨ op = 16 then some (uw (a + b))
 else if op = 2 then some (uw (a - b))
 else if op = 3 ∨ op = 17 then some (iand .u32 a b)
 else if op = 4 ∨ op = 18 then some (ior .u32 a b)
 else if op = 5 ∨ op = 19 then some (ixor .u32 a b)
 else if op = 6 ∨ op = 20 then some (uw (a * 2 ^ (b % 32).toNat))
 else if op = 7 ∨ op = 21 then some (a / 2 ^ (b % 32).toNat)
 else if op = 8 ∨ op = 22 then some (uw (sw a / 2 ^ (b % 32).toNat))
 else if op = 9 then some (uw (a * b))
 else if op = 10 then some (divQ a b)
 else if op = 11 then some (divR a b)
 else if op = 12 ∨ op = 23 then some (b2w (decide (sw a < sw b)))
 else if op = 13 then some (b2w (decide (a < b)))
 else none
def CpuD.setX (c : CpuD) (r : Int) (v : Int) : CpuD := ⟨fun i => if (i : Int) = r then v else c.x i, c.pc, c.csr⟩
def CpuD.setR (c : CpuD) (r : Int) (v : Int) : CpuD := if r = 0 then c else c.setX r v
def CpuD.setS (c : CpuD) (r : Int) (v : Int) : CpuD := ⟨c.x, c.pc, fun i => if (i : Int) = r then v else c.csr i⟩
def CpuD.setP (c : CpuD) (p : Int) : CpuD := ⟨c.x, p, c.csr⟩
def zIm (s : Int) : Int := 1 + s / 4 % 2 * 4 + s % 2 * 8 + s / 2 % 2 * 16
def retS (s : Int) : Int := s / 8 % 2 + s / 16 % 2 * 2 + s / 4 % 2 * 4 + s / 8 % 2 * 8 + s / 16 % 2 * 16
def zA8 (c : CpuD) (cause bad : Int) : CpuD :=
 ⟨c.x, c.csr 1, fun i => if i = 0 then zIm (c.csr 0) else if i = 2 then c.pc else if i = 3 then uw cause else if i = 4 then bad else c.csr i⟩
def retD (c : CpuD) : CpuD := ⟨c.x, c.csr 2, fun i => if i = 0 then retS (c.csr 0) else c.csr i⟩
def zBC (c : CpuD) (k v : Int) : CpuD :=
 if k = 0 ∨ k = 7 then c.setS k (iand .u32 v 31)
 else if k = 6 then c.setS k (iand .u32 v 255)
 else if k = 1 ∨ k = 2 then c.setS k (zAQ .u32 v 3)
 else if k = 3 ∨ k = 4 ∨ k = 5 then c.setS k v
 else c
def wAt (mem : List Int) (a : Int) : Int := mem.getD a.toNat 0
def zAU (mem : List Int) (a size : Int) : Bool := (decide (size = 1) || (decide (size = 4) && decide (a % 4 = 0))) && decide (a + size ≤ pagesD mem * 128)
def byteAt (w k : Int) : Int := w / 2 ^ (8 * k).toNat % 256
def putB (w k v : Int) : Int := w - byteAt w k * 2 ^ (8 * k).toNat + v % 256 * 2 ^ (8 * k).toNat
def zBl (mem : List Int) (a size : Int) : Int := if size = 1 then byteAt (wAt mem (a / 4)) (a % 4) else wAt mem (a / 4)
def zCL (mem : List Int) (a size v : Int) : List Int := mem.set (a / 4).toNat (if size = 1 then putB (wAt mem (a / 4)) (a % 4) v else v)
def zQ4 (w access : Int) : Bool :=
 !decide (iand .u32 w 1 = 0) && (if access = 3 then !decide (iand .u32 w 2 = 0) else if access = 1 then !decide (iand .u32 w 4 = 0) else true)
def zGc (mem : List Int) (root va access : Int) : Option (Int × Int) :=
 if va < 4096 ∧ root < pagesD mem ∧ zQ4 (wAt mem ((root * 128 + va / 128 * 4) / 4)) access = true ∧ wAt mem ((root * 128 + va / 128 * 4) / 4) / 256 % 256 < pagesD mem then
  some (wAt mem ((root * 128 + va / 128 * 4) / 4) / 256 % 256 * 128 + va % 128, root * 128 + va / 128 * 4)
 else none
def zKO (w access : Int) : Int := if access = 3 then ior .u32 (ior .u32 w 8) 16 else ior .u32 w 8
def zD3 (mem : List Int) (entry access : Int) : List Int := mem.set (entry / 4).toNat (zKO (wAt mem (entry / 4)) access)
def zC1 (c : CpuD) : Bool := decide (c.csr 0 % 2 = 0) && decide (c.csr 0 / 4 % 2 = 1)
def zAG (c : CpuD) (mem : List Int) (va size access : Int) : Int × List Int × Int :=
 if va % size ≠ 0 then (0, mem, 3)
 else if zC1 c = true then match zGc mem (c.csr 6) va access with
  | none => (0, mem, access + 3)
  | some (a, e) => (a, zD3 mem e access, 0)
 else if zAU mem va size = true then (va, mem, 0)
 else (0, mem, access + 3)
def zD9 (op a b : Int) : Bool :=
 if op = 40 then decide (a = b) else if op = 41 then !decide (a = b) else if op = 42 then decide (sw a < sw b) else if op = 43 then !decide (sw a < sw b) else if op = 44 then decide (a < b) else !decide (a < b)
structure EffD where
 kind : Int
 port : Int
 reg : Int
 val : Int
abbrev EffD.row (e : EffD) : List V := [iv e.kind, iv e.port, iv e.reg, uv e.val]
def zEff : EffD := ⟨0, 0, 0, 0⟩
def zAY (op : Int) : Int := if op = 32 ∨ op = 35 then 4 else 1
def zAH (c : CpuD) (i : InstD) : CpuD × EffD :=
 if i.op = 24 then ((c.setR i.a (uw (uw i.imm * 65536))).setP (uw (c.pc + 4)), zEff)
 else if 40 ≤ i.op ∧ i.op ≤ 45 then (c.setP (if zD9 i.op (c.x i.a.toNat) (c.x i.b.toNat) = true then uw (c.pc + uw (4 * uw i.imm)) else uw (c.pc + 4)), zEff)
 else if i.op = 48 then ((c.setR i.a (uw (c.pc + 4))).setP (uw (c.pc + uw (4 * uw i.imm))), zEff)
 else if i.op = 49 then ((c.setR i.a (uw (c.pc + 4))).setP (uw (c.x i.b.toNat + uw i.imm)), zEff)
 else if i.op = 56 then (zA8 c 7 0, zEff)
 else if i.op = 57 then (retD c, zEff)
 else if i.op = 58 then ((c.setR i.a (c.csr i.imm.toNat)).setP (uw (c.pc + 4)), zEff)
 else if i.op = 59 then ((zBC c i.imm (c.x i.a.toNat)).setP (uw (c.pc + 4)), zEff)
 else if i.op = 60 then (c.setP (uw (c.pc + 4)), ⟨1, i.imm, i.a, 0⟩)
 else if i.op = 61 then (c.setP (uw (c.pc + 4)), ⟨2, i.imm, 0, c.x i.a.toNat⟩)
 else if i.op = 62 then (c.setP (uw (c.pc + 4)), ⟨3, 0, 0, 0⟩)
 else if i.op = 63 then (c.setP (uw (c.pc + 4)), ⟨5, 0, 0, 0⟩)
 else if i.op = 64 then (c.setP (uw (c.pc + 4)), ⟨4, 0, 0, 0⟩)
 else ((c.setR i.a ((aluD i.op (c.x i.b.toNat) (if 16 ≤ i.op then uw i.imm else c.x i.c.toNat)).getD 0)).setP (uw (c.pc + 4)), zEff)
def zHj (v : Int) : Int := if v < 128 then v else v + 4294967040
def zAy (c : CpuD) (mem : List Int) (i : InstD) : CpuD × List Int :=
 match zAG c mem (uw (c.x i.b.toNat + uw i.imm)) (zAY i.op) 2 with
 | (a, m, cause) => if cause ≠ 0 then (zA8 c cause (uw (c.x i.b.toNat + uw i.imm)), m) else
  ((c.setR i.a (if i.op = 33 then zHj (zBl m a (zAY i.op)) else zBl m a (zAY i.op))).setP (uw (c.pc + 4)), m)
def zAS (c : CpuD) (mem : List Int) (i : InstD) : CpuD × List Int :=
 match zAG c mem (uw (c.x i.b.toNat + uw i.imm)) (zAY i.op) 3 with
 | (a, m, cause) => if cause ≠ 0 then (zA8 c cause (uw (c.x i.b.toNat + uw i.imm)), m) else
  (c.setP (uw (c.pc + 4)), zCL m a (zAY i.op) (c.x i.a.toNat))
def zJq (op : Int) : Bool := decide (57 ≤ op) && decide (op ≤ 64)
def zBa (c : CpuD) (mem : List Int) (w : Int) : CpuD × List Int × EffD :=
 if validD (decI w) = false then (zA8 c 1 w, mem, zEff)
 else if zJq (decI w).op = true ∧ c.csr 0 % 2 = 0 then (zA8 c 2 w, mem, zEff)
 else if 32 ≤ (decI w).op ∧ (decI w).op ≤ 34 then ((zAy c mem (decI w)).1, (zAy c mem (decI w)).2, zEff)
 else if 35 ≤ (decI w).op ∧ (decI w).op ≤ 36 then ((zAS c mem (decI w)).1, (zAS c mem (decI w)).2, zEff)
 else ((zAH c (decI w)).1, mem, (zAH c (decI w)).2)
def zAs (c : CpuD) (mem : List Int) : CpuD × List Int × EffD :=
 match zAG c mem c.pc 4 1 with
 | (a, m, cause) => if cause ≠ 0 then (zA8 c cause c.pc, m, zEff) else zBa c m (wAt m (a / 4))
def keyH (s : Str) : Int := match s with | [] => 4294967295 | b :: _ => (b.toNat : Int)
def zGa (s : Str) (port : Int) : Str × Int := if port = 0 then (s.tail, keyH s) else if port = 1 then (s, s.length) else (s, 0)
def zHL (s : Str) (b : UInt8) : Str × Bool := if 16 ≤ s.length then (s, false) else (s ++ [b], true)
def armD (v : Int) : TimD := ⟨!decide (v = 0), v, false⟩
def zHC (t : TimD) : TimD × Bool := if t.armed = true then (⟨false, t.dl, true⟩, true) else (t, false)
def dueD (t : TimD) (now : Int) : Bool := t.armed && decide (t.dl ≤ now)
def zSq (t : TimD) : Int := b2w t.fired
def zRK (d : DskD) (port : Int) : Int := if port = 4 then d.block else if port = 5 then d.frame else if port = 6 then uw d.state else 0
def zBj (d : DskD) : Bool := decide (d.state = 2) || decide (d.state = 3)
def zDA (w : Int) : Str := [UInt8.ofNat (w % 256).toNat, UInt8.ofNat (w / 256 % 256).toNat, UInt8.ofNat (w / 65536 % 256).toNat, UInt8.ofNat (w / 16777216 % 256).toNat]
def zCg (mem : List Int) (f : Int) : Str := ((mem.take (f * 32 + 32).toNat).drop (f * 32).toNat).flatMap zDA
def zJ4 (s : Str) (i : Nat) : Int := (s.getD (4 * i) 0).toNat + (s.getD (4 * i + 1) 0).toNat * 256 + (s.getD (4 * i + 2) 0).toNat * 65536 + (s.getD (4 * i + 3) 0).toNat * 16777216
def putW (mem : List Int) (o : Nat) (s : Str) : Nat → List Int
 | 0 => mem
 | i + 1 => (putW mem o s i).set (o + i) (zJ4 s i)
def zBW (mem : List Int) (f : Int) (s : Str) : List Int := putW mem (f * 32).toNat s 32
def zEB (d : DskD) (at_ : Int) : OutD × Bool :=
 if d.state = 1 ∧ d.cmd = 1 then (⟨3, at_, d.opBlock, []⟩, true) else if d.state = 1 ∧ d.cmd = 2 then (⟨4, at_, d.opBlock, d.opData⟩, true) else (⟨0, 0, 0, []⟩, false)
def zBo (d : DskD) (mem : List Int) (cmd at_ : Int) : DskD × List OutD :=
 if d.state ≠ 0 then (d, [])
 else if d.blocks ≤ d.block ∨ pagesD mem ≤ d.frame then ({ d with state := 3 }, [])
 else ({ d with state := 1, cmd := cmd, opBlock := d.block, opFrame := d.frame, opData := if cmd = 2 then zCg mem d.frame else [] },
  [(zEB { d with state := 1, cmd := cmd, opBlock := d.block, opFrame := d.frame, opData := if cmd = 2 then zCg mem d.frame else [] } at_).1])
def zBg (d : DskD) (mem : List Int) (port v at_ : Int) : DskD × List OutD :=
 if port = 4 then ({ d with block := v }, [])
 else if port = 5 then ({ d with frame := v }, [])
 else if port = 6 then
  if v = 1 ∨ v = 2 then zBo d mem v at_
  else if v = 0 ∧ zBj d = true then ({ d with state := 0 }, [])
  else (d, [])
 else (d, [])
def doneD (d : DskD) (n : Int) : DskD := { d with state := if n = 1 then 2 else 3, cmd := 0, opBlock := 0, opFrame := 0, opData := [] }
def zAX (d : DskD) (mem : List Int) (e : EvD) : DskD × List Int × Bool :=
 if d.state ≠ 1 ∨ e.kind ≠ 4 ∨ 1 < e.n then (d, mem, false)
 else if e.n = 1 ∧ d.cmd = 1 then
  if d.opFrame < pagesD mem ∧ e.data.length = 128 then (doneD d e.n, zBW mem d.opFrame e.data, true) else (d, mem, false)
 else if e.data = [] then (doneD d e.n, mem, true) else (d, mem, false)
def zPC (n : NicD) (port : Int) : Int := if port = 7 then n.frame else if port = 8 then n.got else if port = 9 then b2w n.posted + b2w n.received * 2 else 0
def zAd (n : NicD) (mem : List Int) (port v at_ : Int) : NicD × List OutD :=
 if port = 7 then ({ n with frame := v }, [])
 else if port = 8 then ({ n with len := v }, [])
 else if port = 9 then
  if v = 1 then (n, if 1 ≤ n.len ∧ n.len ≤ 128 ∧ n.frame < pagesD mem then [⟨2, at_, 0, (zCg mem n.frame).take n.len.toNat⟩] else [])
  else if v = 2 then (if n.frame < pagesD mem ∧ n.posted = false ∧ n.received = false then { n with posted := true, buffer := n.frame } else n, [])
  else if v = 0 then ({ n with received := false, got := 0 }, [])
  else (n, [])
 else (n, [])
def zAv (n : NicD) (mem : List Int) (s : Str) : NicD × List Int × Bool :=
 if n.posted = true ∧ 1 ≤ s.length ∧ s.length ≤ 128 ∧ n.buffer < pagesD mem then
  ({ n with posted := false, buffer := 0, received := true, got := s.length }, zBW mem n.buffer (s ++ (zCg mem n.buffer).drop s.length), true)
 else (n, mem, false)
def countB (g : Int) : Int := (List.range 32).foldl (fun n i => n + g / 2 ^ i % 2) 0
def zRC (t g port : Int) : Int := if port = 10 then t else if port = 11 then countB g else 0
def zA2 (t g : Int) : Bool := !decide (countB g = t)
def zDv : Str := List.replicate 128 0
def zA1 (g : Int) (mem : List Int) (port v : Int) : Int × List Int :=
 if 32 ≤ v then (g, mem)
 else if port = 10 then
  if v < pagesD mem ∧ g / 2 ^ v.toNat % 2 = 0 then (ior .u32 g (2 ^ v.toNat), zBW mem v zDv) else (g, mem)
 else if port = 11 then (zAQ .u32 g (2 ^ v.toNat), mem)
 else (g, mem)
def zE2 (m : MchD) : Int := b2w m.tim.fired + b2w (!decide (m.keys = [])) * 2 + b2w (zBj m.dk) * 4 + b2w m.nc.received * 8 + b2w (zA2 m.tgt m.given) * 16
def enD (m : MchD) : Int := iand .u32 (zE2 m) (m.cpu.csr 7)
def lowB (e : Int) : Option Int := if e % 2 = 1 then some 0 else if e / 2 % 2 = 1 then some 1 else if e / 4 % 2 = 1 then some 2 else if e / 8 % 2 = 1 then some 3 else if e / 16 % 2 = 1 then some 4 else none
def zHV (m : MchD) : Bool := m.waiting && decide (enD m = 0)
def zE9 (m : MchD) : Bool := mayD m && !m.halted && !zHV m && decide (m.count < 1152921504606846976)
def zAM (m : MchD) : MchD :=
 if m.cpu.csr 0 / 2 % 2 = 0 then { m with waiting := false }
 else match lowB (enD m) with
  | none => { m with waiting := false }
  | some i => { m with waiting := false, cpu := zA8 m.cpu (16 + i) 0 }
def effD (m : MchD) : EffD := (zAs (zAM m).cpu m.mem).2.2
def zG2 (m : MchD) : Bool := zE9 m && (decide ((effD m).kind = 1) && decide ((effD m).port = 2))
def zAp (m : MchD) (port clock : Int) : MchD × Int :=
 if port = 0 ∨ port = 1 then ({ m with keys := (zGa m.keys port).1 }, (zGa m.keys port).2)
 else if port = 2 then (m, clock)
 else if port = 3 then (m, zSq m.tim)
 else if port = 4 ∨ port = 5 ∨ port = 6 then (m, zRK m.dk port)
 else if port = 7 ∨ port = 8 ∨ port = 9 then (m, zPC m.nc port)
 else if port = 10 ∨ port = 11 then (m, zRC m.tgt m.given port)
 else (m, 0)
def zAO (m : MchD) (port v at_ : Int) : MchD × List OutD :=
 if port = 0 then (m, [⟨1, at_, 0, [UInt8.ofNat (v % 256).toNat]⟩])
 else if port = 3 then ({ m with tim := armD v }, [])
 else if port = 4 ∨ port = 5 ∨ port = 6 then ({ m with dk := (zBg m.dk m.mem port v at_).1 }, (zBg m.dk m.mem port v at_).2)
 else if port = 7 ∨ port = 8 ∨ port = 9 then ({ m with nc := (zAd m.nc m.mem port v at_).1 }, (zAd m.nc m.mem port v at_).2)
 else if port = 10 ∨ port = 11 then ({ m with given := (zA1 m.given m.mem port v).1, mem := (zA1 m.given m.mem port v).2 }, [])
 else (m, [])
def zBm (m : MchD) (e : EffD) (clock at_ : Int) : MchD × List OutD :=
 if e.kind = 1 then ({ (zAp m e.port clock).1 with cpu := (zAp m e.port clock).1.cpu.setR e.reg (zAp m e.port clock).2 }, [])
 else if e.kind = 2 then zAO m e.port e.val at_
 else if e.kind = 3 then ({ m with waiting := true }, [])
 else if e.kind = 4 then ({ m with halted := true }, [])
 else (m, [])
def zCK (m : MchD) : MchD := { zAM m with cpu := (zAs (zAM m).cpu m.mem).1, mem := (zAs (zAM m).cpu m.mem).2.1 }
def goD (m : MchD) (clock : Int) : MchD × List OutD :=
 ({ (zBm (zCK m) (effD m) clock m.count).1 with count := (zBm (zCK m) (effD m) clock m.count).1.count + 1 }, (zBm (zCK m) (effD m) clock m.count).2)
def stepD (m : MchD) (clock : Int) : MchD × List OutD := if zE9 m = true then goD m clock else (m, [])
def zAz (m : MchD) (e : EvD) : MchD × Bool :=
 if mayD m = false ∨ m.halted = true then (m, false)
 else if e.kind = 2 then if e.n = 0 ∧ e.data = [] then ({ m with tim := (zHC m.tim).1 }, (zHC m.tim).2) else (m, false)
 else if e.kind = 3 then if e.n ≤ 255 ∧ e.data = [] then ({ m with keys := (zHL m.keys (UInt8.ofNat e.n.toNat)).1 }, (zHL m.keys (UInt8.ofNat e.n.toNat)).2) else (m, false)
 else if e.kind = 4 then ({ m with dk := (zAX m.dk m.mem e).1, mem := (zAX m.dk m.mem e).2.1 }, (zAX m.dk m.mem e).2.2)
 else if e.kind = 5 then if e.n = 0 then ({ m with nc := (zAv m.nc m.mem e.data).1, mem := (zAv m.nc m.mem e.data).2.1 }, (zAv m.nc m.mem e.data).2.2) else (m, false)
 else if e.kind = 6 then if e.data = [] then ({ m with tgt := e.n }, true) else (m, false)
 else (m, false)
theorem sfield (w f low : Nat) (hl : low ≤ 24) (hw : w < 4294967296) (hf : f < 256) :
  ((BitVec.ofNat 32 w &&& ~~~ BitVec.ofNat 32 (255 * 2 ^ low)) ||| BitVec.ofNat 32 (f * 2 ^ low)).toNat = 2 ^ low * (2 ^ 8 * (w / 2 ^ low / 2 ^ 8) + f) + w % 2 ^ low := by
 have hlt : 2 ^ low * (2 ^ 8 * (w / 2 ^ low / 2 ^ 8) + f) + w % 2 ^ low < 2 ^ 32 := by
  have p : 0 < 2 ^ low := Nat.two_pow_pos low
  have d : w / 2 ^ low / 2 ^ 8 < 2 ^ (24 - low) := by
   rw [Nat.div_div_eq_div_mul, ← Nat.pow_add]
   apply Nat.div_lt_of_lt_mul
   rw [← Nat.pow_add, show low + 8 + (24 - low) = 32 by omega]; exact hw
  have e : 2 ^ low * 2 ^ 8 * 2 ^ (24 - low) = 2 ^ 32 := by rw [← Nat.pow_add, ← Nat.pow_add]; congr 1; omega
  have m : w % 2 ^ low < 2 ^ low := Nat.mod_lt _ p
  have q : 2 ^ 8 * (w / 2 ^ low / 2 ^ 8) + f + 1 ≤ 2 ^ 8 * 2 ^ (24 - low) := by omega
  have q2 := Nat.mul_le_mul_left (2 ^ low) q
  rw [← Nat.mul_assoc, e, Nat.mul_add] at q2
  omega
 have h2 : ((BitVec.ofNat 32 w &&& ~~~ BitVec.ofNat 32 (255 * 2 ^ low)) ||| BitVec.ofNat 32 (f * 2 ^ low)) = BitVec.ofNat 32 (2 ^ low * (2 ^ 8 * (w / 2 ^ low / 2 ^ 8) + f) + w % 2 ^ low) := by
  apply BitVec.eq_of_getLsbD_eq
  intro i hi
  have m : w % 2 ^ low < 2 ^ low := Nat.mod_lt _ (Nat.two_pow_pos low)
  simp only [BitVec.getLsbD_or, BitVec.getLsbD_and, BitVec.getLsbD_not, BitVec.getLsbD_ofNat, hi, decide_true, Bool.true_and]
  rw [Nat.testBit_two_pow_mul_add _ m, Nat.testBit_two_pow_mul_add _ (show f < 2 ^ 8 from hf), Nat.mul_comm 255, Nat.mul_comm f]
  rw [show (255 : Nat) = 2 ^ 8 - 1 from rfl, Nat.testBit_two_pow_mul, Nat.testBit_two_pow_mul, Nat.testBit_two_pow_sub_one, Nat.testBit_mod_two_pow, Nat.testBit_div_two_pow, Nat.testBit_div_two_pow]
  by_cases h1 : i < low
  ·simp [h1, show ¬ low ≤ i by omega]
  ·by_cases h3 : i - low < 8
   ·simp [h1, h3, show low ≤ i by omega]
   ·have e : low + (8 + (i - low - 8)) = i := by omega
    have hf2 : f.testBit (i - low) = false := Nat.testBit_lt_two_pow (Nat.lt_of_lt_of_le (show f < 2 ^ 8 from hf) (Nat.pow_le_pow_right (by decide) (by omega)))
    simp [h1, h3, show low ≤ i by omega, hf2]
    try (congr 1; omega)
 rw [h2, BitVec.toNat_ofNat, Nat.mod_eq_of_lt hlt]
theorem zP6 (x k : Nat) : x &&& 2 ^ k = x / 2 ^ k % 2 * 2 ^ k := by
 apply Nat.eq_of_testBit_eq
 intro i
 rw [Nat.testBit_and, Nat.testBit_two_pow, Nat.testBit_mul_two_pow]
 by_cases h : k = i
 ·subst h
  rcases Nat.mod_two_eq_zero_or_one (x / 2 ^ k) with h | h <;> simp [Nat.testBit_eq_decide_div_mod_eq, h]
 ·simp only [h, decide_false, Bool.and_false]
  by_cases h2 : k ≤ i
  ·have h3 : 1 ≤ i - k := by omega
   rcases Nat.mod_two_eq_zero_or_one (x / 2 ^ k) with q | q
   ·simp [q]
   ·rw [q, Nat.testBit_lt_two_pow (Nat.lt_of_lt_of_le (show 1 < 2 ^ 1 by decide) (Nat.pow_le_pow_right (by decide) h3))]; simp
  ·simp [h2]
theorem zCE {n : Nat} (h : n < 4294967296) : IntKind.u32.wrap (n : Int) = n := by rw [IntKind.wrap_u32]; omega
theorem zDU (x : Int) (k : Nat) (h : W32 x) (hk : k < 32) : iand .u32 x ((2 ^ k : Nat) : Int) = x / ((2 ^ k : Nat) : Int) % 2 * ((2 ^ k : Nat) : Int) := by
 obtain ⟨n, rfl⟩ := Int.eq_ofNat_of_zero_le h.1
 have p : 2 ^ k < 2 ^ 32 := Nat.pow_lt_pow_right (by decide) hk
 have hn : n < 4294967296 := by have := h.2; omega
 have e : (BitVec.ofInt 32 (n : Int) &&& BitVec.ofInt 32 ((2 ^ k : Nat) : Int)).toNat = n / 2 ^ k % 2 * 2 ^ k := by
  have hb : ∀ m : Nat, BitVec.ofInt 32 (m : Int) = BitVec.ofNat 32 m := fun m => by simp
  rw [hb n, hb (2 ^ k), BitVec.toNat_and, BitVec.toNat_ofNat, BitVec.toNat_ofNat, Nat.mod_eq_of_lt (show n < 2 ^ 32 from hn), Nat.mod_eq_of_lt p, zP6]
 unfold iand
 rw [show IntKind.u32.bits = 32 from rfl, e, zCE]
 ·push_cast; rfl
 ·have : n / 2 ^ k % 2 < 2 := Nat.mod_lt _ (by decide)
  rcases Nat.mod_two_eq_zero_or_one (n / 2 ^ k) with q | q <;> rw [q] <;> omega
theorem zO7 {x : Int} (h : W32 x) : iand .u32 x 1 = x % 2 := by have := zDU x 0 h (by decide); simpa using this
theorem zTO {x : Int} (h : W32 x) : iand .u32 x 2 = x / 2 % 2 * 2 := zDU x 1 h (by decide)
theorem iand4 {x : Int} (h : W32 x) : iand .u32 x 4 = x / 4 % 2 * 4 := zDU x 2 h (by decide)
theorem zPA {x : Int} (h : W32 x) (k : Nat) (hk : k < 32) : (iand .u32 x (2 ^ k) = 0) = (x / 2 ^ k % 2 = 0) := by
 have e := zDU x k h hk
 push_cast at e
 rw [e]
 have p : (0 : Int) < 2 ^ k := Int.pow_pos (by decide)
 apply propext
 constructor
 ·intro q
  rcases Int.mul_eq_zero.1 q with q | q
  ·exact q
  ·omega
 ·intro q; rw [q]; simp
theorem zFS (w v l : Nat) (hl : l ≤ 24) (hw : w < 4294967296) (hf : v < 256) :
  ior .u32 (zAQ .u32 (w : Int) ((255 * 2 ^ l : Nat) : Int)) ((v * 2 ^ l : Nat) : Int) = ((2 ^ l * (2 ^ 8 * (w / 2 ^ l / 2 ^ 8) + v) + w % 2 ^ l : Nat) : Int) := by
 have hb : ∀ m : Nat, BitVec.ofInt 32 (m : Int) = BitVec.ofNat 32 m := fun m => by simp
 have hx : ∀ b : BitVec 32, BitVec.ofInt 32 (IntKind.u32.wrap (b.toNat : Int)) = b := fun b => by
  rw [zCE (by have := b.isLt; omega), hb]; simp
 unfold ior zAQ
 rw [show IntKind.u32.bits = 32 from rfl, hx, hb w, hb (255 * 2 ^ l), hb (v * 2 ^ l)]
 rw [← sfield w v l hl hw hf, zCE (by have := (BitVec.isLt (BitVec.ofNat 32 w &&& ~~~BitVec.ofNat 32 (255 * 2 ^ l) ||| BitVec.ofNat 32 (v * 2 ^ l))); omega)]
theorem setB (w v k : Int) (h : W32 w) (hk : k = 0 ∨ k = 1 ∨ k = 2 ∨ k = 3) : ior .u32 (zAQ .u32 w (255 * 2 ^ (8 * k).toNat)) (v % 256 * 2 ^ (8 * k).toNat) = putB w k v := by
 obtain ⟨n, rfl⟩ := Int.eq_ofNat_of_zero_le h.1
 obtain ⟨f, hf⟩ := Int.eq_ofNat_of_zero_le (show 0 ≤ v % 256 by omega)
 have hn : n < 4294967296 := by have := h.2; omega
 unfold putB byteAt
 rw [hf]
 rcases hk with rfl | rfl | rfl | rfl
 ·have e := zFS n f 0 (by decide) hn (by omega)
  simp at e ⊢; rw [e]; omega
 ·have e := zFS n f 8 (by decide) hn (by omega)
  simp at e ⊢; rw [e]; omega
 ·have e := zFS n f 16 (by decide) hn (by omega)
  simp at e ⊢; rw [e]; omega
 ·have e := zFS n f 24 (by decide) hn (by omega)
  simp at e ⊢; rw [e]; omega
theorem putB_w {w v k : Int} (h : W32 w) (hk : k = 0 ∨ k = 1 ∨ k = 2 ∨ k = 3) : W32 (putB w k v) := by
 unfold putB byteAt
 have := h.1; have := h.2
 rcases hk with rfl | rfl | rfl | rfl <;> constructor <;> simp <;> omega
def zFD (s f t : Int) : Int := if iand .u32 s f = 0 then zAQ .u32 s t else ior .u32 s t
theorem trap32 : ∀ k : Fin 32, zAQ .u32 (ior .u32 (zFD (zFD (k.val : Int) 1 8) 2 16) 1) 2 = zIm (k.val : Int) := by decide +kernel
theorem ret32 : ∀ k : Fin 32, zFD (zFD (k.val : Int) 8 1) 16 2 = retS (k.val : Int) := by decide +kernel
theorem trap_s {s : Int} (h0 : 0 ≤ s) (h1 : s ≤ 31) : zAQ .u32 (ior .u32 (zFD (zFD s 1 8) 2 16) 1) 2 = zIm s := by
 have h := trap32 ⟨s.toNat, by omega⟩
 rwa [show ((⟨s.toNat, by omega⟩ : Fin 32).val : Int) = s by simp; omega] at h
theorem ret_s {s : Int} (h0 : 0 ≤ s) (h1 : s ≤ 31) : zFD (zFD s 8 1) 16 2 = retS s := by
 have h := ret32 ⟨s.toNat, by omega⟩
 rwa [show ((⟨s.toNat, by omega⟩ : Fin 32).val : Int) = s by simp; omega] at h
theorem zM9 (s : Int) : 0 ≤ zIm s ∧ zIm s ≤ 31 := by unfold zIm; omega
theorem zRu (s : Int) : 0 ≤ retS s ∧ retS s ≤ 31 := by unfold retS; omega
abbrev OkW (l : List Int) : Prop := ∀ w ∈ l, W32 w
theorem zMQ {l : List Int} (h : OkW l) (a : Int) : W32 (wAt l a) := by
 unfold wAt
 by_cases hi : a.toNat < l.length
 ·rw [List.getD_eq_getElem?_getD, List.getElem?_eq_getElem hi]; exact h _ (List.getElem_mem hi)
 ·rw [List.getD_eq_getElem?_getD, List.getElem?_eq_none (by omega)]; exact ⟨by decide, by decide⟩
theorem zS4 {l : List Int} (h : OkW l) {n : Nat} {v : Int} (hv : W32 v) : OkW (l.set n v) := by
 intro w hw
 rcases List.mem_or_eq_of_mem_set hw with q | q
 ·exact h w q
 ·rw [q]; exact hv
theorem zAf (l : List Int) : 0 ≤ pagesD l ∧ pagesD l ≤ 32 := by
 unfold pagesD
 split
 ·rw [zAC (by omega) (by omega)]; omega
 ·omega
theorem zCk {l : List Int} (h : pagesD l ≠ 0) : (l.length : Int) = pagesD l * 32 ∧ l.length ≤ 1024 := by
 unfold pagesD at h ⊢
 split
 ·rename_i q
  have e : (l.length : Int).tmod 32 = (l.length : Int) % 32 := Int.tmod_eq_emod_of_nonneg (by omega)
  rw [e] at q
  rw [zAC (by omega) (by omega)]; omega
 ·rename_i q; simp [q] at h
theorem zBr (x : Int) : iand .u32 x 255 = x % 256 := zBD x 8 256 (by omega) (by decide)
theorem u64_in {n : Int} (h0 : 0 ≤ n) (h1 : n < 18446744073709551616) : IntKind.u64.wrap n = n := by rw [IntKind.wrap_u64]; omega
theorem u32_in {n : Int} (h0 : 0 ≤ n) (h1 : n < 4294967296) : IntKind.u32.wrap n = n := by rw [IntKind.wrap_u32]; omega
theorem u32c (n : Int) (h : (0 ≤ n ∧ n < 4294967296) = True) : IntKind.u32.wrap n = n := u32_in (of_eq_true h).1 (of_eq_true h).2
theorem u64c (n : Int) (h : (0 ≤ n ∧ n < 18446744073709551616) = True) : IntKind.u64.wrap n = n := u64_in (of_eq_true h).1 (of_eq_true h).2
theorem i64c (n : Int) (h : (-9223372036854775808 ≤ n ∧ n ≤ 9223372036854775807) = True) : IntKind.i64.wrap n = n := zAC (of_eq_true h).1 (of_eq_true h).2
theorem zN4 {a : Int} (h : W32 a) : IntKind.u32.wrap (a.tdiv 4) = a / 4 := by rw [Int.tdiv_eq_ediv_of_nonneg h.1, IntKind.wrap_u32]; have := h.1; have := h.2; omega
theorem zIX {a : Int} (h : 0 ≤ a) : a.tmod 4 = a % 4 := Int.tmod_eq_emod_of_nonneg h
theorem zD4 (w low : Int) (h0 : 0 ≤ low) (h1 : low ≤ 31) : zAD Tryz.prog 293 [uv w, iv low, iv 8] (uv (w / 2 ^ low.toNat % 256)) := by
 have e1 : IntKind.u64.wrap low = low := u64_in h0 (by omega)
 have e2 : iand .u32 (w.fdiv (2 ^ min low.toNat 32)) 255 = w / 2 ^ low.toNat % 256 := by
  rw [zBr, Nat.min_eq_left (by omega), Int.fdiv_eq_ediv_of_nonneg _ (Int.le_of_lt (Int.pow_pos (by decide)))]
 refine sZ Tryz.func293 Tryz.ntmps293 ?_
 exact wx1 (qX1 (zCV)) trivial (kX2 @e1 @e2)
theorem zSe (w k v : Int) (hw : W32 w) (hk : k = 0 ∨ k = 1 ∨ k = 2 ∨ k = 3) : zAD Tryz.prog 322 [uv w, iv (k * 8), iv 8, uv v] (uv (putB w k v)) := by
 have e2 := setB w v k hw hk
 rcases hk with rfl | rfl | rfl | rfl
 all_goals simp at e2
 ·have e3 : IntKind.u32.wrap (v % 256) = v % 256 := u32_in (by omega) (by omega)
  refine sZ Tryz.func322 Tryz.ntmps322 ?_
  exact wx1 (qX1 (zCV)) trivial (kX4 @zBr @e2 @e3 @u32c)
 ·have e3 : IntKind.u32.wrap (v % 256 * 256) = v % 256 * 256 := u32_in (by omega) (by omega)
  refine sZ Tryz.func322 Tryz.ntmps322 ?_
  exact wx1 (qX1 (zCV)) trivial (kX4 @zBr @e2 @e3 @u32c)
 ·have e3 : IntKind.u32.wrap (v % 256 * 65536) = v % 256 * 65536 := u32_in (by omega) (by omega)
  refine sZ Tryz.func322 Tryz.ntmps322 ?_
  exact wx1 (qX1 (zCV)) trivial (kX4 @zBr @e2 @e3 @u32c)
 ·have e3 : IntKind.u32.wrap (v % 256 * 16777216) = v % 256 * 16777216 := u32_in (by omega) (by omega)
  refine sZ Tryz.func322 Tryz.ntmps322 ?_
  exact wx1 (qX1 (zCV)) trivial (kX4 @zBr @e2 @e3 @u32c)
theorem zG7 (l : List Int) (a s : Int) (hs : s = 1 ∨ s = 4) (ha : W32 a) : zAD Tryz.prog 319 [memV l, uv a, iv s] (.bool (zAU l a s)) := by
 have e1 : IntKind.u64.wrap a = a := u64_in ha.1 (by have := ha.2; omega)
 have e2 : IntKind.u64.wrap (pagesD l) = pagesD l := u64_in (zAf l).1 (by have := zAf l; omega)
 have e3 : IntKind.u64.wrap (pagesD l * 128) = pagesD l * 128 := u64_in (by have := zAf l; omega) (by have := zAf l; omega)
 have e4 : IntKind.u64.wrap (a + s) = a + s := u64_in (by have := ha.1; omega) (by have := ha.2; omega)
 have e5 := zIX ha.1
 rcases hs with rfl | rfl
 ·refine sZ Tryz.func319 Tryz.ntmps319 ?_
  exact wx1 (qX1 (zBS l)) trivial (kX8 @e1 @e2 @e3 @e4 @e5 @zAU.eq_1 @u32c @u64c)
 ·refine sZ Tryz.func319 Tryz.ntmps319 ?_
  exact wx1 (qX1 (zBS l)) trivial (kX8 @e1 @e2 @e3 @e4 @e5 @zAU.eq_1 @u32c @u64c)
theorem zCF {l : List Int} {a s : Int} (h : zAU l a s = true) (ha : 0 ≤ a) : (a / 4).toNat < l.length := by
 unfold zAU at h
 simp only [Bool.and_eq_true, Bool.or_eq_true, decide_eq_true_eq] at h
 have hp : pagesD l ≠ 0 := by
  intro q
  rw [q] at h
  omega
 have := zCk hp
 omega
theorem zB7 {k : IntKind} {l : List Int} {n : Nat} {w : Int} (h : l[n]? = some w) : (ints k l)[n]? = some [.int k w] := by simp [ints, h]
theorem zGC {l : List Int} {a : Int} (h : a.toNat < l.length) : l[a.toNat]? = some (wAt l a) := by
 unfold wAt; rw [List.getD_eq_getElem?_getD, List.getElem?_eq_getElem h]; rfl
theorem ints_set (k : IntKind) (l : List Int) (n : Nat) (v : Int) : (ints k l).set n [.int k v] = ints k (l.set n v) := by simp [ints, List.map_set]
theorem zAL {k : IntKind} {l : List Int} : ∀ x : List V, x ∈ ints k l → ∀ c : V, c ∈ x → noX1 c = true := by
 intro x hx c hc
 simp only [ints, List.mem_map] at hx
 obtain ⟨n, _, rfl⟩ := hx
 simp only [List.mem_singleton] at hc
 subst hc
 rfl
theorem zPE (w a : Int) : w / 2 ^ (a % 4 * 8).toNat % 256 = byteAt w (a % 4) := by rw [Int.mul_comm]; rfl
theorem zDx (l : List Int) (a s : Int) (hs : s = 1 ∨ s = 4) (ha : W32 a) : zAD Tryz.prog 292 [memV l, uv a, iv s] (.tup [uv (if zAU l a s = true then zBl l a s else 0), .bool (zAU l a s)]) := by
 have hW := zG7 l a s hs ha
 cases hw : zAU l a s with
 | false =>
  rw [hw] at hW
  refine sZ Tryz.func292 Tryz.ntmps292 ?_
  exact wx (qX1 (hW)) trivial
 | true =>
  rw [hw] at hW
  have hi := zCF hw ha.1
  have e1 := zN4 ha
  obtain ⟨w, hw'⟩ : ∃ w, w = wAt l (a / 4) := ⟨_, rfl⟩
  have e2 := zB7 (k := .u32) (zGC hi)
  rw [← hw'] at e2
  have hw2 := hw'.symm
  have e3 := zAP .u32 l
  have e4 := zIX ha.1
  have e5 : IntKind.i64.wrap (a % 4) = a % 4 := zAC (by omega) (by omega)
  have e6 : IntKind.i64.wrap (a % 4 * 8) = a % 4 * 8 := zAC (by omega) (by omega)
  have e7 : (0 : Int) ≤ a / 4 := by have := ha.1; omega
  have e8 : a / 4 < (l.length : Int) := by omega
  rcases hs with rfl | rfl
  ·refine sZ Tryz.func292 Tryz.ntmps292 ?_
   exact wx1 (qX2 (hW) (zD4 w (a % 4 * 8) (by omega) (by omega))) trivial (kX9 @e1 @e2 @e3 @e4 @e5 @e6 @zPE @zBl.eq_1 @hw2)
  ·refine sZ Tryz.func292 Tryz.ntmps292 ?_
   exact wx1 (qX1 (hW)) trivial (kX6 @e1 @e2 @e3 @e4 @zBl.eq_1 @hw2)
theorem zGH (l : List Int) (a s v : Int) (hs : s = 1 ∨ s = 4) (ha : W32 a) (hl : OkW l) (hb : l.length ≤ 100000) : zAD Tryz.prog 299 [memV l, uv a, iv s, uv v] (.tup [memV (if zAU l a s = true then zCL l a s v else l), .bool (zAU l a s)]) := by
 have hW := zG7 l a s hs ha
 have e3 := zAP .u32 l
 cases hw : zAU l a s with
 | false =>
  rw [hw] at hW
  refine sZ Tryz.func299 Tryz.ntmps299 ?_
  exact wx (qX1 (hW)) (qX1 (zBQ (ints .u32 l) false 1 (.inl rfl) (by rw [e3]; exact hb)))
 | true =>
  rw [hw] at hW
  have hi := zCF hw ha.1
  have e1 := zN4 ha
  obtain ⟨w, hw'⟩ : ∃ w, w = wAt l (a / 4) := ⟨_, rfl⟩
  have e2 := zB7 (k := .u32) (zGC hi)
  rw [← hw'] at e2
  have hw2 := hw'.symm
  have e4 := zIX ha.1
  have e5 : IntKind.i64.wrap (a % 4) = a % 4 := zAC (by omega) (by omega)
  have e6 : IntKind.i64.wrap (a % 4 * 8) = a % 4 * 8 := zAC (by omega) (by omega)
  have e7 : (0 : Int) ≤ a / 4 := by have := ha.1; omega
  have e8 : a / 4 < (l.length : Int) := by omega
  rcases hs with rfl | rfl
  ·refine sZ Tryz.func299 Tryz.ntmps299 ?_
   exact wx1 (qX2 (hW) (zSe w (a % 4) v (by rw [hw']; exact zMQ hl _) (by omega))) (qX1 (zBQ (ints .u32 l) false 1 (.inl rfl) (by rw [e3]; exact hb))) (kX9 @e1 @e2 @e3 @e4 @e5 @e6 @ints_set @zCL.eq_1 @hw2)
  ·refine sZ Tryz.func299 Tryz.ntmps299 ?_
   exact wx1 (qX1 (hW)) (qX1 (zBQ (ints .u32 l) false 1 (.inl rfl) (by rw [e3]; exact hb))) (kX7 @e1 @e2 @e3 @e4 @ints_set @zCL.eq_1 @hw2)
theorem u8_of (w : Int) : ((UInt8.ofNat (w % 256).toNat).toNat : Int) = IntKind.u8.wrap w := by rw [UInt8.toNat_ofNat', IntKind.wrap_u8]; omega
theorem zLu (w : Int) : zAR (zDA w) = [[.int .u8 (IntKind.u8.wrap w)], [.int .u8 (IntKind.u8.wrap (w / 256))], [.int .u8 (IntKind.u8.wrap (w / 65536))], [.int .u8 (IntKind.u8.wrap (w / 16777216))]] := by
 simp only [zAR, zDA, List.map_cons, List.map_nil, u8_of]
@[simp] theorem bytesX_nil : zAR [] = [] := rfl
@[simp] theorem putW_zero (l : List Int) (o : Nat) (s : Str) : putW l o s 0 = l := rfl
theorem zLY (a b : Str) : zAR (a ++ b) = zAR a ++ zAR b := by simp [zAR]
theorem zO0 (l : List Int) : (l.flatMap zDA).length = 4 * l.length := by
 induction l with
 | nil => rfl
 | cons a r ih => rw [List.flatMap_cons, List.length_append, ih]; simp [zDA]; omega
theorem zMH (x : Int) : x.fdiv 256 = x / 256 := Int.fdiv_eq_ediv_of_nonneg _ (by decide)
theorem zEZ (x : Int) : x.fdiv 65536 = x / 65536 := Int.fdiv_eq_ediv_of_nonneg _ (by decide)
theorem zBu (x : Int) : x.fdiv 16777216 = x / 16777216 := Int.fdiv_eq_ediv_of_nonneg _ (by decide)
theorem zS1 (l : List Int) (hb : l.length ≤ 1024) : zAD Tryz.prog 284 [memV l] (.str (l.flatMap zDA)) := by
 have e3 := zAP .u32 l
 have w1 : IntKind.i64.wrap (4 * (l.length : Int)) = 4 * l.length := zAC (by omega) (by omega)
 have hb0 : zAR [] = [] := rfl
 refine sY Tryz.func284 Tryz.ntmps284 (kX3 @e3 @w1 @maxLen.eq_1) ?_;intros;refine wr ?_
 obtain ⟨I, hI⟩ : ∃ I : Nat → St → Prop, I = (fun kk ss => ∃ (i : Nat) (x : Str), i ≤ l.length ∧ kk = l.length - i ∧ (x = (l.take i).flatMap zDA ∧ x.length = 4 * i) ∧ ss = ⟨33, [(12, .int .i64 i), (11, .int .i64 l.length), (10, memV l), (3, .own 0)], 1, [(0, some ⟨5, 1, false, false, zAR x⟩)], 0⟩) := ⟨_, rfl⟩
 refine lX I (id) (by rw [hI]; exact ⟨0, [], by simp, rfl, ⟨by simp, rfl⟩, rfl⟩) ?_
 intro kk ss hIk _
 rw [hI] at hIk
 obtain ⟨i, x, hi, rfl, hx, rfl⟩ := hIk
 obtain ⟨hx1, hx2⟩ := hx
 refine au ?_;intros;refine wr ?_
 refine zAA rfl (fun hh => ?_) (fun hh => ?_)
 ·simp at hh
  obtain ⟨w, hw⟩ : ∃ w, l[i]? = some w := ⟨_, List.getElem?_eq_getElem hh⟩
  have hget := zB7 (k := .u32) hw
  have hnx : (l.take (i + 1)).flatMap zDA = x ++ zDA w := by
   rw [List.take_add_one, hw, List.flatMap_append, ← hx1]
   simp
  have hrow : zAR (x ++ zDA w) = zAR x ++ [[.int .u8 (IntKind.u8.wrap w)], [.int .u8 (IntKind.u8.wrap (w / 256))], [.int .u8 (IntKind.u8.wrap (w / 65536))], [.int .u8 (IntKind.u8.wrap (w / 16777216))]] := by rw [zLY, zLu]
  have hbl : (zAR x).length = 4 * i := by simp [zAR, hx2]
  refine au1 (kX7 @hget @hbl @zMH @zEZ @zBu @e3 @maxLen.eq_1) ?_;intros;refine wr ?_
  exact aX (fun x => if x = 0 then 2 else x) (by rw [hI]; exact ⟨i + 1, (x ++ zDA w), by omega, rfl, ⟨hnx.symm, by rw [List.length_append, hx2]; rfl⟩, rfl⟩) (kX2 (zAC (n := (i : Int) + 1) (by omega) (by omega)) @hrow)
 ·simp at hh
  have hi : l.take i = l := List.take_of_length_le (by omega)
  rw [hi] at hx1
  refine au1 (zEj x) ?_;intros;refine wr ?_
  refine zAB ?_
  simp [hx1, zEo]
theorem zEh (l : List Int) (f : Int) : zAD Tryz.prog 283 [memV l, iv f] (.bool (decide (0 ≤ f) && decide (f < pagesD l))) := by
 refine sZ Tryz.func283 Tryz.ntmps283 ?_
 exact wx (qX1 (zBS l)) trivial
theorem zSZ (l : List Int) (a b : Nat) : ((ints .u32 l).take a).drop b = ints .u32 ((l.take a).drop b) := by simp [ints, List.map_take, List.map_drop]
theorem zKU {l : List Int} {f : Int} (h0 : 0 ≤ f) (h1 : f < pagesD l) : ((l.take (f * 32 + 32).toNat).drop (f * 32).toNat).length = 32 := by
 have := zCk (l := l) (by omega)
 simp only [List.length_drop, List.length_take]; omega
theorem zJQ (l : List Int) (f : Int) (h0 : 0 ≤ f) (h1 : f < pagesD l) : zAD Tryz.prog 226 [memV l, iv f] (.tup [.str (zCg l f), .bool true]) := by
 have hp := zAf l
 have hl := zCk (l := l) (by omega)
 have e3 := zAP .u32 l
 have hh := zEh l f
 rw [show (decide (0 ≤ f) && decide (f < pagesD l)) = true by simp [h0, h1]] at hh
 have w1 : IntKind.i64.wrap (f * 32) = f * 32 := zAC (by omega) (by omega)
 have w2 : IntKind.i64.wrap (f * 32 + 32) = f * 32 + 32 := zAC (by omega) (by omega)
 have ht := zS1 ((l.take (f * 32 + 32).toNat).drop (f * 32).toNat) (by rw [zKU h0 h1]; omega)
 refine sZ Tryz.func226 Tryz.ntmps226 ?_
 exact wx1 (qX2 (hh) (ht)) trivial (kX5 @e3 @w1 @w2 @zSZ @zCg.eq_1)
theorem zHZ (a b : Int) : ior .u32 a b = ior .u32 b a := by unfold ior; rw [BitVec.or_comm]
theorem or4 (a b c d : UInt8) : ior .u32 (ior .u32 (ior .u32 (a.toNat : Int) ((b.toNat : Int) * 256)) ((c.toNat : Int) * 65536)) ((d.toNat : Int) * 16777216) = (a.toNat : Int) + b.toNat * 256 + c.toNat * 65536 + d.toNat * 16777216 := by
 have := a.toNat_lt; have := b.toNat_lt; have := c.toNat_lt; have := d.toNat_lt
 have q1 : ior .u32 (a.toNat : Int) ((b.toNat : Int) * 256) = (b.toNat : Int) * 256 + a.toNat := by
  rw [zHZ]; exact zJt _ _ 8 (by omega) (by omega) (by omega) (by omega) (by omega) (by omega)
 have q2 : ior .u32 ((b.toNat : Int) * 256 + a.toNat) ((c.toNat : Int) * 65536) = (c.toNat : Int) * 65536 + ((b.toNat : Int) * 256 + a.toNat) := by
  rw [zHZ]; exact zJt _ _ 16 (by omega) (by omega) (by omega) (by omega) (by omega) (by omega)
 have q3 : ior .u32 ((c.toNat : Int) * 65536 + ((b.toNat : Int) * 256 + a.toNat)) ((d.toNat : Int) * 16777216) = (d.toNat : Int) * 16777216 + ((c.toNat : Int) * 65536 + ((b.toNat : Int) * 256 + a.toNat)) := by
  rw [zHZ]; exact zJt _ _ 24 (by omega) (by omega) (by omega) (by omega) (by omega) (by omega)
 rw [q1, q2, q3]; omega
theorem zRo (a : UInt8) : IntKind.u32.wrap (a.toNat : Int) = a.toNat := by have := a.toNat_lt; rw [IntKind.wrap_u32]; omega
theorem zS7 (a : UInt8) : IntKind.u32.wrap ((a.toNat : Int) * 256) = (a.toNat : Int) * 256 := by have := a.toNat_lt; rw [IntKind.wrap_u32]; omega
theorem zR7 (a : UInt8) : IntKind.u32.wrap ((a.toNat : Int) * 65536) = (a.toNat : Int) * 65536 := by have := a.toNat_lt; rw [IntKind.wrap_u32]; omega
theorem zSg (a : UInt8) : IntKind.u32.wrap ((a.toNat : Int) * 16777216) = (a.toNat : Int) * 16777216 := by have := a.toNat_lt; rw [IntKind.wrap_u32]; omega
theorem zKu (l : List Int) (o : Nat) (s : Str) (n : Nat) : (putW l o s n).length = l.length := by
 induction n with
 | zero => rfl
 | succ n ih => rw [putW, List.length_set, ih]
theorem zEX (l : List Int) (f : Int) (s : Str) (h0 : 0 ≤ f) (h1 : f < pagesD l) (hs : s.length = 128) : zAD Tryz.prog 224 [memV l, iv f, .str s] (.tup [memV (zBW l f s), .bool true]) := by
 have hp := zAf l
 have hl := zCk (l := l) (by omega)
 have e3 := zAP .u32 l
 have hh := zEh l f
 rw [show (decide (0 ≤ f) && decide (f < pagesD l)) = true by simp [h0, h1]] at hh
 have w1 : IntKind.i64.wrap (f * 32) = f * 32 := zAC (by omega) (by omega)
 have hcl := zBQ (ints .u32 l) false 1 (.inl rfl) (by rw [e3]; omega)
 refine sX Tryz.func224 Tryz.ntmps224 ?_;intros;refine wr ?_
 first | refine .inl ⟨1, _, hcl, ?_⟩ | refine ⟨1, _, hcl, ?_⟩
 simp [aftC, noX, noXc, noX1]
 first | refine And.intro zAL ?_ | skip
 refine au ?_;intros;refine wr ?_
 refine cZ (hh) @hs @hs ?_;intros;refine wr ?_
 refine gF11 @hs rfl @w1 ?_;intros;refine wr ?_
 obtain ⟨I, hI⟩ : ∃ I : Nat → St → Prop, I = (fun kk ss => ∃ (i : Nat) , i ≤ 32 ∧ kk = 32 - i ∧ (True) ∧ ss = ⟨61, [(26, .int .i64 i), (2, .str s), (8, .own 0), (9, .int .i64 (f * 32))], 1, [(0, some ⟨25, 1, false, false, ints .u32 (putW l (f * 32).toNat s i)⟩)], 0⟩) := ⟨_, rfl⟩
 refine lX I (id) (by rw [hI]; exact ⟨0, by simp, rfl, trivial, rfl⟩) ?_
 intro kk ss hIk _
 rw [hI] at hIk
 obtain ⟨i, hi, rfl, hx, rfl⟩ := hIk
 refine au ?_;intros;refine wr ?_
 refine zAA rfl (fun hi => ?_) (fun hi => ?_)
 ·simp at hi
  have g1 : IntKind.i64.wrap (4 * (i : Int)) = 4 * i := zAC (by omega) (by omega)
  have g2 : IntKind.i64.wrap (4 * (i : Int) + 4) = 4 * i + 4 := zAC (by omega) (by omega)
  have g3 : (4 * (i : Int)).toNat = 4 * i := by omega
  have g4 : (4 * (i : Int) + 4).toNat = 4 * i + 4 := by omega
  have g5 : IntKind.i64.wrap (f * 32 + i) = f * 32 + i := zAC (by omega) (by omega)
  have g6 : (f * 32 + (i : Int)).toNat = (f * 32).toNat + i := by omega
  obtain ⟨a, b, c, d, hq⟩ : ∃ a b c d, (s.take (4 * i + 4)).drop (4 * i) = [a, b, c, d] := by
   have hlen : ((s.take (4 * i + 4)).drop (4 * i)).length = 4 := by simp; omega
   match (s.take (4 * i + 4)).drop (4 * i), hlen with
   | [a, b, c, d], _ => exact ⟨a, b, c, d, rfl⟩
  have hk : ∀ k, k < 4 → s.getD (4 * i + k) 0 = [a, b, c, d].getD k 0 := fun k hk => by
   rw [← hq, List.getD_eq_getElem?_getD, List.getD_eq_getElem?_getD, List.getElem?_drop, List.getElem?_take, if_pos (by omega)]
  have hw4 : zJ4 s i = (a.toNat : Int) + b.toNat * 256 + c.toNat * 65536 + d.toNat * 16777216 := by
   unfold zJ4
   rw [show s.getD (4 * i) 0 = a from hk 0 (by omega), hk 1 (by omega), hk 2 (by omega), hk 3 (by omega)]
   rfl
  have hpl := zKu l (f * 32).toNat s i
  have hpl' := zAP .u32 (putW l (f * 32).toNat s i)
  obtain ⟨w0, hw0⟩ : ∃ w0, (putW l (f * 32).toNat s i)[(f * 32).toNat + i]? = some w0 := ⟨_, List.getElem?_eq_getElem (by omega)⟩
  have hw1 := zB7 (k := .u32) hw0
  have hset := ints_set .u32 (putW l (f * 32).toNat s i) ((f * 32).toNat + i) (zJ4 s i)
  rw [show (putW l (f * 32).toNat s i).set ((f * 32).toNat + i) (zJ4 s i) = putW l (f * 32).toNat s (i + 1) from rfl, hw4] at hset
  have hor := or4 a b c d
  refine au1 (kX6 @g1 @g2 @g3 @g4 @hs @hq) ?_;intros;refine wr ?_
  refine zAE ([0, 1, 2, 3, 4, 5, 6, 7, 8, 9, 10, 11, 12, 13, 14, 15, 16, 17, 18, 19, 20, 21, 22, 23] : List Nat) ([[], [], [], [1, 2], [], [4], [4, 5], [], [7], [7, 8], [7, 8, 9], [4, 5, 6, 7, 8, 9, 10], [], [12], [12, 13], [12, 13, 14], [4, 5, 6, 7, 8, 9, 10, 11, 12, 13, 14, 15], [], [17], [17, 18], [17, 18, 19], [4, 5, 6, 7, 8, 9, 10, 11, 12, 13, 14, 15, 16, 17, 18, 19, 20], [0, 1, 2, 3, 4, 5, 6, 7, 8, 9, 10, 11, 12, 13, 14, 15, 16, 17, 18, 19, 20, 21], [0, 1, 2, 3, 4, 5, 6, 7, 8, 9, 10, 11, 12, 13, 14, 15, 16, 17, 18, 19, 20, 21, 22]] : List (List Nat)) ([(22, ([[], [], [], [1, 2], [], [4], [4, 5], [], [7], [7, 8], [7, 8, 9], [4, 5, 6, 7, 8, 9, 10], [], [12], [12, 13], [12, 13, 14], [4, 5, 6, 7, 8, 9, 10, 11, 12, 13, 14, 15], [], [17], [17, 18], [17, 18, 19], [4, 5, 6, 7, 8, 9, 10, 11, 12, 13, 14, 15, 16, 17, 18, 19, 20]], [])), (1, ([], [])), (1, ([], []))] : List (Nat × List (List Nat) × List (Nat × Nat))) (by kernel_rfl) (by kernel_rfl) (by kernel_rfl) ?_
  refine af1 (kX11 @g5 @g6 @hpl @hpl' @hor @zRo @zS7 @zR7 @zSg @hw1 @hset) ?_;intros;refine wr ?_
  refine af ?_;intros;refine wr ?_
  exact aX (id) (by rw [hI]; exact ⟨i + 1, by omega, rfl, trivial, rfl⟩) (kX3 (zAC (n := (i : Int) + 1) (by omega) (by omega)) @hw1 @hset)
 ·simp at hi
  refine af ?_;intros;refine wr ?_
  refine zAI ?_
  refine zAB ?_
  simp
  have e : i = 32 := by omega
  subst e
  rfl
theorem zCf (l : List Int) (f : Int) (h : W32 f) : zAD Tryz.prog 333 [memV l, uv f] (.bool (decide (f < pagesD l))) := by
 have e1 : IntKind.u64.wrap f = f := u64_in h.1 (by have := h.2; omega)
 have e2 : IntKind.u64.wrap (pagesD l) = pagesD l := u64_in (zAf l).1 (by have := zAf l; omega)
 refine sZ Tryz.func333 Tryz.ntmps333 ?_
 exact wx1 (qX1 (zBS l)) trivial (kX2 @e1 @e2)
theorem zCd (a : Int) (h : a = 1 ∨ a = 2 ∨ a = 3) : zAD Tryz.prog 332 [iv a] (.tup [iv (a + 3), .bool true]) := by
 rcases h with rfl | rfl | rfl
 ·refine sZ Tryz.func332 Tryz.ntmps332 ?_
  exact wx trivial trivial
 ·refine sZ Tryz.func332 Tryz.ntmps332 ?_
  exact wx trivial trivial
 ·refine sZ Tryz.func332 Tryz.ntmps332 ?_
  exact wx trivial trivial
theorem zBt (a : Int) (h : a = 1 ∨ a = 2 ∨ a = 3) : zAD Tryz.prog 316 [iv a] (.tup [iv (a + 3), .bool true]) := by
 rcases h with rfl | rfl | rfl
 ·refine sZ Tryz.func316 Tryz.ntmps316 ?_
  exact wx trivial trivial
 ·refine sZ Tryz.func316 Tryz.ntmps316 ?_
  exact wx trivial trivial
 ·refine sZ Tryz.func316 Tryz.ntmps316 ?_
  exact wx trivial trivial
theorem zGx (w : Int) : zAD Tryz.prog 335 [uv w] (uv (w / 256 % 256)) := by
 refine sZ Tryz.func335 Tryz.ntmps335 ?_
 exact wx (qX1 (zD4 w 8 (by decide) (by decide))) trivial
theorem zEY (w a : Int) : zAD Tryz.prog 334 [uv w, iv a] (.bool (zQ4 w a)) := by
 refine sZ Tryz.func334 Tryz.ntmps334 ?_
 exact wx1 trivial trivial @zQ4.eq_1
theorem zKJ {l : List Int} {root va : Int} (h : root < pagesD l) (h0 : 0 ≤ root) (hv : va < 4096) (hv0 : 0 ≤ va) : zAU l (root * 128 + va / 128 * 4) 4 = true := by
 unfold zAU
 simp only [Bool.and_eq_true, Bool.or_eq_true, decide_eq_true_eq]
 have q : (root * 128 + va / 128 * 4) % 4 = 0 := by omega
 have q2 : root * 128 + va / 128 * 4 + 4 ≤ pagesD l * 128 := by omega
 simp [q, q2]
def zDm (l : List Int) (root va acc : Int) : V := match zGc l root va acc with
 | some (a, e) => .st [uv a, uv e, iv 0]
 | none => .st [uv 0, uv 0, iv (acc + 3)]
theorem zST (l : List Int) (root va acc : Int) (hr : W32 root) (hv : W32 va) (ha : acc = 1 ∨ acc = 2 ∨ acc = 3) : zAD Tryz.prog 317 [memV l, uv root, uv va, iv acc] (zDm l root va acc) := by
 have hp := zAf l
 by_cases h1 : va < 4096
 ·by_cases h2 : root < pagesD l
  ·have hi := zKJ h2 hr.1 h1 hv.1
   obtain ⟨e, he⟩ : ∃ e, e = root * 128 + va / 128 * 4 := ⟨_, rfl⟩
   rw [← he] at hi
   have w1 : IntKind.u32.wrap (va.tdiv 128) = va / 128 := by rw [Int.tdiv_eq_ediv_of_nonneg hv.1]; exact u32_in (by omega) (by omega)
   have w2 : IntKind.u32.wrap (4 * (va / 128)) = va / 128 * 4 := by rw [u32_in (by omega) (by omega)]; omega
   have w3 : IntKind.u32.wrap (root * 128) = root * 128 := u32_in (by omega) (by omega)
   have w4 : IntKind.u32.wrap (root * 128 + va / 128 * 4) = e := by rw [he]; exact u32_in (by omega) (by omega)
   have hl := zDx l e 4 (.inr rfl) ⟨by omega, by omega⟩
   rw [hi] at hl
   simp only [if_true] at hl
   obtain ⟨w, hw⟩ : ∃ w, w = wAt l (e / 4) := ⟨_, rfl⟩
   rw [show zBl l e 4 = w by rw [hw]; simp [zBl]] at hl
   have w5 : va.tmod 128 = va % 128 := Int.tmod_eq_emod_of_nonneg hv.1
   by_cases h3 : zQ4 w acc = true
   ·by_cases h4 : w / 256 % 256 < pagesD l
    ·have w6 : IntKind.u32.wrap (w / 256 % 256 * 128) = w / 256 % 256 * 128 := u32_in (by omega) (by omega)
     have w7 : IntKind.u32.wrap (w / 256 % 256 * 128 + va % 128) = w / 256 % 256 * 128 + va % 128 := u32_in (by omega) (by omega)
     have hV : zDm l root va acc = .st [uv (w / 256 % 256 * 128 + va % 128), uv e, iv 0] := by
      unfold zDm zGc
      rw [← he, ← hw, if_pos ⟨h1, h2, h3, h4⟩]
     rw [hV]
     refine sZ Tryz.func317 Tryz.ntmps317 ?_
     exact wx1 (qX6 (zCd acc ha) (zCf l root hr) (hl) (zEY w acc) (zGx w) (zCf l (w / 256 % 256) ⟨by omega, by omega⟩)) trivial (kX11 @w1 @w2 @w3 @w4 @w5 @w6 @w7 @h1 @h2 @h3 @h4)
    ·have hV : zDm l root va acc = .st [uv 0, uv 0, iv (acc + 3)] := by
      unfold zDm zGc
      rw [← he, ← hw, if_neg (fun q => h4 q.2.2.2)]
     rw [hV]
     refine sZ Tryz.func317 Tryz.ntmps317 ?_
     exact wx1 (qX6 (zCd acc ha) (zCf l root hr) (hl) (zEY w acc) (zGx w) (zCf l (w / 256 % 256) ⟨by omega, by omega⟩)) trivial (kX8 @w1 @w2 @w3 @w4 @h1 @h2 @h3 @h4)
   ·have hV : zDm l root va acc = .st [uv 0, uv 0, iv (acc + 3)] := by
     unfold zDm zGc
     rw [← he, ← hw, if_neg (fun q => h3 q.2.2.1)]
    rw [hV]
    refine sZ Tryz.func317 Tryz.ntmps317 ?_
    exact wx1 (qX4 (zCd acc ha) (zCf l root hr) (hl) (zEY w acc)) trivial (kX7 @w1 @w2 @w3 @w4 @h1 @h2 @h3)
  ·have hV : zDm l root va acc = .st [uv 0, uv 0, iv (acc + 3)] := by
    unfold zDm zGc
    rw [if_neg (fun q => h2 q.2.1)]
   rw [hV]
   refine sZ Tryz.func317 Tryz.ntmps317 ?_
   exact wx1 (qX2 (zCd acc ha) (zCf l root hr)) trivial (kX2 @h1 @h2)
 ·have hV : zDm l root va acc = .st [uv 0, uv 0, iv (acc + 3)] := by
   unfold zDm zGc
   rw [if_neg (fun q => h1 q.1)]
  rw [hV]
  have h1' : 4096 ≤ va := by omega
  refine sZ Tryz.func317 Tryz.ntmps317 ?_
  exact wx1 (qX1 (zCd acc ha)) trivial (kX2 @h1 @h1')
theorem zQY (l : List Int) (e acc : Int) (hi : zAU l e 4 = true) (he : W32 e) (hl : OkW l) (hb : l.length ≤ 100000) : zAD Tryz.prog 318 [memV l, uv e, iv acc] (memV (zD3 l e acc)) := by
 have h1 := zDx l e 4 (.inr rfl) he
 rw [hi] at h1
 simp only [if_true] at h1
 rw [show zBl l e 4 = wAt l (e / 4) by simp [zBl]] at h1
 have h2 := zGH l e 4 (ior .u32 (wAt l (e / 4)) 8) (.inr rfl) he hl hb
 have h3 := zGH l e 4 (ior .u32 (ior .u32 (wAt l (e / 4)) 8) 16) (.inr rfl) he hl hb
 rw [hi] at h2 h3
 simp only [if_true] at h2 h3
 by_cases ha : acc = 3
 ·subst ha
  refine sZ Tryz.func318 Tryz.ntmps318 ?_
  exact wx1 (qX2 (h1) (h3)) trivial (kX3 @zD3.eq_1 @zKO.eq_1 @zCL.eq_1)
 ·refine sZ Tryz.func318 Tryz.ntmps318 ?_
  exact wx1 (qX2 (h1) (h2)) trivial (kX4 @zD3.eq_1 @zKO.eq_1 @zCL.eq_1 @ha)
theorem w3230761 {C D E G : Prop} (c : C) (d : D) (e : E) (t : C → D → E → G := by intro c d e; (refine af1 e ?_; (repeat intro K hK); refine wr ?_); repeat' ((first | (refine zAA rfl (fun h => ?_) (fun h => ?_) <;> (first | (simp [e] at h; done) | (simp [e] at h) | skip) <;> (first | (exfalso; omega) | skip)) | ((first | refine .inl ⟨1, _, d.1, ?_⟩ | refine ⟨1, _, d.1, ?_⟩); simp [aftC, aftE, noX, noXc, noX1, e]; first | refine And.intro zAL ?_ | skip) | ((first | refine .inl ⟨1, _, d.2.1, ?_⟩ | refine ⟨1, _, d.2.1, ?_⟩); simp [aftC, aftE, noX, noXc, noX1, e]; first | refine And.intro zAL ?_ | skip) | refine cc1 c.1 e ?_ | refine cc1 c.2.1 e ?_ | refine cc1 c.2.2.1 e ?_ | refine cc1 c.2.2.2.1 e ?_ | refine cc1 c.2.2.2.2.1 e ?_ | refine cc1 c.2.2.2.2.2.1 e ?_ | (refine zAE ([0, 1, 2, 3, 4, 5, 6, 7, 8, 9] : List Nat) ([[], [], [0, 1], [0, 1, 2], [], [], [4, 5], [4, 5, 6], [0, 1, 2, 3], [0, 1, 2, 3, 4, 5, 6, 7, 8]] : List (List Nat)) ([(9, ([[], [], [0, 1], [0, 1, 2], [], [], [4, 5], [4, 5, 6], [0, 1, 2, 3]], [])), (1, ([], []))] : List (Nat × List (List Nat) × List (Nat × Nat))) (by kernel_rfl) (by kernel_rfl) (by kernel_rfl) ?_) | exact rt1 e | fail) <;> (refine af1 e ?_; (repeat intro K hK); refine wr ?_))) : G := t c d e
structure OkC (c : CpuD) : Prop where
 x : ∀ i, W32 (c.x i)
 pc : W32 c.pc
 csr : ∀ i, W32 (c.csr i)
 s : c.csr 0 ≤ 31
theorem kernel_ok (c : CpuD) (h : OkC c) : zAD Tryz.prog 232 [.st c.row] (.bool (!decide (c.csr 0 % 2 = 0))) := by
 have e := zO7 (h.csr 0)
 refine sZ Tryz.func232 Tryz.ntmps232 ?_
 exact wx1 trivial trivial @e
theorem zHk (b : Bool) : zAD Tryz.prog 324 [.bool b] (uv (b2w b)) := by
 refine sZ Tryz.func324 Tryz.ntmps324 ?_
 exact wx1 trivial trivial @b2w.eq_1
theorem zHX (s f t : Int) : zAD Tryz.prog 290 [uv s, uv f, uv t] (uv (zFD s f t)) := by
 refine sZ Tryz.func290 Tryz.ntmps290 ?_
 exact wx1 trivial trivial @zFD.eq_1
theorem zCO (c : CpuD) (cause bad : Int) (h : OkC c) : zAD Tryz.prog 228 [.st c.row, iv cause, uv bad] (.st (zA8 c cause bad).row) := by
 have e := trap_s (h.csr 0).1 h.s
 refine sZ Tryz.func228 Tryz.ntmps228 ?_
 exact wx1 (qX2 (zHX (c.csr 0) 1 8) (zHX (zFD (c.csr 0) 1 8) 2 16)) trivial (kX2 @e @zA8.eq_1)
theorem zNU (c : CpuD) (h : OkC c) : zAD Tryz.prog 301 [.st c.row] (.st (retD c).row) := by
 have e := ret_s (h.csr 0).1 h.s
 refine sZ Tryz.func301 Tryz.ntmps301 ?_
 exact wx1 (qX2 (zHX (c.csr 0) 8 1) (zHX (zFD (c.csr 0) 8 1) 16 2)) trivial (kX2 @e @retD.eq_1)
theorem zP1 (c : CpuD) (k v : Int) (h0 : 0 ≤ k) (h1 : k ≤ 7) : zAD Tryz.prog 302 [.st c.row, iv k, uv v] (.st (zBC c k v).row) := by
 have hk : k = 0 ∨ k = 1 ∨ k = 2 ∨ k = 3 ∨ k = 4 ∨ k = 5 ∨ k = 6 ∨ k = 7 := by omega
 rcases hk with rfl | rfl | rfl | rfl | rfl | rfl | rfl | rfl
 ·refine sZ Tryz.func302 Tryz.ntmps302 ?_
  exact wx1 trivial trivial (kX2 @zBC.eq_1 @CpuD.setS.eq_1)
 ·refine sZ Tryz.func302 Tryz.ntmps302 ?_
  exact wx1 trivial trivial (kX2 @zBC.eq_1 @CpuD.setS.eq_1)
 ·refine sZ Tryz.func302 Tryz.ntmps302 ?_
  exact wx1 trivial trivial (kX2 @zBC.eq_1 @CpuD.setS.eq_1)
 ·refine sZ Tryz.func302 Tryz.ntmps302 ?_
  exact wx1 trivial trivial (kX2 @zBC.eq_1 @CpuD.setS.eq_1)
 ·refine sZ Tryz.func302 Tryz.ntmps302 ?_
  exact wx1 trivial trivial (kX2 @zBC.eq_1 @CpuD.setS.eq_1)
 ·refine sZ Tryz.func302 Tryz.ntmps302 ?_
  exact wx1 trivial trivial (kX2 @zBC.eq_1 @CpuD.setS.eq_1)
 ·refine sZ Tryz.func302 Tryz.ntmps302 ?_
  exact wx1 trivial trivial (kX2 @zBC.eq_1 @CpuD.setS.eq_1)
 ·refine sZ Tryz.func302 Tryz.ntmps302 ?_
  exact wx1 trivial trivial (kX2 @zBC.eq_1 @CpuD.setS.eq_1)
theorem zFf {r : Int} (h0 : 0 ≤ r) (h1 : r ≤ 15) : r = 0 ∨ r = 1 ∨ r = 2 ∨ r = 3 ∨ r = 4 ∨ r = 5 ∨ r = 6 ∨ r = 7 ∨ r = 8 ∨ r = 9 ∨ r = 10 ∨ r = 11 ∨ r = 12 ∨ r = 13 ∨ r = 14 ∨ r = 15 := by omega
theorem zAW (c : CpuD) {r : Int} (h0 : 0 ≤ r) (h1 : r ≤ 15) : c.row[r.toNat]? = some (uv (c.x r.toNat)) := by
 rcases zFf h0 h1 with rfl | rfl | rfl | rfl | rfl | rfl | rfl | rfl | rfl | rfl | rfl | rfl | rfl | rfl | rfl | rfl <;> rfl
theorem zTQ (c : CpuD) {k : Int} (h0 : 0 ≤ k) (h1 : k ≤ 7) : c.row[17 + k.toNat]? = some (uv (c.csr k.toNat)) := by
 have hk : k = 0 ∨ k = 1 ∨ k = 2 ∨ k = 3 ∨ k = 4 ∨ k = 5 ∨ k = 6 ∨ k = 7 := by omega
 rcases hk with rfl | rfl | rfl | rfl | rfl | rfl | rfl | rfl <;> rfl
theorem zNP (c : CpuD) {r : Int} (v : Int) (h0 : 0 ≤ r) (h1 : r ≤ 15) : c.row.set r.toNat (uv v) = (c.setX r v).row := by
 rcases zFf h0 h1 with rfl | rfl | rfl | rfl | rfl | rfl | rfl | rfl | rfl | rfl | rfl | rfl | rfl | rfl | rfl | rfl <;> simp [CpuD.setX]
theorem zEw (c : CpuD) (r v : Int) (h0 : 0 ≤ r) (h1 : r ≤ 15) : zAD Tryz.prog 298 [.st c.row, iv r, uv v] (.st (c.setR r v).row) := by
 have e := zNP c v h0 h1
 by_cases hr : r = 0
 ·subst hr
  refine sZ Tryz.func298 Tryz.ntmps298 ?_
  exact wx1 trivial trivial @CpuD.setR.eq_1
 ·refine sZ Tryz.func298 Tryz.ntmps298 ?_
  exact wx1 trivial trivial (kX3 @e @CpuD.setR.eq_1 @hr)
theorem zEK (op : Int) : zAD Tryz.prog 297 [iv op] (iv (zAY op)) := by
 refine sZ Tryz.func297 Tryz.ntmps297 ?_
 exact wx1 trivial trivial @zAY.eq_1
theorem zPb (op a b : Int) : zAD Tryz.prog 300 [iv op, uv a, uv b] (.bool (zD9 op a b)) := by
 refine sZ Tryz.func300 Tryz.ntmps300 ?_
 exact wx1 trivial trivial @zD9.eq_1
theorem zSh (x : Int) (h0 : 0 ≤ x) (h1 : x < 256) : zAD Tryz.prog 295 [uv x, iv 8] (uv (zHj x)) := by
 have e : IntKind.u32.wrap ((IntKind.i32.wrap (IntKind.u32.wrap (x * 2 ^ 24))).fdiv (2 ^ 24)) = zHj x := by
  rw [Int.fdiv_eq_ediv_of_nonneg _ (by omega)]
  simp only [IntKind.wrap_u32, IntKind.wrap_i32]
  unfold zHj
  split <;> omega
 simp at e
 refine sZ Tryz.func295 Tryz.ntmps295 ?_
 exact wx1 trivial trivial (kX4 @e @u64c @i64c @u32c)
theorem zRY (a b : Int) (ha : W32 a) (hb : W32 b) : zAD Tryz.prog 323 [uv a, uv b] (.tup [uv (divQ a b), uv (divR a b)]) := by
 obtain ⟨ha0, ha1⟩ := ha
 obtain ⟨hb0, hb1⟩ := hb
 by_cases h1 : b = 0
 ·subst h1
  refine sZ Tryz.func323 Tryz.ntmps323 ?_
  exact w3230761 trivial trivial (kX2 @divQ.eq_1 @divR.eq_1)
 ·by_cases h2 : a = 2147483648 ∧ b = 4294967295
  ·obtain ⟨rfl, rfl⟩ := h2
   have q : divQ 2147483648 4294967295 = 2147483648 := by decide
   have r : divR 2147483648 4294967295 = 0 := by decide
   rw [q, r]
   refine sZ Tryz.func323 Tryz.ntmps323 ?_
   (refine af ?_; (repeat intro K hK); refine wr ?_)
   repeat' ((first | (refine zAA rfl (fun h => ?_) (fun h => ?_) <;> (first | (simp at h; done) | (simp at h) | skip) <;> (first | (exfalso; omega) | skip)) | (refine zAE ([0, 1, 2, 3, 4, 5, 6, 7, 8, 9] : List Nat) ([[], [], [0, 1], [0, 1, 2], [], [], [4, 5], [4, 5, 6], [0, 1, 2, 3], [0, 1, 2, 3, 4, 5, 6, 7, 8]] : List (List Nat)) ([(9, ([[], [], [0, 1], [0, 1, 2], [], [], [4, 5], [4, 5, 6], [0, 1, 2, 3]], [])), (1, ([], []))] : List (Nat × List (List Nat) × List (Nat × Nat))) (by kernel_rfl) (by kernel_rfl) (by kernel_rfl) ?_) | exact rt | fail) <;> (refine af ?_; (repeat intro K hK); refine wr ?_))
  ·have hn : ¬ sw b = 0 := by unfold sw; rw [IntKind.wrap_i32]; omega
   have e1 : IntKind.u32.wrap (IntKind.i32.wrap ((sw a).tdiv (sw b))) = divQ a b := by
    unfold divQ uw; rw [if_neg h1]; simp only [IntKind.wrap_u32, IntKind.wrap_i32]; omega
   have e2 : IntKind.u32.wrap ((sw a).tmod (sw b)) = divR a b := by
    unfold divR; rw [if_neg h1]
   refine sZ Tryz.func323 Tryz.ntmps323 ?_
   exact w3230761 trivial trivial (kX4 @e1 @e2 @h1 @hn)
theorem alF (a b : Int) : iand .u32 b 31 = b % 32 ∧ a.fdiv (2 ^ min (b % 32).toNat 32) = a / 2 ^ (b % 32).toNat ∧ (sw a).fdiv (2 ^ min (b % 32).toNat 32) = sw a / 2 ^ (b % 32).toNat ∧ min (b % 32).toNat 32 = (b % 32).toNat ∧ IntKind.u32.wrap (a + IntKind.u32.wrap (0 - b)) = uw (a - b) ∧ IntKind.u32.wrap (a + IntKind.u32.wrap (-b)) = uw (a - b) := by
 have e0 : iand .u32 b 31 = b % 32 := zBD b 5 32 (by omega) (by decide)
 have e1 : a.fdiv (2 ^ min (b % 32).toNat 32) = a / 2 ^ (b % 32).toNat := by
  rw [Nat.min_eq_left (by omega), Int.fdiv_eq_ediv_of_nonneg _ (Int.le_of_lt (Int.pow_pos (by decide)))]
 have e2 : (sw a).fdiv (2 ^ min (b % 32).toNat 32) = sw a / 2 ^ (b % 32).toNat := by
  rw [Nat.min_eq_left (by omega), Int.fdiv_eq_ediv_of_nonneg _ (Int.le_of_lt (Int.pow_pos (by decide)))]
 have e3 : min (b % 32).toNat 32 = (b % 32).toNat := Nat.min_eq_left (by omega)
 have e4 : IntKind.u32.wrap (a + IntKind.u32.wrap (0 - b)) = uw (a - b) := by unfold uw; simp only [IntKind.wrap_u32]; omega
 have e5 : IntKind.u32.wrap (a + IntKind.u32.wrap (-b)) = uw (a - b) := by unfold uw; simp only [IntKind.wrap_u32]; omega
 exact ⟨e0, e1, e2, e3, e4, e5⟩
end Go.Proofs.YtjmhjieflbnehaaGreat
end
