/- A part of the proof of ReplicaJoins. -/
import Derived.Test.YtjmhjieflbnehaaGreatP04
import Derived.Test.YtjmhjieflbnehaaGreatP05
import Derived.Lib.BitFns
set_option linter.unusedSimpArgs false
set_option linter.unusedVariables false
set_option maxHeartbeats 16000000
set_option maxRecDepth 100000
section
namespace Go.Proofs.YtjmhjieflbnehaaGreat
open Go.Ab Go.RowKit
abbrev Str := List UInt8
structure CpuD where
 x : Nat → Int
 pc : Int
 csr : Nat → Int
structure DskD where
 blocks : Int
 block : Int
 frame : Int
 state : Int
 cmd : Int
 opBlock : Int
 opFrame : Int
 opData : Str
structure NicD where
 frame : Int
 len : Int
 posted : Bool
 buffer : Int
 received : Bool
 got : Int
structure TimD where
 armed : Bool
 dl : Int
 fired : Bool
structure MchD where
 cpu : CpuD
 mem : List Int
 keys : Str
 tim : TimD
 dk : DskD
 nc : NicD
 tgt : Int
 given : Int
 count : Int
 waiting : Bool
 halted : Bool
abbrev uv (n : Int) : V := .int .u32 n
abbrev lv (n : Int) : V := .int .u64 n
abbrev iv (n : Int) : V := .int .i64 n
abbrev memV (l : List Int) : V := .sl 1 false (ints .u32 l)
abbrev CpuD.row (c : CpuD) : List V := [uv (c.x 0), uv (c.x 1), uv (c.x 2), uv (c.x 3), uv (c.x 4), uv (c.x 5), uv (c.x 6), uv (c.x 7), uv (c.x 8), uv (c.x 9), uv (c.x 10), uv (c.x 11), uv (c.x 12), uv (c.x 13), uv (c.x 14), uv (c.x 15), uv c.pc, uv (c.csr 0), uv (c.csr 1), uv (c.csr 2), uv (c.csr 3), uv (c.csr 4), uv (c.csr 5), uv (c.csr 6), uv (c.csr 7)]
abbrev DskD.row (d : DskD) : List V := [uv d.blocks, uv d.block, uv d.frame, iv d.state, iv d.cmd, uv d.opBlock, uv d.opFrame, .str d.opData]
abbrev NicD.row (n : NicD) : List V := [uv n.frame, uv n.len, .bool n.posted, uv n.buffer, .bool n.received, uv n.got]
abbrev TimD.row (t : TimD) : List V := [.bool t.armed, uv t.dl, .bool t.fired]
abbrev MchD.row (m : MchD) : List V := m.cpu.row ++ memV m.mem :: .str m.keys :: (m.tim.row ++ (m.dk.row ++ (m.nc.row ++ [uv m.tgt, uv m.given, lv m.count, .bool m.waiting, .bool m.halted])))
def pagesD (mem : List Int) : Int := if (mem.length : Int).tmod 32 = 0 ∧ (mem.length : Int) ≤ 1024 then IntKind.i64.wrap (mem.length / 32) else 0
def timMay (t : TimD) : Bool := if t.armed then !t.fired && t.dl != 0 else if t.fired then true else t.dl == 0
def zGk (d : DskD) : Bool := if d.cmd = 1 then d.opData == [] else if d.cmd = 2 then d.opData.length == 128 else false
def dskMay (d : DskD) (pages : Int) : Bool :=
 if d.blocks > 64 then false
 else if d.state = 0 ∨ d.state = 2 ∨ d.state = 3 then d.cmd == 0 && d.opBlock == 0 && d.opFrame == 0 && d.opData == []
 else if d.state = 1 then zGk d && decide (d.opBlock < d.blocks) && decide (IntKind.i64.wrap d.opFrame < pages)
 else false
def nicMay (n : NicD) (pages : Int) : Bool :=
 if n.posted && n.received then false
 else if n.posted && decide (pages ≤ IntKind.i64.wrap n.buffer) then false
 else if !n.posted && n.buffer != 0 then false
 else if n.received then decide (n.got ≥ 1) && decide (n.got ≤ 128) else n.got == 0
def bitLen (x : Int) : Nat := Lib.bitLen x.toNat
def balMay (given pages : Int) : Bool := decide ((bitLen given : Int) ≤ max pages 0)
def mayD (m : MchD) : Bool :=
 (pagesD m.mem != 0) && (m.cpu.x 0 == 0) && decide (m.cpu.csr 0 ≤ 31) && decide (m.cpu.csr 7 ≤ 31) && decide (m.cpu.csr 6 ≤ 255) && (m.cpu.csr 1 % 4 == 0) &&
  decide (m.count ≤ 1152921504606846976) && !(m.waiting && m.halted) &&
  (decide ((m.keys.length : Int) ≤ 16) && timMay m.tim && dskMay m.dk (pagesD m.mem) && nicMay m.nc (pagesD m.mem) && balMay m.given (pagesD m.mem))
structure EvD where
 kind : Int
 n : Int
 data : Str
structure EntD where
 at_ : Int
 ev : EvD
structure OutD where
 kind : Int
 at_ : Int
 block : Int
 data : Str
structure SegD where
 from_ : Int
 known : Int
 ents : List EntD
structure RecD where
 m : MchD
 clock : Int
 log : List EntD
 queue : List EvD
structure RplD where
 m : MchD
 log : List EntD
 known : Int
 clock : Int
structure GateD where
 held : List OutD
 acked : Int
 bytes : Int
structure SndD where
 base : Int
 tail : Int
 known : Int
 queue : List SegD
structure RcvD where
 next : Int
 known : Int
 early : List (Int × SegD)
structure DetD where
 limit : Int
 silent : Int
 seen : Int
structure RepD where
 host : Int
 role : Int
 gen : Int
 rec_ : RecD
 rpl : RplD
 gate : GateD
 mark : Int
 out : SndD
 inn : RcvD
 watch : DetD
 beats : Int
 cmd : Int
 cmdAt : Int
 hist : List EntD
abbrev EvD.row (e : EvD) : List V := [iv e.kind, uv e.n, .str e.data]
abbrev EntD.row (e : EntD) : List V := [lv e.at_, iv e.ev.kind, uv e.ev.n, .str e.ev.data]
abbrev OutD.row (o : OutD) : List V := [iv o.kind, lv o.at_, uv o.block, .str o.data]
def ents (l : List EntD) : List (List V) := l.map EntD.row
def evs (l : List EvD) : List (List V) := l.map EvD.row
def outs (l : List OutD) : List (List V) := l.map OutD.row
abbrev zB6 (l : List EntD) : V := .sl 4 false (ents l)
abbrev SegD.row (g : SegD) : List V := [lv g.from_, lv g.known, zB6 g.ents]
def segs (l : List SegD) : List (List V) := l.map SegD.row
def zGP (l : List (Int × SegD)) : List (List V) := l.map fun e => [lv e.1, lv e.2.from_, lv e.2.known, zB6 e.2.ents]
abbrev RecD.row (r : RecD) : List V := r.m.row ++ [uv r.clock, zB6 r.log, .sl 3 false (evs r.queue)]
abbrev RplD.row (r : RplD) : List V := r.m.row ++ [zB6 r.log, lv r.known, uv r.clock]
abbrev GateD.row (g : GateD) : List V := [.sl 4 false (outs g.held), lv g.acked, lv g.bytes]
abbrev SndD.row (s : SndD) : List V := [lv s.base, lv s.tail, lv s.known, .sl 3 false (segs s.queue)]
abbrev RcvD.row (r : RcvD) : List V := [lv r.next, lv r.known, .sl 4 false (zGP r.early)]
abbrev DetD.row (d : DetD) : List V := [iv d.limit, iv d.silent, lv d.seen]
abbrev RepD.row (r : RepD) : List V := [iv r.host, iv r.role, lv r.gen] ++ (r.rec_.row ++ (r.rpl.row ++ (r.gate.row ++ ([lv r.mark] ++ (r.out.row ++ (r.inn.row ++ (r.watch.row ++ [lv r.beats, iv r.cmd, lv r.cmdAt, zB6 r.hist])))))))
def zCpu : CpuD := ⟨fun _ => 0, 0, fun _ => 0⟩
def zDsk : DskD := ⟨0, 0, 0, 0, 0, 0, 0, []⟩
def zNic : NicD := ⟨0, 0, false, 0, false, 0⟩
def zTim : TimD := ⟨false, 0, false⟩
def zMch : MchD := ⟨zCpu, [], [], zTim, zDsk, zNic, 0, 0, 0, false, false⟩
def zRec : RecD := ⟨zMch, 0, [], []⟩
def zRpl : RplD := ⟨zMch, [], 0, 0⟩
def zGate : GateD := ⟨[], 0, 0⟩
def zSnd : SndD := ⟨0, 0, 0, []⟩
def zRcv : RcvD := ⟨0, 0, []⟩
def zDet : DetD := ⟨0, 0, 0⟩
def zRep : RepD := ⟨0, 0, 0, zRec, zRpl, zGate, 0, zSnd, zRcv, zDet, 0, 0, 0, []⟩
attribute [simp] zRep zRec zRpl zMch zCpu zDsk zNic zTim zGate zSnd zRcv zDet
@[simp] theorem nil_ents : ents [] = [] := rfl
@[simp] theorem nil_evs : evs [] = [] := rfl
@[simp] theorem nil_outs : outs [] = [] := rfl
@[simp] theorem nil_segs : segs [] = [] := rfl
@[simp] theorem nil_earls : zGP [] = [] := rfl
@[simp] theorem nil_ints (k : IntKind) : ints k [] = [] := rfl
def zDf (limit : Int) : Bool := decide (1 ≤ limit) && decide (limit ≤ 20)
def zCe (host : Int) (m : MchD) (gen limit : Int) : RepD := { zRep with host := host, gen := gen, gate := ⟨[], m.count, 0⟩, mark := m.count, watch := ⟨limit, 0, 0⟩ }
def zA7 (host : Int) (m : MchD) (gen limit : Int) : Bool := zDf limit && (decide (host = 0) || decide (host = 1)) && !decide (gen = 0) && mayD m && !decide (m.dk.state = 1)
def zF3 (host : Int) (m : MchD) (gen limit : Int) : RepD := { zCe host m gen limit with role := 1, rec_ := ⟨m, 0, [], []⟩, out := ⟨1, m.count, m.count, []⟩ }
def zDp (host : Int) (m : MchD) (gen limit : Int) : RepD := { zCe host m gen limit with role := 2, rpl := ⟨m, [], m.count, 0⟩, inn := ⟨1, m.count, []⟩ }
theorem zBQ (xs : List (List V)) (t : Bool) (z : Nat) (hz : z = 1 ∨ (z = 0 ∧ xs = [])) (hb : xs.length ≤ 100000) : zAD Tryz.prog 78 [.sl z t xs] (.new 25 1 xs) := by
 refine sX Tryz.func78 Tryz.ntmps78 ?_;intros;refine wr ?_
 refine ⟨?_, fun hx => ?_⟩
 ·refine au ?_;intros;refine wr ?_
  refine cF0 rfl ?_
  refine aum1 @maxLen.eq_1 ?_;intros;refine wr ?_
  refine zAB ?_
  simp
 ·subst hx
  refine au ?_;intros;refine wr ?_
  refine gT00 rfl ?_;intros;refine wr ?_
  refine zAc 2 25 1 (by decide) rfl ?_
  refine zAB ?_
  simp
theorem zAP (k : IntKind) (l : List Int) : (ints k l).length = l.length := by simp [ints]
theorem zBS (l : List Int) : zAD Tryz.prog 164 [memV l] (iv (pagesD l)) := by
 refine sZ Tryz.func164 Tryz.ntmps164 ?_
 exact wx1 trivial trivial (kX2 @zAP @pagesD.eq_1)
theorem zO6 (s : Str) : zAD Tryz.prog 218 [.st [.str s]] (.bool (decide ((s.length : Int) ≤ 16))) := by
 refine sZ Tryz.func218 Tryz.ntmps218 ?_
 exact wx trivial trivial
theorem zNR (t : TimD) : zAD Tryz.prog 219 [.st t.row] (.bool (timMay t)) := by
 refine sZ Tryz.func219 Tryz.ntmps219 ?_
 exact wx1 trivial trivial @timMay.eq_1
theorem zOb (d : DskD) : zAD Tryz.prog 281 [.st d.row] (.bool (zGk d)) := by
 refine sZ Tryz.func281 Tryz.ntmps281 ?_
 exact wx1 trivial trivial @zGk.eq_1
theorem zOU (d : DskD) (p : Int) : zAD Tryz.prog 220 [.st d.row, iv p] (.bool (dskMay d p)) := by
 refine sZ Tryz.func220 Tryz.ntmps220 ?_
 exact wx1 (qX1 (zOb _)) trivial @dskMay.eq_1
theorem zMs (n : NicD) (p : Int) : zAD Tryz.prog 221 [.st n.row, iv p] (.bool (nicMay n p)) := by
 refine sZ Tryz.func221 Tryz.ntmps221 ?_
 exact wx1 trivial trivial @nicMay.eq_1
theorem u8a (x : Int) : 0 ≤ IntKind.u8.wrap x := by rw [IntKind.wrap_u8]; omega
theorem u8b (x : Int) : IntKind.u8.wrap x < 256 := by rw [IntKind.wrap_u8]; omega
theorem lit8f : ∀ k : Fin 256, (([0, 1, 2, 2, 3, 3, 3, 3, 4, 4, 4, 4, 4, 4, 4, 4, 5, 5, 5, 5, 5, 5, 5, 5, 5, 5, 5, 5, 5, 5, 5, 5, 6, 6, 6, 6, 6, 6, 6, 6, 6, 6, 6, 6, 6, 6, 6, 6, 6, 6, 6, 6, 6, 6, 6, 6, 6, 6, 6, 6, 6, 6, 6, 6, 7, 7, 7, 7, 7, 7, 7, 7, 7, 7, 7, 7, 7, 7, 7, 7, 7, 7, 7, 7, 7, 7, 7, 7, 7, 7, 7, 7, 7, 7, 7, 7, 7, 7, 7, 7, 7, 7, 7, 7, 7, 7, 7, 7, 7, 7, 7, 7, 7, 7, 7, 7, 7, 7, 7, 7, 7, 7, 7, 7, 7, 7, 7, 7, 8, 8, 8, 8, 8, 8, 8, 8, 8, 8, 8, 8, 8, 8, 8, 8, 8, 8, 8, 8, 8, 8, 8, 8, 8, 8, 8, 8, 8, 8, 8, 8, 8, 8, 8, 8, 8, 8, 8, 8, 8, 8, 8, 8, 8, 8, 8, 8, 8, 8, 8, 8, 8, 8, 8, 8, 8, 8, 8, 8, 8, 8, 8, 8, 8, 8, 8, 8, 8, 8, 8, 8, 8, 8, 8, 8, 8, 8, 8, 8, 8, 8, 8, 8, 8, 8, 8, 8, 8, 8, 8, 8, 8, 8, 8, 8, 8, 8, 8, 8, 8, 8, 8, 8, 8, 8, 8, 8, 8, 8, 8, 8, 8, 8, 8, 8, 8, 8, 8, 8, 8, 8, 8, 8, 8, 8, 8, 8] : List UInt8)[k.val]?.getD 0).toNat = Lib.bitLen k.val := by decide +kernel
theorem lit8 (x : Int) : (([0, 1, 2, 2, 3, 3, 3, 3, 4, 4, 4, 4, 4, 4, 4, 4, 5, 5, 5, 5, 5, 5, 5, 5, 5, 5, 5, 5, 5, 5, 5, 5, 6, 6, 6, 6, 6, 6, 6, 6, 6, 6, 6, 6, 6, 6, 6, 6, 6, 6, 6, 6, 6, 6, 6, 6, 6, 6, 6, 6, 6, 6, 6, 6, 7, 7, 7, 7, 7, 7, 7, 7, 7, 7, 7, 7, 7, 7, 7, 7, 7, 7, 7, 7, 7, 7, 7, 7, 7, 7, 7, 7, 7, 7, 7, 7, 7, 7, 7, 7, 7, 7, 7, 7, 7, 7, 7, 7, 7, 7, 7, 7, 7, 7, 7, 7, 7, 7, 7, 7, 7, 7, 7, 7, 7, 7, 7, 7, 8, 8, 8, 8, 8, 8, 8, 8, 8, 8, 8, 8, 8, 8, 8, 8, 8, 8, 8, 8, 8, 8, 8, 8, 8, 8, 8, 8, 8, 8, 8, 8, 8, 8, 8, 8, 8, 8, 8, 8, 8, 8, 8, 8, 8, 8, 8, 8, 8, 8, 8, 8, 8, 8, 8, 8, 8, 8, 8, 8, 8, 8, 8, 8, 8, 8, 8, 8, 8, 8, 8, 8, 8, 8, 8, 8, 8, 8, 8, 8, 8, 8, 8, 8, 8, 8, 8, 8, 8, 8, 8, 8, 8, 8, 8, 8, 8, 8, 8, 8, 8, 8, 8, 8, 8, 8, 8, 8, 8, 8, 8, 8, 8, 8, 8, 8, 8, 8, 8, 8, 8, 8, 8, 8, 8, 8, 8, 8] : List UInt8)[(IntKind.u8.wrap x).toNat]?.getD 0).toNat = Lib.bitLen (IntKind.u8.wrap x).toNat := lit8f ⟨(IntKind.u8.wrap x).toNat, by have := u8a x; have := u8b x; omega⟩
theorem lit8g (x : Int) (h : (IntKind.u8.wrap x).toNat < ([0, 1, 2, 2, 3, 3, 3, 3, 4, 4, 4, 4, 4, 4, 4, 4, 5, 5, 5, 5, 5, 5, 5, 5, 5, 5, 5, 5, 5, 5, 5, 5, 6, 6, 6, 6, 6, 6, 6, 6, 6, 6, 6, 6, 6, 6, 6, 6, 6, 6, 6, 6, 6, 6, 6, 6, 6, 6, 6, 6, 6, 6, 6, 6, 7, 7, 7, 7, 7, 7, 7, 7, 7, 7, 7, 7, 7, 7, 7, 7, 7, 7, 7, 7, 7, 7, 7, 7, 7, 7, 7, 7, 7, 7, 7, 7, 7, 7, 7, 7, 7, 7, 7, 7, 7, 7, 7, 7, 7, 7, 7, 7, 7, 7, 7, 7, 7, 7, 7, 7, 7, 7, 7, 7, 7, 7, 7, 7, 8, 8, 8, 8, 8, 8, 8, 8, 8, 8, 8, 8, 8, 8, 8, 8, 8, 8, 8, 8, 8, 8, 8, 8, 8, 8, 8, 8, 8, 8, 8, 8, 8, 8, 8, 8, 8, 8, 8, 8, 8, 8, 8, 8, 8, 8, 8, 8, 8, 8, 8, 8, 8, 8, 8, 8, 8, 8, 8, 8, 8, 8, 8, 8, 8, 8, 8, 8, 8, 8, 8, 8, 8, 8, 8, 8, 8, 8, 8, 8, 8, 8, 8, 8, 8, 8, 8, 8, 8, 8, 8, 8, 8, 8, 8, 8, 8, 8, 8, 8, 8, 8, 8, 8, 8, 8, 8, 8, 8, 8, 8, 8, 8, 8, 8, 8, 8, 8, 8, 8, 8, 8, 8, 8, 8, 8, 8, 8] : List UInt8).length) : (([0, 1, 2, 2, 3, 3, 3, 3, 4, 4, 4, 4, 4, 4, 4, 4, 5, 5, 5, 5, 5, 5, 5, 5, 5, 5, 5, 5, 5, 5, 5, 5, 6, 6, 6, 6, 6, 6, 6, 6, 6, 6, 6, 6, 6, 6, 6, 6, 6, 6, 6, 6, 6, 6, 6, 6, 6, 6, 6, 6, 6, 6, 6, 6, 7, 7, 7, 7, 7, 7, 7, 7, 7, 7, 7, 7, 7, 7, 7, 7, 7, 7, 7, 7, 7, 7, 7, 7, 7, 7, 7, 7, 7, 7, 7, 7, 7, 7, 7, 7, 7, 7, 7, 7, 7, 7, 7, 7, 7, 7, 7, 7, 7, 7, 7, 7, 7, 7, 7, 7, 7, 7, 7, 7, 7, 7, 7, 7, 8, 8, 8, 8, 8, 8, 8, 8, 8, 8, 8, 8, 8, 8, 8, 8, 8, 8, 8, 8, 8, 8, 8, 8, 8, 8, 8, 8, 8, 8, 8, 8, 8, 8, 8, 8, 8, 8, 8, 8, 8, 8, 8, 8, 8, 8, 8, 8, 8, 8, 8, 8, 8, 8, 8, 8, 8, 8, 8, 8, 8, 8, 8, 8, 8, 8, 8, 8, 8, 8, 8, 8, 8, 8, 8, 8, 8, 8, 8, 8, 8, 8, 8, 8, 8, 8, 8, 8, 8, 8, 8, 8, 8, 8, 8, 8, 8, 8, 8, 8, 8, 8, 8, 8, 8, 8, 8, 8, 8, 8, 8, 8, 8, 8, 8, 8, 8, 8, 8, 8, 8, 8, 8, 8, 8, 8, 8, 8] : List UInt8)[(IntKind.u8.wrap x).toNat]'h).toNat = Lib.bitLen (IntKind.u8.wrap x).toNat := by
 rw [← lit8 x, List.getElem?_eq_getElem h]; rfl
theorem fd16 (x : Int) : x.fdiv (2 ^ min 16 IntKind.u32.bits) = x / 65536 := by rw [Int.fdiv_eq_ediv_of_nonneg _ (by decide)]; rfl
theorem fd8 (x : Int) : x.fdiv (2 ^ min 8 IntKind.u32.bits) = x / 256 := by rw [Int.fdiv_eq_ediv_of_nonneg _ (by decide)]; rfl
theorem bl_w (x : Int) (k : Nat) (hk : k ≤ 24) (h0 : 0 ≤ x) (h1 : x < 256) : IntKind.i64.wrap ((k : Int) + IntKind.i64.wrap (Lib.bitLen (IntKind.u8.wrap x).toNat)) = k + Lib.bitLen x.toNat := by
 have hw : IntKind.u8.wrap x = x := by rw [IntKind.wrap_u8]; omega
 rw [hw]
 have := Lib.bitLen_le x.toNat 8 (by omega) (by omega)
 rw [zAC (n := (Lib.bitLen x.toNat : Int)) (by omega) (by omega), zAC (by omega) (by omega)]
theorem zDD : IntKind.i64.wrap 16 = 16 := by decide
theorem zDO : IntKind.i64.wrap 24 = 24 := by decide
theorem zF9 : IntKind.i64.wrap 8 = 8 := by decide
theorem zN1 (x : Int) (h0 : 0 ≤ x) (h1 : x ≤ 4294967295) : zAD Tryz.prog 282 [uv x] (iv (bitLen x)) := by
 refine sX Tryz.func282 Tryz.ntmps282 ?_;(repeat intro K hK);refine wr ?_
 repeat' (first | (with_reducible first | refine zAj fun K hK => ?_ | refine zAa ?_) | ((with_reducible first | refine zAV (by kernel_rfl) ?_ | refine zAm ?_ | refine zAi ?_ | refine zAn ?_ | refine zAl ?_ | refine zAk ?_ | refine zAh ?_); simp [u8a, u8b, lit8, fd16, fd8, zDD, zDO, zF9]) | ((repeat ((fail_if_success ((with_reducible refine hK _ ?_))); clear hK)); (with_reducible refine hK _ ?_); clear hK) | refine And.intro (by first | omega | assumption | grind) ?_ | (refine zAA rfl (fun h => ?_) (fun h => ?_) <;> (first | (simp [u8a, u8b, lit8, fd16, fd8, zDD, zDO, zF9] at h; done) | (simp [u8a, u8b, lit8, fd16, fd8, zDD, zDO, zF9] at h) | skip) <;> (first | (exfalso; omega) | skip)) | (refine zAB ?_; simp [u8a, u8b, lit8, fd16, fd8, zDD, zDO, zF9]; (first | done | (simp_all [u8a, u8b, lit8, fd16, fd8, zDD, zDO, zF9]; done) | (simp_all [u8a, u8b, lit8, fd16, fd8, zDD, zDO, zF9]; omega) | grind); done) | (refine zAI ?_; refine zAB ?_; simp [u8a, u8b, lit8, fd16, fd8, zDD, zDO, zF9]; (first | done | (simp_all [u8a, u8b, lit8, fd16, fd8, zDD, zDO, zF9]; done) | (simp_all [u8a, u8b, lit8, fd16, fd8, zDD, zDO, zF9]; omega) | grind); done) | (refine zAB ?_; simp [u8a, u8b, lit8, fd16, fd8, zDD, zDO, zF9]; done) | (refine zAI ?_; refine zAB ?_; simp [u8a, u8b, lit8, fd16, fd8, zDD, zDO, zF9]; done))
 all_goals refine zAB ?_
 all_goals simp [lit8g]
 ·skip
  have e := bl_w (x / 65536 / 256) 24 (by omega) (by omega) (by omega)
  simp at e
  rw [e]
  have e2 := Lib.bitLen_shift24 x.toNat (by omega) (by omega)
  unfold bitLen
  rw [e2, show (x / 65536 / 256).toNat = x.toNat / 16777216 by omega]
  simp
 ·skip
  have e := bl_w (x / 65536) 16 (by omega) (by omega) (by omega)
  simp at e
  rw [e]
  have e2 := Lib.bitLen_shift16 x.toNat (by omega) (by omega)
  unfold bitLen
  rw [e2, show (x / 65536).toNat = x.toNat / 65536 by omega]
  simp
 ·skip
  have e := bl_w (x / 256) 8 (by omega) (by omega) (by omega)
  simp at e
  rw [e]
  have e2 := Lib.bitLen_shift8 x.toNat (by omega) (by omega)
  unfold bitLen
  rw [e2, show (x / 256).toNat = x.toNat / 256 by omega]
  simp
 ·skip
  have e := bl_w x 0 (by omega) (by omega) (by omega)
  simp at e
  rw [e]
  rfl
theorem zNt (a g p : Int) (h0 : 0 ≤ g) (h1 : g ≤ 4294967295) : zAD Tryz.prog 222 [.st [uv a, uv g], iv p] (.bool (balMay g p)) := by
 refine sZ Tryz.func222 Tryz.ntmps222 ?_
 exact wx1 (qX1 (zN1 _ h0 h1)) trivial @balMay.eq_1
theorem zNZ (m : MchD) (h0 : 0 ≤ m.given) (h1 : m.given ≤ 4294967295) : zAD Tryz.prog 165 [.st m.row] (.bool (decide ((m.keys.length : Int) ≤ 16) && timMay m.tim && dskMay m.dk (pagesD m.mem) && nicMay m.nc (pagesD m.mem) && balMay m.given (pagesD m.mem))) := by
 refine sZ Tryz.func165 Tryz.ntmps165 ?_
 exact wx (qX6 (zBS m.mem) (zO6 m.keys) (zNR m.tim) (zOU m.dk (pagesD m.mem)) (zMs m.nc (pagesD m.mem)) (zNt m.tgt m.given (pagesD m.mem) h0 h1)) trivial
theorem zEu (m : MchD) (h0 : 0 ≤ m.given) (h1 : m.given ≤ 4294967295) : zAD Tryz.prog 107 [.st m.row] (.bool (mayD m)) := by
 refine sZ Tryz.func107 Tryz.ntmps107 ?_
 exact wx1 (qX2 (zBS m.mem) (zNZ m h0 h1)) trivial @mayD.eq_1
theorem zC0 (xs : List (List V)) (t : Bool) (z : Nat) (hz : z = 4 ∨ (z = 0 ∧ xs = [])) (hb : xs.length ≤ 100000) : zAD Tryz.prog 61 [.sl z t xs] (.new 107 4 xs) := by
 refine sX Tryz.func61 Tryz.ntmps61 ?_;intros;refine wr ?_
 refine ⟨?_, fun hx => ?_⟩
 ·refine au ?_;intros;refine wr ?_
  refine cF0 rfl ?_
  refine aum1 @maxLen.eq_1 ?_;intros;refine wr ?_
  refine zAB ?_
  simp
 ·subst hx
  refine au ?_;intros;refine wr ?_
  refine gT00 rfl ?_;intros;refine wr ?_
  refine zAc 2 107 4 (by decide) rfl ?_
  refine zAB ?_
  simp
theorem zJF (xs : List (List V)) (t : Bool) (z : Nat) (hz : z = 3 ∨ (z = 0 ∧ xs = [])) (hb : xs.length ≤ 100000) : zAD Tryz.prog 62 [.sl z t xs] (.new 72 3 xs) := by
 refine sX Tryz.func62 Tryz.ntmps62 ?_;intros;refine wr ?_
 refine ⟨?_, fun hx => ?_⟩
 ·refine au ?_;intros;refine wr ?_
  refine cF0 rfl ?_
  refine aum1 @maxLen.eq_1 ?_;intros;refine wr ?_
  refine zAB ?_
  simp
 ·subst hx
  refine au ?_;intros;refine wr ?_
  refine gT00 rfl ?_;intros;refine wr ?_
  refine zAc 2 72 3 (by decide) rfl ?_
  refine zAB ?_
  simp
theorem zGs (xs : List (List V)) (t : Bool) (z : Nat) (hz : z = 4 ∨ (z = 0 ∧ xs = [])) (hb : xs.length ≤ 100000) : zAD Tryz.prog 63 [.sl z t xs] (.new 81 4 xs) := by
 refine sX Tryz.func63 Tryz.ntmps63 ?_;intros;refine wr ?_
 refine ⟨?_, fun hx => ?_⟩
 ·refine au ?_;intros;refine wr ?_
  refine cF0 rfl ?_
  refine aum1 @maxLen.eq_1 ?_;intros;refine wr ?_
  refine zAB ?_
  simp
 ·subst hx
  refine au ?_;intros;refine wr ?_
  refine gT00 rfl ?_;intros;refine wr ?_
  refine zAc 2 81 4 (by decide) rfl ?_
  refine zAB ?_
  simp
theorem zN6 (xs : List (List V)) (t : Bool) (z : Nat) (hz : z = 3 ∨ (z = 0 ∧ xs = [])) (hb : xs.length ≤ 100000) : zAD Tryz.prog 64 [.sl z t xs] (.new 140 3 xs) := by
 refine sX Tryz.func64 Tryz.ntmps64 ?_;intros;refine wr ?_
 refine ⟨?_, fun hx => ?_⟩
 ·refine au ?_;intros;refine wr ?_
  refine cF0 rfl ?_
  refine aum1 @maxLen.eq_1 ?_;intros;refine wr ?_
  refine zAB ?_
  simp
 ·subst hx
  refine au ?_;intros;refine wr ?_
  refine gT00 rfl ?_;intros;refine wr ?_
  refine zAc 2 140 3 (by decide) rfl ?_
  refine zAB ?_
  simp
theorem zNc (xs : List (List V)) (t : Bool) (z : Nat) (hz : z = 4 ∨ (z = 0 ∧ xs = [])) (hb : xs.length ≤ 100000) : zAD Tryz.prog 66 [.sl z t xs] (.new 144 4 xs) := by
 refine sX Tryz.func66 Tryz.ntmps66 ?_;intros;refine wr ?_
 refine ⟨?_, fun hx => ?_⟩
 ·refine au ?_;intros;refine wr ?_
  refine cF0 rfl ?_
  refine aum1 @maxLen.eq_1 ?_;intros;refine wr ?_
  refine zAB ?_
  simp
 ·subst hx
  refine au ?_;intros;refine wr ?_
  refine gT00 rfl ?_;intros;refine wr ?_
  refine zAc 2 144 4 (by decide) rfl ?_
  refine zAB ?_
  simp
theorem zBB (l : List EntD) : (ents l).length = l.length := by simp [ents]
theorem zFa (l : List EvD) : (evs l).length = l.length := by simp [evs]
theorem zEC (r : RecD) (h1 : r.m.mem.length ≤ 100000) (h2 : r.log.length ≤ 100000) (h3 : r.queue.length ≤ 100000) : zAD Tryz.prog 67 [.st r.row] (.st r.row) := by
 refine sZ Tryz.func67 Tryz.ntmps67 ?_
 exact wx (qX3 (zBQ (ints .u32 r.m.mem) false 1 (.inl rfl) (by rw [zAP]; exact h1)) (zC0 (ents r.log) false 4 (.inl rfl) (by rw [zBB]; exact h2)) (zJF (evs r.queue) false 3 (.inl rfl) (by rw [zFa]; exact h3))) trivial
theorem zFc (r : RplD) (h1 : r.m.mem.length ≤ 100000) (h2 : r.log.length ≤ 100000) : zAD Tryz.prog 94 [.st r.row] (.st r.row) := by
 refine sZ Tryz.func94 Tryz.ntmps94 ?_
 exact wx (qX2 (zBQ (ints .u32 r.m.mem) false 1 (.inl rfl) (by rw [zAP]; exact h1)) (zC0 (ents r.log) false 4 (.inl rfl) (by rw [zBB]; exact h2))) trivial
theorem zNe (m : MchD) (h1 : m.mem.length ≤ 100000) : zAD Tryz.prog 59 [.st m.row] (.st (RecD.row ⟨m, 0, [], []⟩)) := by
 refine sZ Tryz.func59 Tryz.ntmps59 ?_
 exact wx1 (qX1 (zEC ⟨m, 0, [], []⟩ h1 (by simp) (by simp))) trivial (kX2 @ents.eq_1 @evs.eq_1)
theorem zIy (m : MchD) (h1 : m.mem.length ≤ 100000) : zAD Tryz.prog 43 [.st m.row] (.st (RplD.row ⟨m, [], m.count, 0⟩)) := by
 refine sZ Tryz.func43 Tryz.ntmps43 ?_
 exact wx1 (qX1 (zFc ⟨m, [], m.count, 0⟩ h1 (by simp))) trivial @ents.eq_1
theorem zFj (n : Int) : zAD Tryz.prog 42 [lv n] (.tup [.st (SndD.row ⟨1, n, n, []⟩), .st (RcvD.row ⟨1, n, []⟩)]) := by
 refine sZ Tryz.func42 Tryz.ntmps42 ?_
 exact wx1 trivial trivial (kX2 @segs.eq_1 @zGP.eq_1)
theorem zMy (d : DetD) : zAD Tryz.prog 93 [.st d.row] (.bool (decide (1 ≤ d.limit) && decide (d.limit ≤ 20) && decide (0 ≤ d.silent) && decide (d.silent ≤ d.limit))) := by
 refine sZ Tryz.func93 Tryz.ntmps93 ?_
 exact wx trivial trivial
theorem zHM (k : Int) : zAD Tryz.prog 41 [iv k] (.tup [.st (DetD.row (if zDf k then ⟨k, 0, 0⟩ else zDet)), .bool (zDf k)]) := by
 refine sZ Tryz.func41 Tryz.ntmps41 ?_
 exact wx1 (qX1 (zMy ⟨k, 0, 0⟩)) trivial (kX2 @zDf.eq_1 @zDet.eq_1)
abbrev freshV (host : Int) (m : MchD) (gen limit : Int) : V := .tup [.st (RepD.row (if zA7 host m gen limit then zCe host m gen limit else zRep)), .bool (zA7 host m gen limit)]
theorem zFG (host : Int) (m : MchD) (gen limit : Int) (h0 : 0 ≤ m.given) (h1 : m.given ≤ 4294967295) : zAD Tryz.prog 58 [iv host, .st m.row, lv gen, iv limit] (freshV host m gen limit) := by
 cases hd : zDf limit with
 | false =>
  have hf : zA7 host m gen limit = false := by simp [zA7, hd]
  refine sZ Tryz.func58 Tryz.ntmps58 ?_
  exact wx1 (qX2 (zHM limit) (zEu m h0 h1)) trivial (kX2 @hd @hf)
 | true =>
  refine sX Tryz.func58 Tryz.ntmps58 ?_;(repeat intro K hK);refine wr ?_
  (refine au1 @hd ?_; (repeat intro K hK); refine wr ?_)
  repeat' ((first | (refine zAA rfl (fun h => ?_) (fun h => ?_) <;> (first | (simp [hd] at h; done) | (simp [hd] at h) | skip) <;> (first | (exfalso; omega) | skip)) | refine cc1 (zHM limit) @hd ?_ | refine cc1 (zEu m h0 h1) @hd ?_ | exact rt1 @hd | fail) <;> (refine au1 @hd ?_; (repeat intro K hK); refine wr ?_))
  ·rename_i h _
   have hf : zA7 host m gen limit = false := by simp [zA7, hd]; grind
   refine zAB ?_
   simp [hf]
  ·rename_i h _
   have hf : zA7 host m gen limit = true := by simp [zA7, hd]; grind
   refine zAB ?_
   simp [hf, zCe]
abbrev zPf (host : Int) (m : MchD) (gen limit : Int) : V := .tup [.st (RepD.row (if zA7 host m gen limit then zF3 host m gen limit else zRep)), .bool (zA7 host m gen limit)]
abbrev zSU (host : Int) (m : MchD) (gen limit : Int) : V := .tup [.st (RepD.row (if zA7 host m gen limit then zDp host m gen limit else zRep)), .bool (zA7 host m gen limit)]
theorem zJW (host : Int) (m : MchD) (gen limit : Int) (h0 : 0 ≤ m.given) (h1 : m.given ≤ 4294967295) (hm : m.mem.length ≤ 100000) : zAD Tryz.prog 23 [iv host, .st m.row, lv gen, iv limit] (zPf host m gen limit) := by
 cases hf : zA7 host m gen limit with
 | false =>
  refine sZ Tryz.func23 Tryz.ntmps23 ?_
  exact wx1 (qX1 (zFG host m gen limit h0 h1)) trivial @hf
 | true =>
  refine sZ Tryz.func23 Tryz.ntmps23 ?_
  exact wx1 (qX3 (zFG host m gen limit h0 h1) (zNe m hm) (zFj m.count)) trivial (kX3 @hf @zCe.eq_1 @zF3.eq_1)
theorem zN5 (host : Int) (m : MchD) (gen limit : Int) (h0 : 0 ≤ m.given) (h1 : m.given ≤ 4294967295) (hm : m.mem.length ≤ 100000) : zAD Tryz.prog 27 [iv host, .st m.row, lv gen, iv limit] (zSU host m gen limit) := by
 cases hf : zA7 host m gen limit with
 | false =>
  refine sZ Tryz.func27 Tryz.ntmps27 ?_
  exact wx1 (qX1 (zFG host m gen limit h0 h1)) trivial @hf
 | true =>
  refine sZ Tryz.func27 Tryz.ntmps27 ?_
  exact wx1 (qX3 (zFG host m gen limit h0 h1) (zIy m hm) (zFj m.count)) trivial (kX3 @hf @zCe.eq_1 @zDp.eq_1)
theorem zDH (l : List Int) : zAD Tryz.prog 124 [memV l] (iv (pagesD l)) := by
 refine sZ Tryz.func124 Tryz.ntmps124 ?_
 exact wx1 trivial trivial (kX2 @zAP @pagesD.eq_1)
theorem zLv (s : Str) : zAD Tryz.prog 125 [.st [.str s]] (.bool (decide ((s.length : Int) ≤ 16))) := by
 refine sZ Tryz.func125 Tryz.ntmps125 ?_
 exact wx trivial trivial
theorem zLh (t : TimD) : zAD Tryz.prog 126 [.st t.row] (.bool (timMay t)) := by
 refine sZ Tryz.func126 Tryz.ntmps126 ?_
 exact wx1 trivial trivial @timMay.eq_1
theorem zLb (d : DskD) (p : Int) : zAD Tryz.prog 127 [.st d.row, iv p] (.bool (dskMay d p)) := by
 refine sZ Tryz.func127 Tryz.ntmps127 ?_
 exact wx1 trivial trivial (kX2 @dskMay.eq_1 @zGk.eq_1)
theorem zLg (n : NicD) (p : Int) : zAD Tryz.prog 128 [.st n.row, iv p] (.bool (nicMay n p)) := by
 refine sZ Tryz.func128 Tryz.ntmps128 ?_
 exact wx1 trivial trivial @nicMay.eq_1
theorem zSJ {α : Type} (xs ys : List α) (h : xs.length = ys.length) : spl xs 0 ys = ys := by
 apply List.ext_getElem?
 intro j
 rw [zBz _ _ _ _ (by omega)]
 split
 ·simp
 ·rw [List.getElem?_eq_none (by omega), List.getElem?_eq_none (by omega)]
theorem zTD (z : List V) (l : List Int) : spl (List.replicate l.length z) 0 (ints .u32 l) = ints .u32 l := zSJ _ _ (by simp [ints])
theorem zN2 (l : List Int) : (ints .u32 l).take l.length = ints .u32 l := by rw [List.take_of_length_le]; simp [ints]
theorem zK1 (l : List Int) (h : l.length ≤ 100000) : zAD Tryz.prog 130 [memV l] (.new 25 1 (ints .u32 l)) := by
 refine sZ Tryz.func130 Tryz.ntmps130 ?_
 refine aum1 (kX2 @zAP @maxLen.eq_1) ?_;intros;refine wr ?_
 exact wx1 trivial trivial (kX4 @zAP @maxLen.eq_1 @zN2 @zTD)
theorem zSH (m : MchD) (h1 : m.mem.length ≤ 100000) : zAD Tryz.prog 81 [.st m.row] (.st m.row) := by
 refine sZ Tryz.func81 Tryz.ntmps81 ?_
 exact wx (qX1 (zK1 m.mem h1)) trivial
theorem zMD (n : Int) : zAD Tryz.prog 47 [lv n] (.tup [.st (SndD.row ⟨1, n, n, []⟩), .st (RcvD.row ⟨1, n, []⟩)]) := by
 refine sZ Tryz.func47 Tryz.ntmps47 ?_
 exact wx trivial trivial
theorem zLd (d : DetD) : zAD Tryz.prog 95 [.st d.row] (.bool (decide (1 ≤ d.limit) && decide (d.limit ≤ 20) && decide (0 ≤ d.silent) && decide (d.silent ≤ d.limit))) := by
 refine sZ Tryz.func95 Tryz.ntmps95 ?_
 exact wx trivial trivial
theorem zNg (k : Int) : zAD Tryz.prog 44 [iv k] (.tup [.st (DetD.row (if zDf k then ⟨k, 0, 0⟩ else zDet)), .bool (zDf k)]) := by
 refine sZ Tryz.func44 Tryz.ntmps44 ?_
 exact wx1 (qX1 (zLd ⟨k, 0, 0⟩)) trivial @zDf.eq_1
theorem zL7 (m : MchD) (h1 : m.mem.length ≤ 100000) : zAD Tryz.prog 46 [.st m.row] (.st (RplD.row ⟨m, [], m.count, 0⟩)) := by
 refine sX Tryz.func46 Tryz.ntmps46 ?_;intros;refine wr ?_
 refine zAE ([0, 1, 2, 3, 4, 5] : List Nat) ([[], [0], [], [2], [0, 1, 2, 3], [0, 1, 2, 3, 4]] : List (List Nat)) ([(4, ([[], [0], [], [2]], [(3, 1)])), (1, ([], [])), (1, ([], []))] : List (Nat × List (List Nat) × List (Nat × Nat))) (by kernel_rfl) (by kernel_rfl) (by kernel_rfl) ?_
 refine af ?_;intros;refine wr ?_
 refine cXf (zSH m h1) ?_;intros;refine wr ?_
 refine zAI ?_
 refine zAB ?_
 simp
def hasF (g : Int) (i : Nat) : Bool := g.toNat.testBit i
theorem bitE (g : Int) (i : Nat) (hi : i < 32) (h0 : 0 ≤ g) (h1 : g ≤ 4294967295) : (IntKind.u32.wrap (((g.fdiv (2 ^ min i IntKind.u32.bits) % 2 ^ IntKind.u32.bits).toNat &&& 1 % 2 ^ IntKind.u32.bits : Nat) : Int) == 1) = hasF g i := by
 have e1 : min i IntKind.u32.bits = i := by show min i 32 = i; omega
 rw [e1, Int.fdiv_eq_ediv_of_nonneg _ (by exact Int.pow_nonneg (by decide))]
 obtain ⟨n, rfl⟩ : ∃ n : Nat, g = n := ⟨g.toNat, by omega⟩
 have e2 : ((n : Int) / 2 ^ i % 2 ^ IntKind.u32.bits).toNat = n / 2 ^ i := by
  have : ((n : Int) / 2 ^ i) = ((n / 2 ^ i : Nat) : Int) := by simp
  rw [this]
  have hle : n / 2 ^ i ≤ n := Nat.div_le_self _ _
  generalize n / 2 ^ i = y at hle ⊢
  rw [Int.emod_eq_of_lt (by omega) (by show (y : Int) < 4294967296; omega)]
  simp
 have e3 : 1 % 2 ^ IntKind.u32.bits = 1 := by decide
 rw [e2, e3, Nat.and_one_is_mod]
 unfold hasF
 rw [Int.toNat_natCast, Nat.testBit_eq_decide_div_mod_eq, IntKind.wrap_u32]
 by_cases h : n / 2 ^ i % 2 = 1
 ·rw [h]; simp
 ·have h' : n / 2 ^ i % 2 = 0 := by omega
  rw [h']; simp
theorem len_lt (n q : Nat) (hn : n < 4294967296) : Lib.bitLen n ≤ q ↔ n < 2 ^ q := by
 constructor
 ·intro hb
  apply Classical.byContradiction
  intro hc
  have hc : 2 ^ q ≤ n := Nat.le_of_not_lt hc
  have h2 := Lib.bitLen_shift q n hc (by omega)
  have h3 : 0 < n / 2 ^ q := Nat.div_pos hc (Nat.two_pow_pos q)
  have h5 := Nat.div_le_self n (2 ^ q)
  generalize n / 2 ^ q = y at h2 h3 h5
  have h4 := Lib.bitLen_half y (by omega) (by omega)
  omega
 ·intro hlt
  by_cases hq64 : q ≤ 64
  ·exact Lib.bitLen_le n q hq64 hlt
  ·have := Lib.bitLen_le n 64 (by omega) (by omega); omega
theorem zTZ (n q : Nat) (hn : n < 4294967296) : n < 2 ^ q ↔ ∀ j < 32, n.testBit j = true → j < q := by
 constructor
 ·intro hlt j _ ht
  apply Classical.byContradiction
  intro hc
  have : n < 2 ^ j := Nat.lt_of_lt_of_le hlt (Nat.pow_le_pow_right (by decide) (by omega))
  rw [Nat.testBit_lt_two_pow this] at ht
  cases ht
 ·intro h
  apply Nat.lt_pow_two_of_testBit
  intro j hj
  by_cases hj' : j < 32
  ·cases hb : n.testBit j with
   | false => rfl
   | true => have := h j hj' hb; omega
  ·exact Nat.testBit_lt_two_pow (Nat.lt_of_lt_of_le (show n < 2 ^ 32 by omega) (Nat.pow_le_pow_right (by decide) (by omega)))
theorem zKo (g p : Int) (h0 : 0 ≤ g) (h1 : g ≤ 4294967295) : balMay g p = true ↔ ∀ j < 32, hasF g j = true → (j : Int) < p := by
 have e : balMay g p = true ↔ Lib.bitLen g.toNat ≤ p.toNat := by
  have : max p 0 = (p.toNat : Int) := by omega
  unfold balMay bitLen
  rw [this, decide_eq_true_eq]
  omega
 rw [e, len_lt _ _ (by omega), zTZ _ _ (by omega)]
 unfold hasF
 constructor
 ·intro h j hj ht; have := h j hj ht; omega
 ·intro h j hj ht; have := h j hj ht; omega
theorem zLr (a g p : Int) (h0 : 0 ≤ g) (h1 : g ≤ 4294967295) : zAD Tryz.prog 129 [.st [uv a, uv g], iv p] (.bool (balMay g p)) := by
 refine sX Tryz.func129 Tryz.ntmps129 ?_;intros;refine wr ?_
 obtain ⟨I, hI⟩ : ∃ I : Nat → St → Prop, I = (fun kk ss => ∃ (i : Nat) , i ≤ 32 ∧ kk = 32 - i ∧ (∀ j < i, hasF g j = true → (j : Int) < p) ∧ ss = ⟨22, [(5, .int .i64 i), (2, .ptr 0 2 0 0), (1, iv p)], 1, [(0, some ⟨40, 2, true, false, [[uv a, uv g]]⟩)], 0⟩) := ⟨_, rfl⟩
 refine lX I (id) (by rw [hI]; exact ⟨0, by simp, rfl, by simp, rfl⟩) ?_
 intro kk ss hIk _
 rw [hI] at hIk
 obtain ⟨i, hi, rfl, hx, rfl⟩ := hIk
 refine au ?_;intros;refine wr ?_
 refine zAA rfl (fun h => ?_) (fun h => ?_)
 ·simp at h
  have hw : IntKind.u64.wrap (i : Int) = i := by rw [IntKind.wrap_u64]; omega
  have hb := bitE g i (by omega) h0 h1
  refine au1 (kX3 @iand.eq_1 @hw @hb) ?_;intros;refine wr ?_
  refine zAA rfl (fun h2 => ?_) (fun h2 => ?_)
  ·simp at h2
   have hf : balMay g p = false := by
    cases hc : balMay g p with
    | false => rfl
    | true => have := (zKo g p h0 h1).1 hc i (by omega) h2.1; omega
   refine au ?_;intros;refine wr ?_
   refine zAB ?_
   simp [hf]
  ·simp at h2
   have hnew : ∀ j < i + 1, hasF g j = true → (j : Int) < p := fun j hj hh => by
    by_cases e : j = i
    ·subst e; exact h2 hh
    ·exact hx j (by omega) hh
   refine au ?_;intros;refine wr ?_
   exact aX (id) (by rw [hI]; exact ⟨i + 1, by omega, rfl, hnew, rfl⟩) (zAC (n := (i : Int) + 1) (by omega) (by omega))
 ·simp at h
  have hi : i = 32 := by omega
  subst hi
  have hf : balMay g p = true := (zKo g p h0 h1).2 hx
  refine au ?_;intros;refine wr ?_
  refine zAB ?_
  simp [hf]
theorem zPh (l : List Int) : 0 ≤ pagesD l := by
 unfold pagesD
 split
 ·rw [zAC (by omega) (by omega)]; omega
 ·omega
theorem zQ0 (l : List Int) : decide (pagesD l < 1) = (pagesD l == 0) := by
 have := zPh l
 rw [Bool.eq_iff_iff, decide_eq_true_eq, beq_iff_eq]
 omega
theorem zTN (m : MchD) (h0 : 0 ≤ m.given) (h1 : m.given ≤ 4294967295) : zAD Tryz.prog 79 [.st m.row] (.bool (mayD m)) := by
 refine sZ Tryz.func79 Tryz.ntmps79 ?_
 exact wx1 (qX6 (zDH m.mem) (zLv m.keys) (zLh m.tim) (zLb m.dk (pagesD m.mem)) (zLg m.nc (pagesD m.mem)) (zLr m.tgt m.given (pagesD m.mem) h0 h1)) trivial (kX2 @zQ0 @mayD.eq_1)
theorem zPa (l : List Int) (hb : l.length ≤ 100000) : zAD Tryz.prog 40 [memV l, memV l] (.bool true) := by
 refine sY Tryz.func40 Tryz.ntmps40 @zAP ?_;intros;refine wr ?_
 refine gF01 rfl @zAP ?_;intros;refine wr ?_
 obtain ⟨I, hI⟩ : ∃ I : Nat → St → Prop, I = (fun kk ss => ∃ (i : Nat) , i ≤ l.length ∧ kk = l.length - i ∧ (True) ∧ ss = ⟨26, [(5, .int .i64 i), (0, memV l), (1, memV l)], 0, [], 0⟩) := ⟨_, rfl⟩
 refine lX I (id) (by rw [hI]; exact ⟨0, by simp, rfl, trivial, rfl⟩) ?_
 intro kk ss hIk _
 rw [hI] at hIk
 obtain ⟨i, hi, rfl, hx, rfl⟩ := hIk
 refine au1 @zAP ?_;intros;refine wr ?_
 refine zAA rfl (fun h => ?_) (fun h => ?_)
 ·simp at h
  have hg : (ints .u32 l)[i]? = some [uv (l.getD i 0)] := by simp [ints, h]
  refine au1 @hg ?_;intros;refine wr ?_
  refine zAE ([0, 1, 2, 3, 4, 5, 6, 7, 8] : List Nat) ([[], [], [0, 1], [0, 1, 2], [], [], [4, 5], [4, 5, 6], [0, 1, 2, 3, 4, 5, 6, 7]] : List (List Nat)) ([(8, ([[], [], [0, 1], [0, 1, 2], [], [], [4, 5], [4, 5, 6]], [])), (1, ([], []))] : List (Nat × List (List Nat) × List (Nat × Nat))) (by kernel_rfl) (by kernel_rfl) (by kernel_rfl) ?_
  refine afm1 (kX2 @zAP @hg) ?_;intros;refine wr ?_
  refine zC9 rfl ?_;intros;refine wr ?_
  exact aX (id) (by rw [hI]; exact ⟨i + 1, by omega, rfl, trivial, rfl⟩) (zAC (n := (i : Int) + 1) (by omega) (by omega))
 ·simp at h
  refine af ?_;intros;refine wr ?_
  refine zAB ?_
  simp
theorem zHO (m : MchD) (hb : m.mem.length ≤ 100000) : zAD Tryz.prog 14 [.st m.row, .st m.row] (.bool true) := by
 refine sZ Tryz.func14 Tryz.ntmps14 ?_
 exact wx1 (qX1 (zPa m.mem hb)) trivial @eqCs.eq_1
theorem zLt (a b : Int) : zAD Tryz.prog 51 [.st (RcvD.row ⟨a, b, []⟩), .st (RcvD.row ⟨a, b, []⟩)] (.bool true) := by
 refine sX Tryz.func51 Tryz.ntmps51 ?_;intros;refine wr ?_
 refine gF00 rfl ?_;intros;refine wr ?_
 obtain ⟨I, hI⟩ : ∃ I : Nat → St → Prop, I = (fun kk ss => ∃ (i : Nat) , i ≤ 0 ∧ kk = 0 - i ∧ (True) ∧ ss = ⟨65, [(5, .int .i64 i), (2, .ptr 0 3 0 0), (3, .ptr 1 3 0 0)], 2, [(0, some ⟨57, 3, true, false, [RcvD.row ⟨a, b, []⟩]⟩), (1, some ⟨57, 3, true, false, [RcvD.row ⟨a, b, []⟩]⟩)], 0⟩) := ⟨_, rfl⟩
 refine lX I (id) (by rw [hI]; exact ⟨0, by simp, rfl, trivial, rfl⟩) ?_
 intro kk ss hIk _
 rw [hI] at hIk
 obtain ⟨i, hi, rfl, hx, rfl⟩ := hIk
 have hi0 : i = 0 := by omega
 subst hi0
 refine au ?_;intros;refine wr ?_
 refine gF00 rfl ?_;intros;refine wr ?_
 refine zAB ?_
 simp

@[simp] theorem wI64 {n : Int} (h1 : -9223372036854775808 ≤ n) (h2 : n ≤ 9223372036854775807) : IntKind.i64.wrap n = n := zAC h1 h2
@[simp] theorem wU64 {n : Int} (h1 : 0 ≤ n) (h2 : n ≤ 18446744073709551615) : IntKind.u64.wrap n = n := by rw [IntKind.wrap_u64]; omega
@[simp] theorem wU32 {n : Int} (h1 : 0 ≤ n) (h2 : n ≤ 4294967295) : IntKind.u32.wrap n = n := by rw [IntKind.wrap_u32]; omega
@[simp] theorem wU8 {n : Int} (h1 : 0 ≤ n) (h2 : n ≤ 255) : IntKind.u8.wrap n = n := by rw [IntKind.wrap_u8]; omega
def mem0 : List Int := List.replicate 256 0
theorem zQA : mem0.length = 256 := by kernel_rfl
theorem zKM : List.replicate 256 [V.int .u32 0] = ints .u32 mem0 := by kernel_rfl
theorem zCp : spl (ints .u32 mem0) 0 [[V.int .u32 0]] = ints .u32 mem0 := by kernel_rfl
theorem zQK : (ints .u32 mem0).set 0 [V.int .u32 0] = ints .u32 mem0 := by kernel_rfl
theorem zCU : (ints .u32 mem0).length = 256 := by kernel_rfl
def mk (s c n : Int) : MchD := { zMch with cpu := ⟨fun _ => 0, 0, fun i => if i = 0 then s else if i = 3 then c else 0⟩, mem := mem0, dk := { zDsk with blocks := 4 }, count := n }
theorem zQg : zAD Tryz.prog 10 [iv 2, iv 3] (iv 2) := by
 refine sZ Tryz.func10 Tryz.ntmps10 ?_
 exact wx trivial trivial
theorem zTT : zAD Tryz.prog 38 [.sl 1 false [[iv 0]]] (.new 25 1 [[uv 0]]) := by
 refine sX Tryz.func38 Tryz.ntmps38 ?_;intros;refine wr ?_
 refine zAc 3 25 1 (by decide) rfl ?_
 obtain ⟨I, hI⟩ : ∃ I : Nat → St → Prop, I = (fun kk ss => ∃ (i : Nat) , i ≤ 1 ∧ kk = 1 - i ∧ (True) ∧ ss = ⟨42, [(4, .int .i64 i), (3, .own 0), (0, .sl 1 false [[iv 0]])], 1, [(0, some ⟨25, 1, false, false, List.replicate i [uv 0]⟩)], 0⟩) := ⟨_, rfl⟩
 refine lX I (id) (by rw [hI]; exact ⟨0, by simp, rfl, trivial, rfl⟩) ?_
 intro kk ss hIk _
 rw [hI] at hIk
 obtain ⟨i, hi, rfl, hx, rfl⟩ := hIk
 refine au ?_;intros;refine wr ?_
 refine zAA rfl (fun h => ?_) (fun h => ?_)
 ·simp at h
  have hi : i = 0 := by omega
  have hg : ([[iv 0]] : List (List V))[i]?.getD [] = [iv 0] := by subst hi; rfl
  refine aum1 (kX2 @hg @h) ?_;intros;refine wr ?_
  refine cT0 rfl ?_
  have hz : IntKind.u32.wrap (iand .i64 0 4294967295) = 0 := by decide
  refine aum1 (kX4 @hg @h @hz @maxLen.eq_1) ?_;intros;refine wr ?_
  refine zFT (1 - (i + 1)) ((fun (i : Nat)  => (⟨42, [(4, .int .i64 i), (3, .own 0), (0, .sl 1 false [[iv 0]])], 1, [(0, some ⟨25, 1, false, false, List.replicate i [uv 0]⟩)], 0⟩ : St)) (i + 1) ) (fun x => if x = 0 then 2 else x) (by omega) (by rw [hI]; exact ⟨i + 1, by omega, rfl, trivial, rfl⟩) ⟨rfl, ?_, ?_, ?_, by simp⟩
  ·simp [leT, ltV, lt1, ren, ren1, zAC (n := (i : Int) + 1) (by omega) (by omega), List.replicate_succ', hz]
  ·simp [leO, lt1, ren1, List.replicate_succ', hz]
  ·(simp; try omega)
 ·simp at h
  have hi : i = 1 := by omega
  subst hi
  refine au ?_;intros;refine wr ?_
  refine zAB ?_
  simp
theorem zM8 : zAD Tryz.prog 92 [iv 8] (.new 25 1 (ints .u32 mem0)) := by
 refine sZ Tryz.func92 Tryz.ntmps92 ?_
 exact wxm1 trivial trivial (kX2 @maxLen.eq_1 @zKM)
theorem zKL : zAD Tryz.prog 91 [uv 0] (.st (CpuD.row ⟨fun _ => 0, 0, fun i => if i = 0 then 1 else 0⟩)) := by
 refine sZ Tryz.func91 Tryz.ntmps91 ?_
 exact wx trivial trivial
theorem zTl : zAD Tryz.prog 39 [iv 8, iv 4, .sl 1 false [[uv 0]]] (.tup [.st (mk 1 0 0).row, .bool true]) := by
 refine sX Tryz.func39 Tryz.ntmps39 ?_;(repeat intro K hK);refine wr ?_
 (refine au1 (kX2 @zCU @zCp) ?_; (repeat intro K hK); refine wr ?_)
 repeat' ((first | (refine zAA rfl (fun h => ?_) (fun h => ?_) <;> (first | (simp [zCU, zCp] at h; done) | (simp [zCU, zCp] at h) | skip) <;> (first | (exfalso; omega) | skip)) | refine cc1 (zKL) (kX2 @zCU @zCp) ?_ | refine cc1 (zM8) (kX2 @zCU @zCp) ?_ | exact rt1 (kX2 @zCU @zCp) | fail) <;> (refine au1 (kX2 @zCU @zCp) ?_; (repeat intro K hK); refine wr ?_))
 refine zAI ?_
 refine zAB ?_
 simp [mk, zQK]
theorem zSN : zAD Tryz.prog 13 [iv 2, .sl 1 false [[iv 0]]] (.st (mk 1 0 0).row) := by
 refine sZ Tryz.func13 Tryz.ntmps13 ?_
 exact wx1 (qX3 (zQg) (zTT) (zTl)) trivial @maxLen.eq_1
theorem zR5 (x : Int) : ∃ a b, zAD Tryz.prog 69 [.int .u64 x] (.tup [.int .u64 a, .int .u64 b]) := by
 apply Exists.intro
 apply Exists.intro
 refine sX Tryz.func69 Tryz.ntmps69 ?_;intros;refine wr ?_
 refine zAB ?_
 simp
 exact ⟨rfl, rfl⟩
theorem zRX (n k : Int) : ∃ m, zAD Tryz.prog 30 [.int .i64 n, .int .i64 k] (.int .i64 m) := by
 apply Exists.intro
 refine sX Tryz.func30 Tryz.ntmps30 ?_;intros;refine wr ?_
 refine cX (Classical.choose_spec (Classical.choose_spec (zR5 _))) ?_;intros;refine wr ?_
 refine zAB ?_
 simp
 rfl
noncomputable def mixA (n k : Int) : Int := Classical.choose (zRX n k)
theorem zRa (n k : Int) : zAD Tryz.prog 30 [.int .i64 n, .int .i64 k] (.int .i64 (mixA n k)) := Classical.choose_spec (zRX n k)
noncomputable def zQw (n : Int) (i : Nat) : UInt8 := UInt8.ofNat (IntKind.u8.wrap (mixA n ((i : Int) / 9))).toNat
theorem zQn (n : Int) (i : Nat) : IntKind.u8.wrap (mixA n ((i : Int) / 9)) = ((zQw n i).toNat : Int) := by
 have h : 0 ≤ IntKind.u8.wrap (mixA n ((i : Int) / 9)) ∧ IntKind.u8.wrap (mixA n ((i : Int) / 9)) < 256 := by rw [IntKind.wrap_u8]; omega
 unfold zQw
 rw [UInt8.toNat_ofNat']; omega
noncomputable def zDJ (n : Int) (k : Nat) : List UInt8 := (List.range k).map (zQw n)
theorem zJA (n : Int) (k : Nat) : (zDJ n k).length = k := by simp [zDJ]
theorem zMI (n : Int) (i : Nat) : zAR (zDJ n i) ++ [[V.int .u8 ((zQw n i).toNat : Int)]] = zAR (zDJ n (i + 1)) := by simp [zDJ, zAR, List.range_succ]
theorem bx_len (n : Int) (i : Nat) : (zAR (zDJ n i)).length = i := by rw [zMK, zJA]
@[simp] theorem strs0 : strs [] = [] := rfl
@[simp] theorem bx0 (n : Int) : zAR (zDJ n 0) = [] := by simp [zDJ, zAR]
theorem zR2 (n : Int) : zAD Tryz.prog 31 [iv n, iv 128] (.str (zDJ n 128)) := by
 refine sX Tryz.func31 Tryz.ntmps31 ?_;intros;refine wr ?_
 refine zAc 5 5 1 (by decide) rfl ?_
 obtain ⟨I, hI⟩ : ∃ I : Nat → St → Prop, I = (fun kk ss => ∃ (i : Nat) , i ≤ 128 ∧ kk = 128 - i ∧ (True) ∧ ss = ⟨22, [(6, .int .i64 i), (5, .own 0), (1, iv 128), (0, iv n)], 1, [(0, some ⟨5, 1, false, false, zAR (zDJ n i)⟩)], 0⟩) := ⟨_, rfl⟩
 refine lX I (id) (by rw [hI]; exact ⟨0, by simp, rfl, trivial, rfl⟩) ?_
 intro kk ss hIk _
 rw [hI] at hIk
 obtain ⟨i, hi, rfl, hx, rfl⟩ := hIk
 refine au ?_;intros;refine wr ?_
 refine zAA rfl (fun h => ?_) (fun h => ?_)
 ·simp at h
  have hl := bx_len n i
  have hb := zQn n i
  have hw : IntKind.i64.wrap ((i : Int) / 9) = (i : Int) / 9 := zAC (by omega) (by omega)
  refine au1 @hw ?_;intros;refine wr ?_
  refine ccm1 (zRa n ((i : Int) / 9)) (kX3 @hl @hb @maxLen.eq_1) ?_
  refine aum1 (kX3 @hl @hb @maxLen.eq_1) ?_;intros;refine wr ?_
  exact aX (fun x => if x = 0 then 3 else x) (by rw [hI]; exact ⟨i + 1, by omega, rfl, trivial, rfl⟩) (kX2 (zAC (n := (i : Int) + 1) (by omega) (by omega)) @zMI)
 ·simp at h
  have hi : i = 128 := by omega
  subst hi
  have hs := zEo (zDJ n 128)
  have hB := zEj (zDJ n 128)
  refine aum1 (kX2 @hs @hB) ?_;intros;refine wr ?_
  refine zAB ?_
  simp
noncomputable def zAu : List (List UInt8) := [zDJ 1 128, zDJ 2 128, zDJ 3 128, zDJ 4 128]
theorem zI1 : zAD Tryz.prog 25 [iv 1] (.new 9 1 (strs zAu)) := by
 refine sX Tryz.func25 Tryz.ntmps25 ?_;intros;refine wr ?_
 refine zAc 3 9 1 (by decide) rfl ?_
 obtain ⟨I, hI⟩ : ∃ I : Nat → St → Prop, I = (fun kk ss => ∃ (i : Nat) , i ≤ 4 ∧ kk = 4 - i ∧ (True) ∧ ss = ⟨17, [(4, .int .i64 i), (3, .own 0), (0, iv 1)], 1, [(0, some ⟨9, 1, false, false, strs (zAu.take i)⟩)], 0⟩) := ⟨_, rfl⟩
 refine lX I (id) (by rw [hI]; exact ⟨0, by simp, rfl, trivial, rfl⟩) ?_
 intro kk ss hIk _
 rw [hI] at hIk
 obtain ⟨i, hi, rfl, hx, rfl⟩ := hIk
 refine au ?_;intros;refine wr ?_
 refine zAA rfl (fun h => ?_) (fun h => ?_)
 ·simp at h
  have hw : IntKind.i64.wrap (1 + (i : Int)) = 1 + (i : Int) := zAC (by omega) (by omega)
  have hl : (strs (zAu.take i)).length = i := by rw [zDR, List.length_take]; simp [zAu]; omega
  have hs : strs (zAu.take i) ++ [[V.str (zDJ (1 + (i : Int)) 128)]] = strs (zAu.take (i + 1)) := by
   have : i = 0 ∨ i = 1 ∨ i = 2 ∨ i = 3 := by omega
   rcases this with rfl | rfl | rfl | rfl <;> simp [zAu, strs]
  refine au1 @hw ?_;intros;refine wr ?_
  refine ccm1 (zR2 (1 + (i : Int))) (kX2 @hl @maxLen.eq_1) ?_
  refine aum1 (kX2 @hl @maxLen.eq_1) ?_;intros;refine wr ?_
  exact aX (fun x => if x = 0 then 3 else x) (by rw [hI]; exact ⟨i + 1, by omega, rfl, trivial, rfl⟩) (kX2 (zAC (n := (i : Int) + 1) (by omega) (by omega)) @hs)
 ·simp at h
  have hi : i = 4 := by omega
  subst hi
  have ht : zAu.take 4 = zAu := by simp [zAu]
  refine au ?_;intros;refine wr ?_
  refine zAB ?_
  simp [ht]
abbrev zLU (bs : List (List UInt8)) (gen owner : Int) : V := .st [.sl 1 false (strs bs), lv gen, iv owner]
theorem zFu (bs : List (List UInt8)) (hb : ∀ b ∈ bs, b.length = 128) (h1 : 1 ≤ bs.length) (h2 : bs.length ≤ 64) : zAD Tryz.prog 60 [zLU bs 0 (-1)] (.bool true) := by
 have hl := zDR bs
 refine sY Tryz.func60 Tryz.ntmps60 @hl ?_;intros;refine wr ?_
 refine zAA rfl (fun h => by simp at h; omega) (fun _ => ?_)
 refine au ?_;intros;refine wr ?_
 obtain ⟨I, hI⟩ : ∃ I : Nat → St → Prop, I = (fun kk ss => ∃ (i : Nat) , i ≤ bs.length ∧ kk = bs.length - i ∧ (True) ∧ ss = ⟨53, [(3, .int .i64 i), (1, .ptr 0 3 0 0)], 1, [(0, some ⟨64, 3, true, false, [[.sl 1 false (strs bs), lv 0, iv (-1)]]⟩)], 0⟩) := ⟨_, rfl⟩
 refine lX I (id) (by rw [hI]; exact ⟨0, by simp, rfl, trivial, rfl⟩) ?_
 intro kk ss hIk _
 rw [hI] at hIk
 obtain ⟨i, hi, rfl, hx, rfl⟩ := hIk
 refine au1 @hl ?_;intros;refine wr ?_
 refine zAA rfl (fun h => ?_) (fun h => ?_)
 ·simp at h
  obtain ⟨s, hs⟩ : ∃ s, bs[i] = s := ⟨_, rfl⟩
  have hge : s.length = 128 := by have := hb _ (List.getElem_mem h); rwa [hs] at this
  have hsg : (strs bs)[i]? = some [.str s] := by simp [strs, h, hs]
  refine aum1 (kX3 @hl @hsg @hge) ?_;intros;refine wr ?_
  refine gF00 rfl ?_;intros;refine wr ?_
  exact aX (id) (by rw [hI]; exact ⟨i + 1, by omega, rfl, trivial, rfl⟩) (zAC (n := (i : Int) + 1) (by omega) (by omega))
 ·simp at h
  refine au ?_;intros;refine wr ?_
  refine zAB ?_
  simp
theorem zGG : ∀ b ∈ zAu, b.length = 128 := by simp [zAu, zJA]
theorem zKZ : zAD Tryz.prog 24 [.sl 1 false (strs zAu)] (.tup [zLU zAu 0 (-1), .bool true]) := by
 have hl : (strs zAu).length = 4 := by rw [zDR]; simp [zAu]
 refine sZ Tryz.func24 Tryz.ntmps24 ?_
 refine aum1 (kX2 @hl @maxLen.eq_1) ?_;intros;refine wr ?_
 exact wx1 (qX1 (zFu zAu zGG (by simp [zAu]) (by simp [zAu]))) trivial (kX2 @hl @maxLen.eq_1)
theorem zKH : zAD Tryz.prog 26 [zLU zAu 0 (-1), iv 0, lv 0] (.tup [zLU zAu 1 0, .bool true]) := by
 refine sZ Tryz.func26 Tryz.ntmps26 ?_
 exact wx (qX1 (zFu zAu zGG (by simp [zAu]) (by simp [zAu]))) trivial
end Go.Proofs.YtjmhjieflbnehaaGreat
end
