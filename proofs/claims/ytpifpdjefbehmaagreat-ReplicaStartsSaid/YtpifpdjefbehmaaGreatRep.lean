/- Replicas as plain Lean: their cells. -/
import Derived.Test.YtpifpdjefbehmaaGreatMch
namespace Go.Proofs.YtpifpdjefbehmaaGreat
open Go.Ab Go.RowKit
set_option linter.unusedSimpArgs false
structure EvD where
  kind : Int
  n : Int
  data : Str
structure EntD where
  at_ : Int
  ev : EvD
structure OutD where
  kind : Int
  at_ : Int
  block : Int
  data : Str
structure SegD where
  from_ : Int
  known : Int
  ents : List EntD
structure RecD where
  m : MchD
  clock : Int
  log : List EntD
  queue : List EvD
structure RplD where
  m : MchD
  log : List EntD
  known : Int
  clock : Int
structure GateD where
  held : List OutD
  acked : Int
  bytes : Int
structure SndD where
  base : Int
  tail : Int
  known : Int
  queue : List SegD
structure RcvD where
  next : Int
  known : Int
  early : List (Int × SegD)
structure DetD where
  limit : Int
  silent : Int
  seen : Int
structure RepD where
  host : Int
  role : Int
  gen : Int
  rec_ : RecD
  rpl : RplD
  gate : GateD
  mark : Int
  out : SndD
  inn : RcvD
  watch : DetD
  beats : Int
  cmd : Int
  cmdAt : Int
  hist : List EntD
abbrev EvD.row (e : EvD) : List V := [iv e.kind, uv e.n, .str e.data]
abbrev EntD.row (e : EntD) : List V := [lv e.at_, iv e.ev.kind, uv e.ev.n, .str e.ev.data]
abbrev OutD.row (o : OutD) : List V := [iv o.kind, lv o.at_, uv o.block, .str o.data]
def ents (l : List EntD) : List (List V) := l.map EntD.row
def evs (l : List EvD) : List (List V) := l.map EvD.row
def outs (l : List OutD) : List (List V) := l.map OutD.row
abbrev entsV (l : List EntD) : V := .sl 4 false (ents l)
abbrev SegD.row (g : SegD) : List V := [lv g.from_, lv g.known, entsV g.ents]
def segs (l : List SegD) : List (List V) := l.map SegD.row
def earls (l : List (Int × SegD)) : List (List V) := l.map fun e => [lv e.1, lv e.2.from_, lv e.2.known, entsV e.2.ents]
abbrev RecD.row (r : RecD) : List V := r.m.row ++ [uv r.clock, entsV r.log, .sl 3 false (evs r.queue)]
abbrev RplD.row (r : RplD) : List V := r.m.row ++ [entsV r.log, lv r.known, uv r.clock]
abbrev GateD.row (g : GateD) : List V := [.sl 4 false (outs g.held), lv g.acked, lv g.bytes]
abbrev SndD.row (s : SndD) : List V := [lv s.base, lv s.tail, lv s.known, .sl 3 false (segs s.queue)]
abbrev RcvD.row (r : RcvD) : List V := [lv r.next, lv r.known, .sl 4 false (earls r.early)]
abbrev DetD.row (d : DetD) : List V := [iv d.limit, iv d.silent, lv d.seen]
abbrev RepD.row (r : RepD) : List V := [iv r.host, iv r.role, lv r.gen] ++ (r.rec_.row ++ (r.rpl.row ++ (r.gate.row ++ ([lv r.mark] ++ (r.out.row ++ (r.inn.row ++ (r.watch.row ++ [lv r.beats, iv r.cmd, lv r.cmdAt, entsV r.hist])))))))
def zCpu : CpuD := ⟨fun _ => 0, 0, fun _ => 0⟩
def zDsk : DskD := ⟨0, 0, 0, 0, 0, 0, 0, []⟩
def zNic : NicD := ⟨0, 0, false, 0, false, 0⟩
def zTim : TimD := ⟨false, 0, false⟩
def zMch : MchD := ⟨zCpu, [], [], zTim, zDsk, zNic, 0, 0, 0, false, false⟩
def zRec : RecD := ⟨zMch, 0, [], []⟩
def zRpl : RplD := ⟨zMch, [], 0, 0⟩
def zGate : GateD := ⟨[], 0, 0⟩
def zSnd : SndD := ⟨0, 0, 0, []⟩
def zRcv : RcvD := ⟨0, 0, []⟩
def zDet : DetD := ⟨0, 0, 0⟩
def zRep : RepD := ⟨0, 0, 0, zRec, zRpl, zGate, 0, zSnd, zRcv, zDet, 0, 0, 0, []⟩
attribute [simp] zRep zRec zRpl zMch zCpu zDsk zNic zTim zGate zSnd zRcv zDet
@[simp] theorem nil_ents : ents [] = [] := rfl
@[simp] theorem nil_evs : evs [] = [] := rfl
@[simp] theorem nil_outs : outs [] = [] := rfl
@[simp] theorem nil_segs : segs [] = [] := rfl
@[simp] theorem nil_earls : earls [] = [] := rfl
@[simp] theorem nil_ints (k : IntKind) : ints k [] = [] := rfl
def detOk (limit : Int) : Bool := decide (1 ≤ limit) && decide (limit ≤ 20)
/-- the parts that a new primary and a new backup have in common -/
def freshD (host : Int) (m : MchD) (gen limit : Int) : RepD := { zRep with host := host, gen := gen, gate := ⟨[], m.count, 0⟩, mark := m.count, watch := ⟨limit, 0, 0⟩ }
def freshOk (host : Int) (m : MchD) (gen limit : Int) : Bool := detOk limit && (decide (host = 0) || decide (host = 1)) && !decide (gen = 0) && mayD m && !decide (m.dk.state = 1)
def primD (host : Int) (m : MchD) (gen limit : Int) : RepD := { freshD host m gen limit with role := 1, rec_ := ⟨m, 0, [], []⟩, out := ⟨1, m.count, m.count, []⟩ }
def backD (host : Int) (m : MchD) (gen limit : Int) : RepD := { freshD host m gen limit with role := 2, rpl := ⟨m, [], m.count, 0⟩, inn := ⟨1, m.count, []⟩ }
end Go.Proofs.YtpifpdjefbehmaaGreat
