/- Machines as plain Lean: their cells, and when they may be executed. -/
import Derived.Test.YtpifpdjefbehmaaGreatTy
import Derived.Test.YtpifpdjefbehmaaGreatAu
import Derived.Lib.BitFns
namespace Go.Proofs.YtpifpdjefbehmaaGreat
open Go.Ab Go.RowKit
set_option linter.unusedSimpArgs false
abbrev Str := List UInt8
structure CpuD where
  x : Nat → Int
  pc : Int
  csr : Nat → Int
structure DskD where
  blocks : Int
  block : Int
  frame : Int
  state : Int
  cmd : Int
  opBlock : Int
  opFrame : Int
  opData : Str
structure NicD where
  frame : Int
  len : Int
  posted : Bool
  buffer : Int
  received : Bool
  got : Int
structure TimD where
  armed : Bool
  dl : Int
  fired : Bool
structure MchD where
  cpu : CpuD
  mem : List Int
  keys : Str
  tim : TimD
  dk : DskD
  nc : NicD
  tgt : Int
  given : Int
  count : Int
  waiting : Bool
  halted : Bool
abbrev uv (n : Int) : V := .int .u32 n
abbrev lv (n : Int) : V := .int .u64 n
abbrev iv (n : Int) : V := .int .i64 n
abbrev memV (l : List Int) : V := .sl 1 false (ints .u32 l)
abbrev CpuD.row (c : CpuD) : List V := [uv (c.x 0), uv (c.x 1), uv (c.x 2), uv (c.x 3), uv (c.x 4), uv (c.x 5), uv (c.x 6), uv (c.x 7), uv (c.x 8), uv (c.x 9), uv (c.x 10), uv (c.x 11), uv (c.x 12), uv (c.x 13), uv (c.x 14), uv (c.x 15), uv c.pc, uv (c.csr 0), uv (c.csr 1), uv (c.csr 2), uv (c.csr 3), uv (c.csr 4), uv (c.csr 5), uv (c.csr 6), uv (c.csr 7)]
abbrev DskD.row (d : DskD) : List V := [uv d.blocks, uv d.block, uv d.frame, iv d.state, iv d.cmd, uv d.opBlock, uv d.opFrame, .str d.opData]
abbrev NicD.row (n : NicD) : List V := [uv n.frame, uv n.len, .bool n.posted, uv n.buffer, .bool n.received, uv n.got]
abbrev TimD.row (t : TimD) : List V := [.bool t.armed, uv t.dl, .bool t.fired]
abbrev MchD.row (m : MchD) : List V := m.cpu.row ++ memV m.mem :: .str m.keys :: (m.tim.row ++ (m.dk.row ++ (m.nc.row ++ [uv m.tgt, uv m.given, lv m.count, .bool m.waiting, .bool m.halted])))
def pagesD (mem : List Int) : Int := if (mem.length : Int).tmod 32 = 0 ∧ (mem.length : Int) ≤ 1024 then IntKind.i64.wrap (mem.length / 32) else 0
def timMay (t : TimD) : Bool := if t.armed then !t.fired && t.dl != 0 else if t.fired then true else t.dl == 0
def cmdMay (d : DskD) : Bool := if d.cmd = 1 then d.opData == [] else if d.cmd = 2 then d.opData.length == 128 else false
def dskMay (d : DskD) (pages : Int) : Bool :=
  if d.blocks > 64 then false
  else if d.state = 0 ∨ d.state = 2 ∨ d.state = 3 then d.cmd == 0 && d.opBlock == 0 && d.opFrame == 0 && d.opData == []
  else if d.state = 1 then cmdMay d && decide (d.opBlock < d.blocks) && decide (IntKind.i64.wrap d.opFrame < pages)
  else false
def nicMay (n : NicD) (pages : Int) : Bool :=
  if n.posted && n.received then false
  else if n.posted && decide (pages ≤ IntKind.i64.wrap n.buffer) then false
  else if !n.posted && n.buffer != 0 then false
  else if n.received then decide (n.got ≥ 1) && decide (n.got ≤ 128) else n.got == 0
/-- the number of bits of a word -/
def bitLen (x : Int) : Nat := Lib.bitLen x.toNat
def balMay (given pages : Int) : Bool := decide ((bitLen given : Int) ≤ max pages 0)
def mayD (m : MchD) : Bool :=
  (pagesD m.mem != 0) && (m.cpu.x 0 == 0) && decide (m.cpu.csr 0 ≤ 31) && decide (m.cpu.csr 7 ≤ 31) && decide (m.cpu.csr 6 ≤ 255) && (m.cpu.csr 1 % 4 == 0) &&
    decide (m.count ≤ 1152921504606846976) && !(m.waiting && m.halted) &&
    (decide ((m.keys.length : Int) ≤ 16) && timMay m.tim && dskMay m.dk (pagesD m.mem) && nicMay m.nc (pagesD m.mem) && balMay m.given (pagesD m.mem))
end Go.Proofs.YtpifpdjefbehmaaGreat
