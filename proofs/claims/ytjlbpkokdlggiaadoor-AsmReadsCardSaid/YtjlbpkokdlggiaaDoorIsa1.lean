/- Contracts of package isa, and of the document: which operations there are, which instructions are valid. -/
import Derived.Test.YtjlbpkokdlggiaaDoorTy
namespace Go.Proofs.YtjlbpkokdlggiaaDoor
open Go.Ab
set_option linter.unusedSimpArgs false
set_option maxRecDepth 100000
structure InstD where
  op : Int
  a : Int
  b : Int
  c : Int
  imm : Int
  deriving DecidableEq
abbrev InstD.row (i : InstD) : List V := [.int .i64 i.op, .int .i64 i.a, .int .i64 i.b, .int .i64 i.c, .int .i32 i.imm]
/-- the form of an operation (the document's numbers), 0: there is none -/
def formD (op : Int) : Int :=
  if 1 ≤ op ∧ op ≤ 13 then 2
  else if op = 16 ∨ op = 23 ∨ (32 ≤ op ∧ op ≤ 36) ∨ (40 ≤ op ∧ op ≤ 45) ∨ op = 49 then 3
  else if 17 ≤ op ∧ op ≤ 19 then 4
  else if 20 ≤ op ∧ op ≤ 22 then 5
  else if op = 24 then 6
  else if op = 48 then 7
  else if op = 58 ∨ op = 59 then 8
  else if op = 60 ∨ op = 61 then 9
  else if op = 56 ∨ op = 57 ∨ (62 ≤ op ∧ op ≤ 64) then 1
  else 0
def lowD (f : Int) : Int := if f = 3 ∨ f = 7 then -32768 else 0
def highD (f : Int) : Int := if f = 3 ∨ f = 7 then 32767 else if f = 4 ∨ f = 6 then 65535 else if f = 5 then 31 else if f = 8 then 7 else if f = 9 then 11 else 0
def uA (f : Int) : Bool := decide (2 ≤ f)
def uB (f : Int) : Bool := decide (2 ≤ f) && decide (f ≤ 5)
def uC (f : Int) : Bool := decide (f = 2)
abbrev usV (f : Int) : V := .tup [.st [.bool (uA f), .bool (uB f), .bool (uC f), .int .i32 (lowD f), .int .i32 (highD f)], .bool (decide (f ≠ 0))]
set_option maxHeartbeats 16000000 in
theorem use_ok (op : Int) : Meets Tryd.prog 36 [.int .i64 op] (usV (formD op)) := by
  refine Meets.of Tryd.func36 rfl (by kernel_rfl) rfl ?_
  simp only [Tryd.ntmps36, St.start, argT]
  refine au  ?_
  repeat intro K hK
  refine wr ?_
  refine awp_cond rfl (fun h1 => ?_) (fun h1 => ?_)
  · simp at h1
    subst h1
    refine au  ?_
    repeat intro K hK
    refine wr ?_
    refine awp_cond rfl (fun _ => ?_) (fun h => by simp at h)
    refine au  ?_
    repeat intro K hK
    refine wr ?_
    refine awp_ret ?_
    simp [formD, uA, uB, uC, lowD, highD]
  simp at h1
  refine au  ?_
  repeat intro K hK
  refine wr ?_
  refine awp_cond rfl (fun h2 => ?_) (fun h2 => ?_)
  · simp at h2
    subst h2
    refine au  ?_
    repeat intro K hK
    refine wr ?_
    refine awp_cond rfl (fun _ => ?_) (fun h => by simp at h)
    refine au  ?_
    repeat intro K hK
    refine wr ?_
    refine awp_ret ?_
    simp [formD, uA, uB, uC, lowD, highD]
  simp at h2
  refine au  ?_
  repeat intro K hK
  refine wr ?_
  refine awp_cond rfl (fun h3 => ?_) (fun h3 => ?_)
  · simp at h3
    subst h3
    refine au  ?_
    repeat intro K hK
    refine wr ?_
    refine awp_cond rfl (fun _ => ?_) (fun h => by simp at h)
    refine au  ?_
    repeat intro K hK
    refine wr ?_
    refine awp_ret ?_
    simp [formD, uA, uB, uC, lowD, highD]
  simp at h3
  refine au  ?_
  repeat intro K hK
  refine wr ?_
  refine awp_cond rfl (fun h4 => ?_) (fun h4 => ?_)
  · simp at h4
    subst h4
    refine au  ?_
    repeat intro K hK
    refine wr ?_
    refine awp_cond rfl (fun _ => ?_) (fun h => by simp at h)
    refine au  ?_
    repeat intro K hK
    refine wr ?_
    refine awp_ret ?_
    simp [formD, uA, uB, uC, lowD, highD]
  simp at h4
  refine au  ?_
  repeat intro K hK
  refine wr ?_
  refine awp_cond rfl (fun h5 => ?_) (fun h5 => ?_)
  · simp at h5
    subst h5
    refine au  ?_
    repeat intro K hK
    refine wr ?_
    refine awp_cond rfl (fun _ => ?_) (fun h => by simp at h)
    refine au  ?_
    repeat intro K hK
    refine wr ?_
    refine awp_ret ?_
    simp [formD, uA, uB, uC, lowD, highD]
  simp at h5
  refine au  ?_
  repeat intro K hK
  refine wr ?_
  refine awp_cond rfl (fun h6 => ?_) (fun h6 => ?_)
  · simp at h6
    subst h6
    refine au  ?_
    repeat intro K hK
    refine wr ?_
    refine awp_cond rfl (fun _ => ?_) (fun h => by simp at h)
    refine au  ?_
    repeat intro K hK
    refine wr ?_
    refine awp_ret ?_
    simp [formD, uA, uB, uC, lowD, highD]
  simp at h6
  refine au  ?_
  repeat intro K hK
  refine wr ?_
  refine awp_cond rfl (fun h7 => ?_) (fun h7 => ?_)
  · simp at h7
    subst h7
    refine au  ?_
    repeat intro K hK
    refine wr ?_
    refine awp_cond rfl (fun _ => ?_) (fun h => by simp at h)
    refine au  ?_
    repeat intro K hK
    refine wr ?_
    refine awp_ret ?_
    simp [formD, uA, uB, uC, lowD, highD]
  simp at h7
  refine au  ?_
  repeat intro K hK
  refine wr ?_
  refine awp_cond rfl (fun h8 => ?_) (fun h8 => ?_)
  · simp at h8
    subst h8
    refine au  ?_
    repeat intro K hK
    refine wr ?_
    refine awp_cond rfl (fun _ => ?_) (fun h => by simp at h)
    refine au  ?_
    repeat intro K hK
    refine wr ?_
    refine awp_ret ?_
    simp [formD, uA, uB, uC, lowD, highD]
  simp at h8
  refine au  ?_
  repeat intro K hK
  refine wr ?_
  refine awp_cond rfl (fun h9 => ?_) (fun h9 => ?_)
  · simp at h9
    subst h9
    refine au  ?_
    repeat intro K hK
    refine wr ?_
    refine awp_cond rfl (fun _ => ?_) (fun h => by simp at h)
    refine au  ?_
    repeat intro K hK
    refine wr ?_
    refine awp_ret ?_
    simp [formD, uA, uB, uC, lowD, highD]
  simp at h9
  refine au  ?_
  repeat intro K hK
  refine wr ?_
  refine awp_cond rfl (fun h10 => ?_) (fun h10 => ?_)
  · simp at h10
    subst h10
    refine au  ?_
    repeat intro K hK
    refine wr ?_
    refine awp_cond rfl (fun _ => ?_) (fun h => by simp at h)
    refine au  ?_
    repeat intro K hK
    refine wr ?_
    refine awp_ret ?_
    simp [formD, uA, uB, uC, lowD, highD]
  simp at h10
  refine au  ?_
  repeat intro K hK
  refine wr ?_
  refine awp_cond rfl (fun h11 => ?_) (fun h11 => ?_)
  · simp at h11
    subst h11
    refine au  ?_
    repeat intro K hK
    refine wr ?_
    refine awp_cond rfl (fun _ => ?_) (fun h => by simp at h)
    refine au  ?_
    repeat intro K hK
    refine wr ?_
    refine awp_ret ?_
    simp [formD, uA, uB, uC, lowD, highD]
  simp at h11
  refine au  ?_
  repeat intro K hK
  refine wr ?_
  refine awp_cond rfl (fun h12 => ?_) (fun h12 => ?_)
  · simp at h12
    subst h12
    refine au  ?_
    repeat intro K hK
    refine wr ?_
    refine awp_cond rfl (fun _ => ?_) (fun h => by simp at h)
    refine au  ?_
    repeat intro K hK
    refine wr ?_
    refine awp_ret ?_
    simp [formD, uA, uB, uC, lowD, highD]
  simp at h12
  refine au  ?_
  repeat intro K hK
  refine wr ?_
  refine awp_cond rfl (fun h13 => ?_) (fun h13 => ?_)
  · simp at h13
    subst h13
    refine au  ?_
    repeat intro K hK
    refine wr ?_
    refine awp_ret ?_
    simp [formD, uA, uB, uC, lowD, highD]
  simp at h13
  refine au  ?_
  repeat intro K hK
  refine wr ?_
  refine awp_cond rfl (fun h14 => ?_) (fun h14 => ?_)
  · simp at h14
    subst h14
    refine au  ?_
    repeat intro K hK
    refine wr ?_
    refine awp_cond rfl (fun _ => ?_) (fun h => by simp at h)
    refine au  ?_
    repeat intro K hK
    refine wr ?_
    refine awp_ret ?_
    simp [formD, uA, uB, uC, lowD, highD]
  simp at h14
  refine au  ?_
  repeat intro K hK
  refine wr ?_
  refine awp_cond rfl (fun h15 => ?_) (fun h15 => ?_)
  · simp at h15
    subst h15
    refine au  ?_
    repeat intro K hK
    refine wr ?_
    refine awp_cond rfl (fun _ => ?_) (fun h => by simp at h)
    refine au  ?_
    repeat intro K hK
    refine wr ?_
    refine awp_ret ?_
    simp [formD, uA, uB, uC, lowD, highD]
  simp at h15
  refine au  ?_
  repeat intro K hK
  refine wr ?_
  refine awp_cond rfl (fun h16 => ?_) (fun h16 => ?_)
  · simp at h16
    subst h16
    refine au  ?_
    repeat intro K hK
    refine wr ?_
    refine awp_cond rfl (fun _ => ?_) (fun h => by simp at h)
    refine au  ?_
    repeat intro K hK
    refine wr ?_
    refine awp_ret ?_
    simp [formD, uA, uB, uC, lowD, highD]
  simp at h16
  refine au  ?_
  repeat intro K hK
  refine wr ?_
  refine awp_cond rfl (fun h17 => ?_) (fun h17 => ?_)
  · simp at h17
    subst h17
    refine au  ?_
    repeat intro K hK
    refine wr ?_
    refine awp_cond rfl (fun _ => ?_) (fun h => by simp at h)
    refine au  ?_
    repeat intro K hK
    refine wr ?_
    refine awp_ret ?_
    simp [formD, uA, uB, uC, lowD, highD]
  simp at h17
  refine au  ?_
  repeat intro K hK
  refine wr ?_
  refine awp_cond rfl (fun h18 => ?_) (fun h18 => ?_)
  · simp at h18
    subst h18
    refine au  ?_
    repeat intro K hK
    refine wr ?_
    refine awp_cond rfl (fun _ => ?_) (fun h => by simp at h)
    refine au  ?_
    repeat intro K hK
    refine wr ?_
    refine awp_ret ?_
    simp [formD, uA, uB, uC, lowD, highD]
  simp at h18
  refine au  ?_
  repeat intro K hK
  refine wr ?_
  refine awp_cond rfl (fun h19 => ?_) (fun h19 => ?_)
  · simp at h19
    subst h19
    refine au  ?_
    repeat intro K hK
    refine wr ?_
    refine awp_cond rfl (fun _ => ?_) (fun h => by simp at h)
    refine au  ?_
    repeat intro K hK
    refine wr ?_
    refine awp_ret ?_
    simp [formD, uA, uB, uC, lowD, highD]
  simp at h19
  refine au  ?_
  repeat intro K hK
  refine wr ?_
  refine awp_cond rfl (fun h20 => ?_) (fun h20 => ?_)
  · simp at h20
    subst h20
    refine au  ?_
    repeat intro K hK
    refine wr ?_
    refine awp_cond rfl (fun _ => ?_) (fun h => by simp at h)
    refine au  ?_
    repeat intro K hK
    refine wr ?_
    refine awp_ret ?_
    simp [formD, uA, uB, uC, lowD, highD]
  simp at h20
  refine au  ?_
  repeat intro K hK
  refine wr ?_
  refine awp_cond rfl (fun h21 => ?_) (fun h21 => ?_)
  · simp at h21
    subst h21
    refine au  ?_
    repeat intro K hK
    refine wr ?_
    refine awp_cond rfl (fun _ => ?_) (fun h => by simp at h)
    refine au  ?_
    repeat intro K hK
    refine wr ?_
    refine awp_ret ?_
    simp [formD, uA, uB, uC, lowD, highD]
  simp at h21
  refine au  ?_
  repeat intro K hK
  refine wr ?_
  refine awp_cond rfl (fun h22 => ?_) (fun h22 => ?_)
  · simp at h22
    subst h22
    refine au  ?_
    repeat intro K hK
    refine wr ?_
    refine awp_cond rfl (fun _ => ?_) (fun h => by simp at h)
    refine au  ?_
    repeat intro K hK
    refine wr ?_
    refine awp_ret ?_
    simp [formD, uA, uB, uC, lowD, highD]
  simp at h22
  refine au  ?_
  repeat intro K hK
  refine wr ?_
  refine awp_cond rfl (fun h23 => ?_) (fun h23 => ?_)
  · simp at h23
    subst h23
    refine au  ?_
    repeat intro K hK
    refine wr ?_
    refine awp_cond rfl (fun _ => ?_) (fun h => by simp at h)
    refine au  ?_
    repeat intro K hK
    refine wr ?_
    refine awp_ret ?_
    simp [formD, uA, uB, uC, lowD, highD]
  simp at h23
  refine au  ?_
  repeat intro K hK
  refine wr ?_
  refine awp_cond rfl (fun h24 => ?_) (fun h24 => ?_)
  · simp at h24
    subst h24
    refine au  ?_
    repeat intro K hK
    refine wr ?_
    refine awp_cond rfl (fun _ => ?_) (fun h => by simp at h)
    refine au  ?_
    repeat intro K hK
    refine wr ?_
    refine awp_ret ?_
    simp [formD, uA, uB, uC, lowD, highD]
  simp at h24
  refine au  ?_
  repeat intro K hK
  refine wr ?_
  refine awp_cond rfl (fun h25 => ?_) (fun h25 => ?_)
  · simp at h25
    subst h25
    refine au  ?_
    repeat intro K hK
    refine wr ?_
    refine awp_cond rfl (fun _ => ?_) (fun h => by simp at h)
    refine au  ?_
    repeat intro K hK
    refine wr ?_
    refine awp_ret ?_
    simp [formD, uA, uB, uC, lowD, highD]
  simp at h25
  refine au  ?_
  repeat intro K hK
  refine wr ?_
  refine awp_cond rfl (fun h26 => ?_) (fun h26 => ?_)
  · simp at h26
    subst h26
    refine au  ?_
    repeat intro K hK
    refine wr ?_
    refine awp_cond rfl (fun _ => ?_) (fun h => by simp at h)
    refine au  ?_
    repeat intro K hK
    refine wr ?_
    refine awp_ret ?_
    simp [formD, uA, uB, uC, lowD, highD]
  simp at h26
  refine au  ?_
  repeat intro K hK
  refine wr ?_
  refine awp_cond rfl (fun h27 => ?_) (fun h27 => ?_)
  · simp at h27
    subst h27
    refine au  ?_
    repeat intro K hK
    refine wr ?_
    refine awp_ret ?_
    simp [formD, uA, uB, uC, lowD, highD]
  simp at h27
  refine au  ?_
  repeat intro K hK
  refine wr ?_
  refine awp_cond rfl (fun h28 => ?_) (fun h28 => ?_)
  · simp at h28
    subst h28
    refine au  ?_
    repeat intro K hK
    refine wr ?_
    refine awp_cond rfl (fun _ => ?_) (fun h => by simp at h)
    refine au  ?_
    repeat intro K hK
    refine wr ?_
    refine awp_ret ?_
    simp [formD, uA, uB, uC, lowD, highD]
  simp at h28
  refine au  ?_
  repeat intro K hK
  refine wr ?_
  refine awp_cond rfl (fun h29 => ?_) (fun h29 => ?_)
  · simp at h29
    subst h29
    refine au  ?_
    repeat intro K hK
    refine wr ?_
    refine awp_cond rfl (fun _ => ?_) (fun h => by simp at h)
    refine au  ?_
    repeat intro K hK
    refine wr ?_
    refine awp_ret ?_
    simp [formD, uA, uB, uC, lowD, highD]
  simp at h29
  refine au  ?_
  repeat intro K hK
  refine wr ?_
  refine awp_cond rfl (fun h30 => ?_) (fun h30 => ?_)
  · simp at h30
    subst h30
    refine au  ?_
    repeat intro K hK
    refine wr ?_
    refine awp_ret ?_
    simp [formD, uA, uB, uC, lowD, highD]
  simp at h30
  refine au  ?_
  repeat intro K hK
  refine wr ?_
  refine awp_cond rfl (fun h31 => ?_) (fun h31 => ?_)
  · simp at h31
    subst h31
    refine au  ?_
    repeat intro K hK
    refine wr ?_
    refine awp_cond rfl (fun _ => ?_) (fun h => by simp at h)
    refine au  ?_
    repeat intro K hK
    refine wr ?_
    refine awp_ret ?_
    simp [formD, uA, uB, uC, lowD, highD]
  simp at h31
  refine au  ?_
  repeat intro K hK
  refine wr ?_
  refine awp_cond rfl (fun h32 => ?_) (fun h32 => ?_)
  · simp at h32
    subst h32
    refine au  ?_
    repeat intro K hK
    refine wr ?_
    refine awp_cond rfl (fun _ => ?_) (fun h => by simp at h)
    refine au  ?_
    repeat intro K hK
    refine wr ?_
    refine awp_ret ?_
    simp [formD, uA, uB, uC, lowD, highD]
  simp at h32
  refine au  ?_
  repeat intro K hK
  refine wr ?_
  refine awp_cond rfl (fun h33 => ?_) (fun h33 => ?_)
  · simp at h33
    subst h33
    refine au  ?_
    repeat intro K hK
    refine wr ?_
    refine awp_ret ?_
    simp [formD, uA, uB, uC, lowD, highD]
  simp at h33
  refine au  ?_
  repeat intro K hK
  refine wr ?_
  refine awp_cond rfl (fun h34 => ?_) (fun h34 => ?_)
  · simp at h34
    subst h34
    refine au  ?_
    repeat intro K hK
    refine wr ?_
    refine awp_ret ?_
    simp [formD, uA, uB, uC, lowD, highD]
  simp at h34
  refine au  ?_
  repeat intro K hK
  refine wr ?_
  refine awp_cond rfl (fun h35 => ?_) (fun h35 => ?_)
  · simp at h35
    subst h35
    refine au  ?_
    repeat intro K hK
    refine wr ?_
    refine awp_ret ?_
    simp [formD, uA, uB, uC, lowD, highD]
  simp at h35
  refine au  ?_
  repeat intro K hK
  refine wr ?_
  refine awp_cond rfl (fun h36 => ?_) (fun h36 => ?_)
  · simp at h36
    subst h36
    refine au  ?_
    repeat intro K hK
    refine wr ?_
    refine awp_cond rfl (fun _ => ?_) (fun h => by simp at h)
    refine au  ?_
    repeat intro K hK
    refine wr ?_
    refine awp_ret ?_
    simp [formD, uA, uB, uC, lowD, highD]
  simp at h36
  refine au  ?_
  repeat intro K hK
  refine wr ?_
  refine awp_cond rfl (fun h37 => ?_) (fun h37 => ?_)
  · simp at h37
    subst h37
    refine au  ?_
    repeat intro K hK
    refine wr ?_
    refine awp_ret ?_
    simp [formD, uA, uB, uC, lowD, highD]
  simp at h37
  refine au  ?_
  repeat intro K hK
  refine wr ?_
  refine awp_cond rfl (fun h38 => ?_) (fun h38 => ?_)
  · simp at h38
    subst h38
    refine au  ?_
    repeat intro K hK
    refine wr ?_
    refine awp_cond rfl (fun _ => ?_) (fun h => by simp at h)
    refine au  ?_
    repeat intro K hK
    refine wr ?_
    refine awp_ret ?_
    simp [formD, uA, uB, uC, lowD, highD]
  simp at h38
  refine au  ?_
  repeat intro K hK
  refine wr ?_
  refine awp_cond rfl (fun h39 => ?_) (fun h39 => ?_)
  · simp at h39
    subst h39
    refine au  ?_
    repeat intro K hK
    refine wr ?_
    refine awp_ret ?_
    simp [formD, uA, uB, uC, lowD, highD]
  simp at h39
  refine au  ?_
  repeat intro K hK
  refine wr ?_
  refine awp_cond rfl (fun h40 => ?_) (fun h40 => ?_)
  · simp at h40
    subst h40
    refine au  ?_
    repeat intro K hK
    refine wr ?_
    refine awp_cond rfl (fun _ => ?_) (fun h => by simp at h)
    refine au  ?_
    repeat intro K hK
    refine wr ?_
    refine awp_ret ?_
    simp [formD, uA, uB, uC, lowD, highD]
  simp at h40
  refine au  ?_
  repeat intro K hK
  refine wr ?_
  refine awp_cond rfl (fun h41 => ?_) (fun h41 => ?_)
  · simp at h41
    subst h41
    refine au  ?_
    repeat intro K hK
    refine wr ?_
    refine awp_cond rfl (fun _ => ?_) (fun h => by simp at h)
    refine au  ?_
    repeat intro K hK
    refine wr ?_
    refine awp_ret ?_
    simp [formD, uA, uB, uC, lowD, highD]
  simp at h41
  refine au  ?_
  repeat intro K hK
  refine wr ?_
  refine awp_cond rfl (fun h42 => ?_) (fun h42 => ?_)
  · simp at h42
    subst h42
    refine au  ?_
    repeat intro K hK
    refine wr ?_
    refine awp_cond rfl (fun _ => ?_) (fun h => by simp at h)
    refine au  ?_
    repeat intro K hK
    refine wr ?_
    refine awp_ret ?_
    simp [formD, uA, uB, uC, lowD, highD]
  simp at h42
  refine au  ?_
  repeat intro K hK
  refine wr ?_
  refine awp_cond rfl (fun h43 => ?_) (fun h43 => ?_)
  · simp at h43
    subst h43
    refine au  ?_
    repeat intro K hK
    refine wr ?_
    refine awp_cond rfl (fun _ => ?_) (fun h => by simp at h)
    refine au  ?_
    repeat intro K hK
    refine wr ?_
    refine awp_ret ?_
    simp [formD, uA, uB, uC, lowD, highD]
  simp at h43
  refine au  ?_
  repeat intro K hK
  refine wr ?_
  refine awp_cond rfl (fun h44 => ?_) (fun h44 => ?_)
  · simp at h44
    subst h44
    refine au  ?_
    repeat intro K hK
    refine wr ?_
    refine awp_ret ?_
    simp [formD, uA, uB, uC, lowD, highD]
  simp at h44
  refine au  ?_
  repeat intro K hK
  refine wr ?_
  have hf : formD op = 0 := by
    unfold formD
    repeat rw [if_neg (by omega)]
  refine awp_ret ?_
  simp [hf, uA, uB, uC, lowD, highD]
end Go.Proofs.YtjlbpkokdlggiaaDoor
