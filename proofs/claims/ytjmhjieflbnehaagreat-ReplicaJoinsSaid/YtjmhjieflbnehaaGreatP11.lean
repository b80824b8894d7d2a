/- A part of the proof of ReplicaJoins. -/
import Derived.Test.YtjmhjieflbnehaaGreatP04
import Derived.Test.YtjmhjieflbnehaaGreatP05
set_option linter.unusedSimpArgs false
set_option linter.unusedVariables false
set_option maxHeartbeats 16000000
set_option maxRecDepth 100000
section
namespace Go.Proofs.YtjmhjieflbnehaaGreat
open Go.Ab
structure InstD where
 op : Int
 a : Int
 b : Int
 c : Int
 imm : Int
 deriving DecidableEq
abbrev InstD.row (i : InstD) : List V := [.int .i64 i.op, .int .i64 i.a, .int .i64 i.b, .int .i64 i.c, .int .i32 i.imm]
def zAJ (op : Int) : Int :=
 if 1 ≤ op ∧ op ≤ 13 then 2
 else if op = 16 ∨ op = 23 ∨ (32 ≤ op ∧ op ≤ 36) ∨ (40 ≤ op ∧ op ≤ 45) ∨ op = 49 then 3
 else if 17 ≤ op ∧ op ≤ 19 then 4
 else if 20 ≤ op ∧ op ≤ 22 then 5
 else if op = 24 then 6
 else if op = 48 then 7
 else if op = 58 ∨ op = 59 then 8
 else if op = 60 ∨ op = 61 then 9
 else if op = 56 ∨ op = 57 ∨ (62 ≤ op ∧ op ≤ 64) then 1
 else 0
def lowD (f : Int) : Int := if f = 3 ∨ f = 7 then -32768 else 0
def zAb (f : Int) : Int := if f = 3 ∨ f = 7 then 32767 else if f = 4 ∨ f = 6 then 65535 else if f = 5 then 31 else if f = 8 then 7 else if f = 9 then 11 else 0
def uA (f : Int) : Bool := decide (2 ≤ f)
def uB (f : Int) : Bool := decide (2 ≤ f) && decide (f ≤ 5)
def uC (f : Int) : Bool := decide (f = 2)
abbrev usV (f : Int) : V := .tup [.st [.bool (uA f), .bool (uB f), .bool (uC f), .int .i32 (lowD f), .int .i32 (zAb f)], .bool (decide (f ≠ 0))]
set_option maxHeartbeats 16000000 in
theorem zKl (op : Int) : zAD Tryz.prog 294 [.int .i64 op] (usV (zAJ op)) := by
 refine sX Tryz.func294 Tryz.ntmps294 ?_;intros;refine wr ?_
 refine zAA rfl (fun h1 => ?_) (fun h1 => ?_)
 ·simp at h1
  subst h1
  refine au ?_;intros;refine wr ?_
  refine gT00 rfl ?_;intros;refine wr ?_
  refine zAB ?_
  simp [zAJ, uA, uB, uC, lowD, zAb]
 simp at h1
 refine au ?_;intros;refine wr ?_
 refine zAA rfl (fun h2 => ?_) (fun h2 => ?_)
 ·simp at h2
  subst h2
  refine au ?_;intros;refine wr ?_
  refine gT00 rfl ?_;intros;refine wr ?_
  refine zAB ?_
  simp [zAJ, uA, uB, uC, lowD, zAb]
 simp at h2
 refine au ?_;intros;refine wr ?_
 refine zAA rfl (fun h3 => ?_) (fun h3 => ?_)
 ·simp at h3
  subst h3
  refine au ?_;intros;refine wr ?_
  refine gT00 rfl ?_;intros;refine wr ?_
  refine zAB ?_
  simp [zAJ, uA, uB, uC, lowD, zAb]
 simp at h3
 refine au ?_;intros;refine wr ?_
 refine zAA rfl (fun h4 => ?_) (fun h4 => ?_)
 ·simp at h4
  subst h4
  refine au ?_;intros;refine wr ?_
  refine gT00 rfl ?_;intros;refine wr ?_
  refine zAB ?_
  simp [zAJ, uA, uB, uC, lowD, zAb]
 simp at h4
 refine au ?_;intros;refine wr ?_
 refine zAA rfl (fun h5 => ?_) (fun h5 => ?_)
 ·simp at h5
  subst h5
  refine au ?_;intros;refine wr ?_
  refine gT00 rfl ?_;intros;refine wr ?_
  refine zAB ?_
  simp [zAJ, uA, uB, uC, lowD, zAb]
 simp at h5
 refine au ?_;intros;refine wr ?_
 refine zAA rfl (fun h6 => ?_) (fun h6 => ?_)
 ·simp at h6
  subst h6
  refine au ?_;intros;refine wr ?_
  refine gT00 rfl ?_;intros;refine wr ?_
  refine zAB ?_
  simp [zAJ, uA, uB, uC, lowD, zAb]
 simp at h6
 refine au ?_;intros;refine wr ?_
 refine zAA rfl (fun h7 => ?_) (fun h7 => ?_)
 ·simp at h7
  subst h7
  refine au ?_;intros;refine wr ?_
  refine gT00 rfl ?_;intros;refine wr ?_
  refine zAB ?_
  simp [zAJ, uA, uB, uC, lowD, zAb]
 simp at h7
 refine au ?_;intros;refine wr ?_
 refine zAA rfl (fun h8 => ?_) (fun h8 => ?_)
 ·simp at h8
  subst h8
  refine au ?_;intros;refine wr ?_
  refine gT00 rfl ?_;intros;refine wr ?_
  refine zAB ?_
  simp [zAJ, uA, uB, uC, lowD, zAb]
 simp at h8
 refine au ?_;intros;refine wr ?_
 refine zAA rfl (fun h9 => ?_) (fun h9 => ?_)
 ·simp at h9
  subst h9
  refine au ?_;intros;refine wr ?_
  refine gT00 rfl ?_;intros;refine wr ?_
  refine zAB ?_
  simp [zAJ, uA, uB, uC, lowD, zAb]
 simp at h9
 refine au ?_;intros;refine wr ?_
 refine zAA rfl (fun h10 => ?_) (fun h10 => ?_)
 ·simp at h10
  subst h10
  refine au ?_;intros;refine wr ?_
  refine gT00 rfl ?_;intros;refine wr ?_
  refine zAB ?_
  simp [zAJ, uA, uB, uC, lowD, zAb]
 simp at h10
 refine au ?_;intros;refine wr ?_
 refine zAA rfl (fun h11 => ?_) (fun h11 => ?_)
 ·simp at h11
  subst h11
  refine au ?_;intros;refine wr ?_
  refine gT00 rfl ?_;intros;refine wr ?_
  refine zAB ?_
  simp [zAJ, uA, uB, uC, lowD, zAb]
 simp at h11
 refine au ?_;intros;refine wr ?_
 refine zAA rfl (fun h12 => ?_) (fun h12 => ?_)
 ·simp at h12
  subst h12
  refine au ?_;intros;refine wr ?_
  refine gT00 rfl ?_;intros;refine wr ?_
  refine zAB ?_
  simp [zAJ, uA, uB, uC, lowD, zAb]
 simp at h12
 refine au ?_;intros;refine wr ?_
 refine zAA rfl (fun h13 => ?_) (fun h13 => ?_)
 ·simp at h13
  subst h13
  refine au ?_;intros;refine wr ?_
  refine zAB ?_
  simp [zAJ, uA, uB, uC, lowD, zAb]
 simp at h13
 refine au ?_;intros;refine wr ?_
 refine zAA rfl (fun h14 => ?_) (fun h14 => ?_)
 ·simp at h14
  subst h14
  refine au ?_;intros;refine wr ?_
  refine gT00 rfl ?_;intros;refine wr ?_
  refine zAB ?_
  simp [zAJ, uA, uB, uC, lowD, zAb]
 simp at h14
 refine au ?_;intros;refine wr ?_
 refine zAA rfl (fun h15 => ?_) (fun h15 => ?_)
 ·simp at h15
  subst h15
  refine au ?_;intros;refine wr ?_
  refine gT00 rfl ?_;intros;refine wr ?_
  refine zAB ?_
  simp [zAJ, uA, uB, uC, lowD, zAb]
 simp at h15
 refine au ?_;intros;refine wr ?_
 refine zAA rfl (fun h16 => ?_) (fun h16 => ?_)
 ·simp at h16
  subst h16
  refine au ?_;intros;refine wr ?_
  refine gT00 rfl ?_;intros;refine wr ?_
  refine zAB ?_
  simp [zAJ, uA, uB, uC, lowD, zAb]
 simp at h16
 refine au ?_;intros;refine wr ?_
 refine zAA rfl (fun h17 => ?_) (fun h17 => ?_)
 ·simp at h17
  subst h17
  refine au ?_;intros;refine wr ?_
  refine gT00 rfl ?_;intros;refine wr ?_
  refine zAB ?_
  simp [zAJ, uA, uB, uC, lowD, zAb]
 simp at h17
 refine au ?_;intros;refine wr ?_
 refine zAA rfl (fun h18 => ?_) (fun h18 => ?_)
 ·simp at h18
  subst h18
  refine au ?_;intros;refine wr ?_
  refine gT00 rfl ?_;intros;refine wr ?_
  refine zAB ?_
  simp [zAJ, uA, uB, uC, lowD, zAb]
 simp at h18
 refine au ?_;intros;refine wr ?_
 refine zAA rfl (fun h19 => ?_) (fun h19 => ?_)
 ·simp at h19
  subst h19
  refine au ?_;intros;refine wr ?_
  refine gT00 rfl ?_;intros;refine wr ?_
  refine zAB ?_
  simp [zAJ, uA, uB, uC, lowD, zAb]
 simp at h19
 refine au ?_;intros;refine wr ?_
 refine zAA rfl (fun h20 => ?_) (fun h20 => ?_)
 ·simp at h20
  subst h20
  refine au ?_;intros;refine wr ?_
  refine gT00 rfl ?_;intros;refine wr ?_
  refine zAB ?_
  simp [zAJ, uA, uB, uC, lowD, zAb]
 simp at h20
 refine au ?_;intros;refine wr ?_
 refine zAA rfl (fun h21 => ?_) (fun h21 => ?_)
 ·simp at h21
  subst h21
  refine au ?_;intros;refine wr ?_
  refine gT00 rfl ?_;intros;refine wr ?_
  refine zAB ?_
  simp [zAJ, uA, uB, uC, lowD, zAb]
 simp at h21
 refine au ?_;intros;refine wr ?_
 refine zAA rfl (fun h22 => ?_) (fun h22 => ?_)
 ·simp at h22
  subst h22
  refine au ?_;intros;refine wr ?_
  refine gT00 rfl ?_;intros;refine wr ?_
  refine zAB ?_
  simp [zAJ, uA, uB, uC, lowD, zAb]
 simp at h22
 refine au ?_;intros;refine wr ?_
 refine zAA rfl (fun h23 => ?_) (fun h23 => ?_)
 ·simp at h23
  subst h23
  refine au ?_;intros;refine wr ?_
  refine gT00 rfl ?_;intros;refine wr ?_
  refine zAB ?_
  simp [zAJ, uA, uB, uC, lowD, zAb]
 simp at h23
 refine au ?_;intros;refine wr ?_
 refine zAA rfl (fun h24 => ?_) (fun h24 => ?_)
 ·simp at h24
  subst h24
  refine au ?_;intros;refine wr ?_
  refine gT00 rfl ?_;intros;refine wr ?_
  refine zAB ?_
  simp [zAJ, uA, uB, uC, lowD, zAb]
 simp at h24
 refine au ?_;intros;refine wr ?_
 refine zAA rfl (fun h25 => ?_) (fun h25 => ?_)
 ·simp at h25
  subst h25
  refine au ?_;intros;refine wr ?_
  refine gT00 rfl ?_;intros;refine wr ?_
  refine zAB ?_
  simp [zAJ, uA, uB, uC, lowD, zAb]
 simp at h25
 refine au ?_;intros;refine wr ?_
 refine zAA rfl (fun h26 => ?_) (fun h26 => ?_)
 ·simp at h26
  subst h26
  refine au ?_;intros;refine wr ?_
  refine gT00 rfl ?_;intros;refine wr ?_
  refine zAB ?_
  simp [zAJ, uA, uB, uC, lowD, zAb]
 simp at h26
 refine au ?_;intros;refine wr ?_
 refine zAA rfl (fun h27 => ?_) (fun h27 => ?_)
 ·simp at h27
  subst h27
  refine au ?_;intros;refine wr ?_
  refine zAB ?_
  simp [zAJ, uA, uB, uC, lowD, zAb]
 simp at h27
 refine au ?_;intros;refine wr ?_
 refine zAA rfl (fun h28 => ?_) (fun h28 => ?_)
 ·simp at h28
  subst h28
  refine au ?_;intros;refine wr ?_
  refine gT00 rfl ?_;intros;refine wr ?_
  refine zAB ?_
  simp [zAJ, uA, uB, uC, lowD, zAb]
 simp at h28
 refine au ?_;intros;refine wr ?_
 refine zAA rfl (fun h29 => ?_) (fun h29 => ?_)
 ·simp at h29
  subst h29
  refine au ?_;intros;refine wr ?_
  refine gT00 rfl ?_;intros;refine wr ?_
  refine zAB ?_
  simp [zAJ, uA, uB, uC, lowD, zAb]
 simp at h29
 refine au ?_;intros;refine wr ?_
 refine zAA rfl (fun h30 => ?_) (fun h30 => ?_)
 ·simp at h30
  subst h30
  refine au ?_;intros;refine wr ?_
  refine zAB ?_
  simp [zAJ, uA, uB, uC, lowD, zAb]
 simp at h30
 refine au ?_;intros;refine wr ?_
 refine zAA rfl (fun h31 => ?_) (fun h31 => ?_)
 ·simp at h31
  subst h31
  refine au ?_;intros;refine wr ?_
  refine gT00 rfl ?_;intros;refine wr ?_
  refine zAB ?_
  simp [zAJ, uA, uB, uC, lowD, zAb]
 simp at h31
 refine au ?_;intros;refine wr ?_
 refine zAA rfl (fun h32 => ?_) (fun h32 => ?_)
 ·simp at h32
  subst h32
  refine au ?_;intros;refine wr ?_
  refine gT00 rfl ?_;intros;refine wr ?_
  refine zAB ?_
  simp [zAJ, uA, uB, uC, lowD, zAb]
 simp at h32
 refine au ?_;intros;refine wr ?_
 refine zAA rfl (fun h33 => ?_) (fun h33 => ?_)
 ·simp at h33
  subst h33
  refine au ?_;intros;refine wr ?_
  refine zAB ?_
  simp [zAJ, uA, uB, uC, lowD, zAb]
 simp at h33
 refine au ?_;intros;refine wr ?_
 refine zAA rfl (fun h34 => ?_) (fun h34 => ?_)
 ·simp at h34
  subst h34
  refine au ?_;intros;refine wr ?_
  refine zAB ?_
  simp [zAJ, uA, uB, uC, lowD, zAb]
 simp at h34
 refine au ?_;intros;refine wr ?_
 refine zAA rfl (fun h35 => ?_) (fun h35 => ?_)
 ·simp at h35
  subst h35
  refine au ?_;intros;refine wr ?_
  refine zAB ?_
  simp [zAJ, uA, uB, uC, lowD, zAb]
 simp at h35
 refine au ?_;intros;refine wr ?_
 refine zAA rfl (fun h36 => ?_) (fun h36 => ?_)
 ·simp at h36
  subst h36
  refine au ?_;intros;refine wr ?_
  refine gT00 rfl ?_;intros;refine wr ?_
  refine zAB ?_
  simp [zAJ, uA, uB, uC, lowD, zAb]
 simp at h36
 refine au ?_;intros;refine wr ?_
 refine zAA rfl (fun h37 => ?_) (fun h37 => ?_)
 ·simp at h37
  subst h37
  refine au ?_;intros;refine wr ?_
  refine zAB ?_
  simp [zAJ, uA, uB, uC, lowD, zAb]
 simp at h37
 refine au ?_;intros;refine wr ?_
 refine zAA rfl (fun h38 => ?_) (fun h38 => ?_)
 ·simp at h38
  subst h38
  refine au ?_;intros;refine wr ?_
  refine gT00 rfl ?_;intros;refine wr ?_
  refine zAB ?_
  simp [zAJ, uA, uB, uC, lowD, zAb]
 simp at h38
 refine au ?_;intros;refine wr ?_
 refine zAA rfl (fun h39 => ?_) (fun h39 => ?_)
 ·simp at h39
  subst h39
  refine au ?_;intros;refine wr ?_
  refine zAB ?_
  simp [zAJ, uA, uB, uC, lowD, zAb]
 simp at h39
 refine au ?_;intros;refine wr ?_
 refine zAA rfl (fun h40 => ?_) (fun h40 => ?_)
 ·simp at h40
  subst h40
  refine au ?_;intros;refine wr ?_
  refine gT00 rfl ?_;intros;refine wr ?_
  refine zAB ?_
  simp [zAJ, uA, uB, uC, lowD, zAb]
 simp at h40
 refine au ?_;intros;refine wr ?_
 refine zAA rfl (fun h41 => ?_) (fun h41 => ?_)
 ·simp at h41
  subst h41
  refine au ?_;intros;refine wr ?_
  refine gT00 rfl ?_;intros;refine wr ?_
  refine zAB ?_
  simp [zAJ, uA, uB, uC, lowD, zAb]
 simp at h41
 refine au ?_;intros;refine wr ?_
 refine zAA rfl (fun h42 => ?_) (fun h42 => ?_)
 ·simp at h42
  subst h42
  refine au ?_;intros;refine wr ?_
  refine gT00 rfl ?_;intros;refine wr ?_
  refine zAB ?_
  simp [zAJ, uA, uB, uC, lowD, zAb]
 simp at h42
 refine au ?_;intros;refine wr ?_
 refine zAA rfl (fun h43 => ?_) (fun h43 => ?_)
 ·simp at h43
  subst h43
  refine au ?_;intros;refine wr ?_
  refine gT00 rfl ?_;intros;refine wr ?_
  refine zAB ?_
  simp [zAJ, uA, uB, uC, lowD, zAb]
 simp at h43
 refine au ?_;intros;refine wr ?_
 refine zAA rfl (fun h44 => ?_) (fun h44 => ?_)
 ·simp at h44
  subst h44
  refine au ?_;intros;refine wr ?_
  refine zAB ?_
  simp [zAJ, uA, uB, uC, lowD, zAb]
 simp at h44
 refine au ?_;intros;refine wr ?_
 have hf : zAJ op = 0 := by
  unfold zAJ
  repeat rw [if_neg (by omega)]
 refine zAB ?_
 simp [hf, uA, uB, uC, lowD, zAb]
def regB (r : Int) (used : Bool) : Bool := if used then decide (0 ≤ r) && decide (r ≤ 15) else decide (r = 0)
theorem zBq (r : Int) (u : Bool) : zAD Tryz.prog 321 [.int .i64 r, .bool u] (.bool (regB r u)) := by
 refine sX Tryz.func321 Tryz.ntmps321 ?_;intros;refine wr ?_
 cases u with
 | true =>
  refine gT00 rfl ?_;intros;refine wr ?_
  refine zAB ?_
  simp [regB]
 | false =>
  refine gF00 rfl ?_;intros;refine wr ?_
  refine zAB ?_
  simp [regB]
  rw [Bool.eq_iff_iff]; simp
def validD (i : InstD) : Bool := decide (zAJ i.op ≠ 0) && regB i.a (uA (zAJ i.op)) && regB i.b (uB (zAJ i.op)) && regB i.c (uC (zAJ i.op)) && decide (lowD (zAJ i.op) ≤ i.imm) && decide (i.imm ≤ zAb (zAJ i.op))
set_option maxHeartbeats 4000000 in
theorem zHh (i : InstD) : zAD Tryz.prog 296 [.st i.row] (.bool (validD i)) := by
 refine sX Tryz.func296 Tryz.ntmps296 ?_;intros;refine wr ?_
 refine cX (zKl i.op) ?_;intros;refine wr ?_
 first | refine zA3 (zBq i.a (uA (zAJ i.op))) rfl (fun hgd => ?_) (by simp [obsL]) ?_ | refine zAt (zBq i.a (uA (zAJ i.op))) rfl (by simp) (fun hgd => ?_) (by simp [obsL]) ?_
 all_goals simp
 all_goals (try (first | exact hgd | (simp at hgd; first | done | assumption | grind)))
 refine au ?_;intros;refine wr ?_
 first | refine zA3 (zBq i.b (uB (zAJ i.op))) rfl (fun hgd => ?_) (by simp [obsL]) ?_ | refine zAt (zBq i.b (uB (zAJ i.op))) rfl (by simp) (fun hgd => ?_) (by simp [obsL]) ?_
 all_goals simp
 all_goals (try (first | exact hgd | (simp at hgd; first | done | assumption | grind)))
 refine au ?_;intros;refine wr ?_
 first | refine zA3 (zBq i.c (uC (zAJ i.op))) rfl (fun hgd => ?_) (by simp [obsL]) ?_ | refine zAt (zBq i.c (uC (zAJ i.op))) rfl (by simp) (fun hgd => ?_) (by simp [obsL]) ?_
 all_goals simp
 all_goals (try (first | exact hgd | (simp at hgd; first | done | assumption | grind)))
 refine au ?_;intros;refine wr ?_
 refine zAB ?_
 simp [validD]
 try (rw [Bool.eq_iff_iff]; simp)
theorem zCx (op : Int) : 0 ≤ zAJ op ∧ zAJ op ≤ 9 := by
 unfold zAJ
 (repeat' split) <;> omega
theorem zCo (op : Int) : zAJ op = 0 ∨ zAJ op = 1 ∨ zAJ op = 2 ∨ zAJ op = 3 ∨ zAJ op = 4 ∨ zAJ op = 5 ∨ zAJ op = 6 ∨ zAJ op = 7 ∨ zAJ op = 8 ∨ zAJ op = 9 := by have := zCx op; omega
set_option maxHeartbeats 8000000 in
theorem zFi (op : Int) : zAD Tryz.prog 146 [.int .i64 op] (.int .i64 (zAJ op)) := by
 refine sX Tryz.func146 Tryz.ntmps146 ?_;intros;refine wr ?_
 refine zAA rfl (fun h1 => ?_) (fun h1 => ?_)
 ·simp at h1
  refine au ?_;intros;refine wr ?_
  refine zAB ?_
  simp [zAJ, h1]
 simp at h1
 refine au ?_;intros;refine wr ?_
 refine zAA rfl (fun h2 => ?_) (fun h2 => ?_)
 ·simp at h2
  have hf : zAJ op = 3 := by unfold zAJ; rw [if_neg (by omega), if_pos (by omega)]
  refine au ?_;intros;refine wr ?_
  refine zAB ?_
  simp [hf]
 simp at h2
 refine au ?_;intros;refine wr ?_
 refine zAA rfl (fun h3 => ?_) (fun h3 => ?_)
 ·simp at h3
  have hf : zAJ op = 4 := by unfold zAJ; rw [if_neg (by omega), if_neg (by omega), if_pos (by omega)]
  refine au ?_;intros;refine wr ?_
  refine zAB ?_
  simp [hf]
 simp at h3
 refine au ?_;intros;refine wr ?_
 refine zAA rfl (fun h4 => ?_) (fun h4 => ?_)
 ·simp at h4
  have hf : zAJ op = 5 := by unfold zAJ; rw [if_neg (by omega), if_neg (by omega), if_neg (by omega), if_pos (by omega)]
  refine au ?_;intros;refine wr ?_
  refine zAB ?_
  simp [hf]
 simp at h4
 refine au ?_;intros;refine wr ?_
 refine zAA rfl (fun h5 => ?_) (fun h5 => ?_)
 ·simp at h5
  have hf : zAJ op = 6 := by unfold zAJ; rw [if_neg (by omega), if_neg (by omega), if_neg (by omega), if_neg (by omega), if_pos (by omega)]
  refine au ?_;intros;refine wr ?_
  refine zAB ?_
  simp [hf]
 simp at h5
 refine au ?_;intros;refine wr ?_
 refine zAA rfl (fun h6 => ?_) (fun h6 => ?_)
 ·simp at h6
  have hf : zAJ op = 7 := by unfold zAJ; rw [if_neg (by omega), if_neg (by omega), if_neg (by omega), if_neg (by omega), if_neg (by omega), if_pos (by omega)]
  refine au ?_;intros;refine wr ?_
  refine zAB ?_
  simp [hf]
 simp at h6
 refine au ?_;intros;refine wr ?_
 refine zAA rfl (fun h7 => ?_) (fun h7 => ?_)
 ·simp at h7
  have hf : zAJ op = 8 := by unfold zAJ; rw [if_neg (by omega), if_neg (by omega), if_neg (by omega), if_neg (by omega), if_neg (by omega), if_neg (by omega), if_pos (by omega)]
  refine au ?_;intros;refine wr ?_
  refine zAB ?_
  simp [hf]
 simp at h7
 refine au ?_;intros;refine wr ?_
 refine zAA rfl (fun h8 => ?_) (fun h8 => ?_)
 ·simp at h8
  have hf : zAJ op = 9 := by unfold zAJ; rw [if_neg (by omega), if_neg (by omega), if_neg (by omega), if_neg (by omega), if_neg (by omega), if_neg (by omega), if_neg (by omega), if_pos (by omega)]
  refine au ?_;intros;refine wr ?_
  refine zAB ?_
  simp [hf]
 simp at h8
 refine au ?_;intros;refine wr ?_
 refine zAA rfl (fun h9 => ?_) (fun h9 => ?_)
 ·simp at h9
  have hf : zAJ op = 1 := by unfold zAJ; rw [if_neg (by omega), if_neg (by omega), if_neg (by omega), if_neg (by omega), if_neg (by omega), if_neg (by omega), if_neg (by omega), if_neg (by omega), if_pos (by omega)]
  refine au ?_;intros;refine wr ?_
  refine zAB ?_
  simp [hf]
 simp at h9
 have hf : zAJ op = 0 := by
  unfold zAJ
  repeat rw [if_neg (by omega)]
 refine au ?_;intros;refine wr ?_
 refine zAB ?_
 simp [hf]
theorem zBZ (r : Int) : zAD Tryz.prog 205 [.int .i64 r] (.bool (regB r true)) := by
 refine sX Tryz.func205 Tryz.ntmps205 ?_;intros;refine wr ?_
 refine zAB ?_
 simp [regB]
theorem zIJ (f : Int) : zAD Tryz.prog 147 [.int .i64 f] (.tup [.int .i64 (lowD f), .int .i64 (zAb f)]) := by
 refine sX Tryz.func147 Tryz.ntmps147 ?_;intros;refine wr ?_
 refine zAA rfl (fun h1 => ?_) (fun h1 => ?_)
 ·simp at h1
  subst h1
  refine au ?_;intros;refine wr ?_
  refine gT00 rfl ?_;intros;refine wr ?_
  refine zAB ?_
  simp [lowD, zAb]
 simp at h1
 refine au ?_;intros;refine wr ?_
 refine zAA rfl (fun h2 => ?_) (fun h2 => ?_)
 ·simp at h2
  subst h2
  refine au ?_;intros;refine wr ?_
  refine zAB ?_
  simp [lowD, zAb]
 simp at h2
 refine au ?_;intros;refine wr ?_
 refine zAA rfl (fun h3 => ?_) (fun h3 => ?_)
 ·simp at h3
  subst h3
  refine au ?_;intros;refine wr ?_
  refine gT00 rfl ?_;intros;refine wr ?_
  refine zAB ?_
  simp [lowD, zAb]
 simp at h3
 refine au ?_;intros;refine wr ?_
 refine zAA rfl (fun h4 => ?_) (fun h4 => ?_)
 ·simp at h4
  subst h4
  refine au ?_;intros;refine wr ?_
  refine zAB ?_
  simp [lowD, zAb]
 simp at h4
 refine au ?_;intros;refine wr ?_
 refine zAA rfl (fun h5 => ?_) (fun h5 => ?_)
 ·simp at h5
  subst h5
  refine au ?_;intros;refine wr ?_
  refine zAB ?_
  simp [lowD, zAb]
 simp at h5
 refine au ?_;intros;refine wr ?_
 refine zAA rfl (fun h6 => ?_) (fun h6 => ?_)
 ·simp at h6
  subst h6
  refine au ?_;intros;refine wr ?_
  refine zAB ?_
  simp [lowD, zAb]
 simp at h6
 refine au ?_;intros;refine wr ?_
 refine zAA rfl (fun h7 => ?_) (fun h7 => ?_)
 ·simp at h7
  subst h7
  refine au ?_;intros;refine wr ?_
  refine zAB ?_
  simp [lowD, zAb]
 simp at h7
 refine au ?_;intros;refine wr ?_
 refine zAB ?_
 simp [lowD, zAb, h1, h2, h3, h4, h5, h6, h7]
set_option maxHeartbeats 8000000 in
theorem zDK (i : InstD) (hi : -2147483648 ≤ i.imm ∧ i.imm ≤ 2147483647) : zAD Tryz.prog 145 [.st i.row] (.bool (validD i)) := by
 have hw : IntKind.i64.wrap i.imm = i.imm := zAC (by omega) (by omega)
 refine sX Tryz.func145 Tryz.ntmps145 ?_;intros;refine wr ?_
 refine cX (zFi i.op) ?_;intros;refine wr ?_
 first | refine zA3 (zBZ i.a) rfl (fun hgd => ?_) (by simp [obsL]) ?_ | refine zAt (zBZ i.a) rfl (by simp) (fun hgd => ?_) (by simp [obsL]) ?_
 all_goals simp
 all_goals (try (first | exact hgd | (simp at hgd; first | done | assumption | grind)))
 refine au ?_;intros;refine wr ?_
 first | refine zA3 (zBZ i.b) rfl (fun hgd => ?_) (by simp [obsL]) ?_ | refine zAt (zBZ i.b) rfl (by simp) (fun hgd => ?_) (by simp [obsL]) ?_
 all_goals simp
 all_goals (try (first | exact hgd | (simp at hgd; first | done | assumption | grind)))
 refine au ?_;intros;refine wr ?_
 first | refine zA3 (zBZ i.c) rfl (fun hgd => ?_) (by simp [obsL]) ?_ | refine zAt (zBZ i.c) rfl (by simp) (fun hgd => ?_) (by simp [obsL]) ?_
 all_goals simp
 all_goals (try (first | exact hgd | (simp at hgd; first | done | assumption | grind)))
 refine au ?_;intros;refine wr ?_
 refine zAA rfl (fun h1 => ?_) (fun h1 => ?_)
 ·have hv : validD i = false := by
   rcases zCo i.op with h | h | h | h | h | h | h | h | h | h <;> simp [validD, regB, uA, uB, uC, h] at h1 ⊢ <;> (try omega)
  refine au ?_;intros;refine wr ?_
  refine zAB ?_
  simp [hv]
 refine au ?_;intros;refine wr ?_
 refine cY (zIJ (zAJ i.op)) @hw ?_;intros;refine wr ?_
 refine zAA rfl (fun h2 => ?_) (fun h2 => ?_)
 ·have hv : validD i = false := by
   rcases zCo i.op with h | h | h | h | h | h | h | h | h | h <;> simp [validD, regB, uA, uB, uC, lowD, zAb, h] at h1 h2 ⊢ <;> (try omega)
  refine au ?_;intros;refine wr ?_
  refine zAB ?_
  simp [hv]
 refine au ?_;intros;refine wr ?_
 refine zAB ?_
 simp
 rw [Bool.eq_iff_iff]
 rcases zCo i.op with h | h | h | h | h | h | h | h | h | h <;> simp [validD, regB, uA, uB, uC, lowD, zAb, h] at h1 h2 ⊢ <;> (try omega)
@[simp] theorem wl0 : IntKind.u64.wrap 0 = 0 := by decide
@[simp] theorem wl4 : IntKind.u64.wrap 4 = 4 := by decide
@[simp] theorem wl8 : IntKind.u64.wrap 8 = 8 := by decide
@[simp] theorem wl16 : IntKind.u64.wrap 16 = 16 := by decide
@[simp] theorem wl20 : IntKind.u64.wrap 20 = 20 := by decide
@[simp] theorem wl24 : IntKind.u64.wrap 24 = 24 := by decide
@[simp] theorem wi16 : IntKind.i64.wrap 16 = 16 := by decide
@[simp] theorem b32 : IntKind.u32.bits = 32 := rfl
@[simp] theorem bi32 : IntKind.i32.bits = 32 := rfl
theorem zCV : zAD Tryz.prog 320 [.int .i64 8] (.int .u32 255) := by
 refine sX Tryz.func320 Tryz.ntmps320 ?_;intros;refine wr ?_
 refine gF00 rfl ?_;intros;refine wr ?_
 refine zAB ?_
 simp
 try decide
theorem zEI : zAD Tryz.prog 320 [.int .i64 4] (.int .u32 15) := by
 refine sX Tryz.func320 Tryz.ntmps320 ?_;intros;refine wr ?_
 refine gF00 rfl ?_;intros;refine wr ?_
 refine zAB ?_
 simp
 try decide
theorem zMo : zAD Tryz.prog 320 [.int .i64 16] (.int .u32 65535) := by
 refine sX Tryz.func320 Tryz.ntmps320 ?_;intros;refine wr ?_
 refine gF00 rfl ?_;intros;refine wr ?_
 refine zAB ?_
 simp
 try decide
theorem zJr (n : Nat) (h : n < 4294967296) : IntKind.u32.wrap (n : Int) = n := by rw [IntKind.wrap_u32]; omega
theorem zCP (x : Int) : (BitVec.ofInt 32 x).toNat = (x % 4294967296).toNat := by
 rw [BitVec.toNat_ofInt]; rfl
theorem zBD (x : Int) (k B : Nat) (hk : k ≤ 32) (hB : B = 2 ^ k) : IntKind.u32.wrap ((BitVec.ofInt 32 x &&& BitVec.ofNat 32 (B - 1)).toNat : Int) = x % (B : Int) := by
 have hle : B ≤ 4294967296 := by rw [hB]; exact Nat.pow_le_pow_right (by omega) hk
 have hpos : 0 < B := by rw [hB]; exact Nat.two_pow_pos k
 have e : (BitVec.ofInt 32 x &&& BitVec.ofNat 32 (B - 1)).toNat = (x % (B : Int)).toNat := by
  rw [BitVec.toNat_and, zCP, BitVec.toNat_ofNat, Nat.mod_eq_of_lt (show B - 1 < 2 ^ 32 by omega), hB, Nat.and_two_pow_sub_one_eq_mod, ← hB]
  have hd : (B : Int) ∣ 4294967296 := by
   have : B ∣ 4294967296 := by rw [hB]; exact Nat.pow_dvd_pow 2 hk
   exact Int.ofNat_dvd.2 this
  have h1 := Int.emod_emod_of_dvd x hd
  have h2 := Int.emod_nonneg x (show (4294967296 : Int) ≠ 0 by omega)
  have : ((x % 4294967296).toNat % B : Nat) = ((x % 4294967296) % (B : Int)).toNat := by
   have : ((x % 4294967296).toNat : Int) = x % 4294967296 := by omega
   rw [← this]; rfl
  rw [this, h1]
 have h3 := Int.emod_nonneg x (show (B : Int) ≠ 0 by omega)
 have h4 := Int.emod_lt_of_pos x (show (0 : Int) < B by omega)
 rw [e, zJr _ (by omega)]; omega
theorem zOF (w : Int) : zAD Tryz.prog 293 [.int .u32 w, .int .i64 24, .int .i64 8] (.int .u32 (w / 16777216 % 256)) := by
 refine sX Tryz.func293 Tryz.ntmps293 ?_;intros;refine wr ?_
 refine gF00 rfl ?_;intros;refine wr ?_
 refine cX (zCV) ?_;intros;refine wr ?_
 refine zAB ?_
 simp
 rw [Int.fdiv_eq_ediv_of_nonneg _ (by omega)]
 exact zBD (w / 16777216) 8 256 (by omega) (by decide)
theorem zM7 (w : Int) : zAD Tryz.prog 293 [.int .u32 w, .int .i64 20, .int .i64 4] (.int .u32 (w / 1048576 % 16)) := by
 refine sX Tryz.func293 Tryz.ntmps293 ?_;intros;refine wr ?_
 refine gF00 rfl ?_;intros;refine wr ?_
 refine cX (zEI) ?_;intros;refine wr ?_
 refine zAB ?_
 simp
 rw [Int.fdiv_eq_ediv_of_nonneg _ (by omega)]
 exact zBD (w / 1048576) 4 16 (by omega) (by decide)
theorem zL1 (w : Int) : zAD Tryz.prog 293 [.int .u32 w, .int .i64 16, .int .i64 4] (.int .u32 (w / 65536 % 16)) := by
 refine sX Tryz.func293 Tryz.ntmps293 ?_;intros;refine wr ?_
 refine gF00 rfl ?_;intros;refine wr ?_
 refine cX (zEI) ?_;intros;refine wr ?_
 refine zAB ?_
 simp
 rw [Int.fdiv_eq_ediv_of_nonneg _ (by omega)]
 exact zBD (w / 65536) 4 16 (by omega) (by decide)
theorem zMW (w : Int) : zAD Tryz.prog 293 [.int .u32 w, .int .i64 0, .int .i64 16] (.int .u32 (w % 65536)) := by
 refine sX Tryz.func293 Tryz.ntmps293 ?_;intros;refine wr ?_
 refine gF00 rfl ?_;intros;refine wr ?_
 refine cX (zMo) ?_;intros;refine wr ?_
 refine zAB ?_
 simp
 try rw [Int.fdiv_eq_ediv_of_nonneg _ (by omega), Int.ediv_one]
 exact zBD w 16 65536 (by omega) (by decide)
theorem ext_ok (x : Int) (h0 : 0 ≤ x) (h1 : x < 65536) : zAD Tryz.prog 295 [.int .u32 x, .int .i64 16] (.int .u32 (if x < 32768 then x else x + 4294901760)) := by
 refine sX Tryz.func295 Tryz.ntmps295 ?_;intros;refine wr ?_
 refine gF00 rfl ?_;intros;refine wr ?_
 refine gF00 rfl ?_;intros;refine wr ?_
 refine zAB ?_
 simp
 simp only [IntKind.wrap_u32, IntKind.wrap_i32]
 rw [Int.fdiv_eq_ediv_of_nonneg _ (by omega)]
 split <;> omega
theorem zQX {op : Int} (h : zAJ op ≠ 0) : 1 ≤ op ∧ op ≤ 64 := by
 apply Classical.byContradiction
 intro hn
 apply h
 unfold zAJ
 repeat rw [if_neg (by omega)]
theorem zDj {i : InstD} (h : validD i = true) : (1 ≤ i.op ∧ i.op ≤ 64) ∧ (0 ≤ i.a ∧ i.a ≤ 15) ∧ (0 ≤ i.b ∧ i.b ≤ 15) ∧ (0 ≤ i.c ∧ i.c ≤ 15) ∧ (-32768 ≤ i.imm ∧ i.imm ≤ 65535) ∧ (i.c = 0 ∨ i.imm = 0) := by
 have h0 : zAJ i.op ≠ 0 := by
  unfold validD at h
  simp only [Bool.and_eq_true, decide_eq_true_eq] at h
  exact h.1.1.1.1.1
 refine ⟨zQX h0, ?_⟩
 rcases zCo i.op with q | q | q | q | q | q | q | q | q | q <;> simp [validD, regB, uA, uB, uC, lowD, zAb, q] at h <;> omega
def encW (i : InstD) : Int := i.op * 16777216 + i.a * 1048576 + i.b * 65536 + (i.c + i.imm) % 65536
def sext (x : Int) : Int := if x < 32768 then x else x - 65536
def decI (w : Int) : InstD := ⟨w / 16777216 % 256, w / 1048576 % 16, w / 65536 % 16, if zAJ (w / 16777216 % 256) = 2 then w % 65536 else 0,
 if zAJ (w / 16777216 % 256) = 2 then 0 else if zAJ (w / 16777216 % 256) = 3 ∨ zAJ (w / 16777216 % 256) = 7 then sext (w % 65536) else w % 65536⟩
def zC8 : InstD := ⟨0, 0, 0, 0, 0⟩
abbrev decV (w : Int) : V := .tup [.st (if validD (decI w) then decI w else zC8).row, .bool (validD (decI w))]
set_option maxHeartbeats 16000000 in
theorem decode_ok (w : Int) : zAD Tryz.prog 230 [.int .u32 w] (decV w) := by
 have c1 : IntKind.i64.wrap (w / 16777216 % 256) = w / 16777216 % 256 := zAC (by omega) (by omega)
 have c2 : IntKind.i64.wrap (w / 1048576 % 16) = w / 1048576 % 16 := zAC (by omega) (by omega)
 have c3 : IntKind.i64.wrap (w / 65536 % 16) = w / 65536 % 16 := zAC (by omega) (by omega)
 have c4 : IntKind.i64.wrap (w % 65536) = w % 65536 := zAC (by omega) (by omega)
 have c5 : IntKind.i32.wrap (w % 65536) = w % 65536 := by rw [IntKind.wrap_i32]; omega
 have c6 : IntKind.i32.wrap (if w % 65536 < 32768 then w % 65536 else w % 65536 + 4294901760) = sext (w % 65536) := by rw [IntKind.wrap_i32]; unfold sext; split <;> omega
 refine sX Tryz.func230 Tryz.ntmps230 ?_;intros;refine wr ?_
 refine cZ (zOF w) @c1 @c1 ?_;intros;refine wr ?_
 refine cZ (zM7 w) @c2 @c2 ?_;intros;refine wr ?_
 refine cZ (zL1 w) @c3 @c3 ?_;intros;refine wr ?_
 refine cX (zKl (w / 16777216 % 256)) ?_;intros;refine wr ?_
 refine zAA rfl (fun hf => ?_) (fun hf => ?_)
 ·simp at hf
  have hv : validD (decI w) = false := by simp [validD, decI, hf]
  refine au ?_;intros;refine wr ?_
  refine zAI ?_
  refine zAB ?_
  simp [hv, zC8]
 simp at hf
 refine au ?_;intros;refine wr ?_
 refine cX (zMW w) ?_;intros;refine wr ?_
 by_cases e2 : zAJ (w / 16777216 % 256) = 2
 ·have hd : decI w = ⟨w / 16777216 % 256, w / 1048576 % 16, w / 65536 % 16, w % 65536, 0⟩ := by simp [decI, e2]
  refine zAA rfl (fun _ => ?_) (fun h => by simp [uC, e2] at h)
  refine au1 @c4 ?_;intros;refine wr ?_
  refine cc (zHh (⟨w / 16777216 % 256, w / 1048576 % 16, w / 65536 % 16, w % 65536, 0⟩ : InstD)) ?_
  cases hv : validD (⟨w / 16777216 % 256, w / 1048576 % 16, w / 65536 % 16, w % 65536, 0⟩ : InstD) with
  | false =>
   refine au ?_;intros;refine wr ?_
   refine gT00 rfl ?_;intros;refine wr ?_
   refine zAI ?_
   refine zAB ?_
   simp [hd, hv, zC8]
  | true =>
   refine au ?_;intros;refine wr ?_
   refine gF00 rfl ?_;intros;refine wr ?_
   refine zAI ?_
   refine zAB ?_
   simp [hd, hv, zC8]
 ·refine zAA rfl (fun h => by simp [uC, e2] at h) (fun _ => ?_)
  refine au ?_;intros;refine wr ?_
  by_cases e3 : zAJ (w / 16777216 % 256) = 3 ∨ zAJ (w / 16777216 % 256) = 7
  ·have hd : decI w = ⟨w / 16777216 % 256, w / 1048576 % 16, w / 65536 % 16, 0, sext (w % 65536)⟩ := by simp [decI, e2, e3]
   have hl : lowD (zAJ (w / 16777216 % 256)) = -32768 := by simp [lowD, e3]
   refine zAA rfl (fun _ => ?_) (fun h => by simp [hl] at h)
   refine au ?_;intros;refine wr ?_
   refine cZ (ext_ok (w % 65536) (by omega) (by omega)) @c6 @c6 ?_;intros;refine wr ?_
   refine cc (zHh (⟨w / 16777216 % 256, w / 1048576 % 16, w / 65536 % 16, 0, sext (w % 65536)⟩ : InstD)) ?_
   cases hv : validD (⟨w / 16777216 % 256, w / 1048576 % 16, w / 65536 % 16, 0, sext (w % 65536)⟩ : InstD) with
   | false =>
    refine au ?_;intros;refine wr ?_
    refine gT00 rfl ?_;intros;refine wr ?_
    refine zAI ?_
    refine zAB ?_
    simp [hd, hv, zC8]
   | true =>
    refine au ?_;intros;refine wr ?_
    refine gF00 rfl ?_;intros;refine wr ?_
    refine zAI ?_
    refine zAB ?_
    simp [hd, hv, zC8]
  ·have hd : decI w = ⟨w / 16777216 % 256, w / 1048576 % 16, w / 65536 % 16, 0, w % 65536⟩ := by simp [decI, e2, e3]
   have hl : lowD (zAJ (w / 16777216 % 256)) = 0 := by simp [lowD, e3]
   refine zAA rfl (fun h => by simp [hl] at h) (fun _ => ?_)
   refine au1 @c5 ?_;intros;refine wr ?_
   refine cc (zHh (⟨w / 16777216 % 256, w / 1048576 % 16, w / 65536 % 16, 0, w % 65536⟩ : InstD)) ?_
   cases hv : validD (⟨w / 16777216 % 256, w / 1048576 % 16, w / 65536 % 16, 0, w % 65536⟩ : InstD) with
   | false =>
    refine au ?_;intros;refine wr ?_
    refine gT00 rfl ?_;intros;refine wr ?_
    refine zAI ?_
    refine zAB ?_
    simp [hd, hv, zC8]
   | true =>
    refine au ?_;intros;refine wr ?_
    refine gF00 rfl ?_;intros;refine wr ?_
    refine zAI ?_
    refine zAB ?_
    simp [hd, hv, zC8]
theorem or32 (x y : Int) (t : Nat) (h0 : 0 ≤ x) (h1 : x < 4294967296) (hx : x.toNat % 2 ^ t = 0) (y0 : 0 ≤ y) (y1 : y.toNat < 2 ^ t) (hs : x + y < 4294967296) : IntKind.u32.wrap (((x % 4294967296).toNat ||| (y % 4294967296).toNat : Nat) : Int) = x + y := by
 have e1 : x % 4294967296 = x := by omega
 have e2 : y % 4294967296 = y := by omega
 rw [e1, e2]
 have hWd : x.toNat = (x.toNat / 2 ^ t) <<< t := by
  rw [Nat.shiftLeft_eq, Nat.mul_comm]; have := Nat.div_add_mod x.toNat (2 ^ t); omega
 have hor : x.toNat ||| y.toNat = x.toNat + y.toNat := by
  rw [hWd, ← Nat.shiftLeft_add_eq_or_of_lt y1]
 rw [hor, zJr _ (by omega)]; omega
theorem zJt (x y : Int) (t : Nat) (h0 : 0 ≤ x) (h1 : x < 4294967296) (hx : x.toNat % 2 ^ t = 0) (y0 : 0 ≤ y) (y1 : y.toNat < 2 ^ t) (hs : x + y < 4294967296) : IntKind.u32.wrap ((BitVec.ofInt 32 x ||| BitVec.ofInt 32 y).toNat : Int) = x + y := by
 rw [BitVec.toNat_or, zCP, zCP]
 exact or32 x y t h0 h1 hx y0 y1 hs
set_option maxHeartbeats 8000000 in
theorem zDW (i : InstD) (hi : -2147483648 ≤ i.imm ∧ i.imm ≤ 2147483647) : zAD Tryz.prog 88 [.st i.row] (.tup [.int .u32 (if validD i then encW i else 0), .bool (validD i)]) := by
 refine sX Tryz.func88 Tryz.ntmps88 ?_;intros;refine wr ?_
 refine cc (zDK i hi) ?_
 cases hv : validD i with
 | false =>
  refine au ?_;intros;refine wr ?_
  refine gT00 rfl ?_;intros;refine wr ?_
  refine zAB ?_
  simp [hv]
 | true =>
  obtain ⟨f1, f2, f3, f4, f5, f6⟩ := zDj hv
  have w1 : IntKind.u32.wrap i.op = i.op := by rw [IntKind.wrap_u32]; omega
  have w2 : IntKind.u32.wrap i.a = i.a := by rw [IntKind.wrap_u32]; omega
  have w3 : IntKind.u32.wrap i.b = i.b := by rw [IntKind.wrap_u32]; omega
  have w4 : IntKind.u32.wrap i.c = i.c := by rw [IntKind.wrap_u32]; omega
  have s1 : IntKind.u32.wrap (i.op * 16777216) = i.op * 16777216 := by rw [IntKind.wrap_u32]; omega
  have s2 : IntKind.u32.wrap (i.a * 1048576) = i.a * 1048576 := by rw [IntKind.wrap_u32]; omega
  have s3 : IntKind.u32.wrap (i.b * 65536) = i.b * 65536 := by rw [IntKind.wrap_u32]; omega
  refine au ?_;intros;refine wr ?_
  refine gF01 rfl (kX7 @w1 @w2 @w3 @w4 @s1 @s2 @s3) ?_;intros;refine wr ?_
  refine zAB ?_
  simp [encW, hv, w1, w2, w3, w4, s1, s2, s3]
  have m1 := zBD (IntKind.u32.wrap i.imm) 16 65536 (by omega) (by decide)
  rw [show (65536 - 1 : Nat) = 65535 from rfl, IntKind.wrap_u32 i.imm] at m1
  have m2 : i.imm % 4294967296 % ((65536 : Nat) : Int) = i.imm % 65536 := by omega
  rw [m2, ← IntKind.wrap_u32 i.imm] at m1
  change IntKind.u32.wrap ((BitVec.ofInt 32 (IntKind.u32.wrap ((BitVec.ofInt 32 (IntKind.u32.wrap ((BitVec.ofInt 32 (IntKind.u32.wrap ((BitVec.ofInt 32 (i.op * 16777216) ||| BitVec.ofInt 32 (i.a * 1048576)).toNat : Int)) ||| BitVec.ofInt 32 (i.b * 65536)).toNat : Int)) ||| BitVec.ofInt 32 (IntKind.u32.wrap ((BitVec.ofInt 32 (IntKind.u32.wrap i.imm) &&& 65535#32).toNat : Int))).toNat : Int)) ||| BitVec.ofInt 32 i.c).toNat : Int) = _
  rw [m1, zJt (i.op * 16777216) (i.a * 1048576) 24 (by omega) (by omega) (by omega) (by omega) (by omega) (by omega),
   zJt (i.op * 16777216 + i.a * 1048576) (i.b * 65536) 20 (by omega) (by omega) (by omega) (by omega) (by omega) (by omega),
   zJt (i.op * 16777216 + i.a * 1048576 + i.b * 65536) (i.imm % 65536) 16 (by omega) (by omega) (by omega) (by omega) (by omega) (by omega)]
  rcases f6 with h | h
  ·rw [h, show BitVec.ofInt 32 0 = 0#32 by decide, BitVec.or_zero, zCP, zJr _ (by omega)]; omega
  ·rw [h, zJt (i.op * 16777216 + i.a * 1048576 + i.b * 65536 + 0 % 65536) i.c 16 (by omega) (by omega) (by omega) (by omega) (by omega) (by omega)]; omega
end Go.Proofs.YtjmhjieflbnehaaGreat
end
