/- A part of the proof of ReplicaBare+ReplicaWindow. -/
import Derived.Test.YtoondlebmacanaaGreatB39
set_option linter.unusedSimpArgs false
set_option linter.unusedVariables false
set_option maxHeartbeats 16000000
set_option maxRecDepth 100000
section
namespace Go.Proofs.YtoondlebmacanaaGreat
open Go.Ab Go.RowKit
theorem zNr (r:RecD) (h1:r.m.mem.length≤100000) (h2:r.log.length≤100000) (h3:r.queue.length≤100000):zAD Tryz.prog 70 [.st r.row] (.st (recC r.m r.clock (zBu r.log) (.new 72 3 (evs r.queue)))):=by
 refine sX Tryz.func70 Tryz.ntmps70 ?_;intros;apply wr
 (refine au ?_;intros;apply wr)
 repeat' ((first|(refine zAC rfl (fun h=>?_) (fun h=>?_)<;>(first|(simp at h;done)|(simp at h)|skip)<;>(first|(exfalso;omega)|skip))|refine cc (zBi (ints .u32 r.m.mem) false 1 (.inl rfl) (by rw [zAN];exact h1)) ?_|refine cc (zDC (ents r.log) false 4 (.inl rfl) (by rw [zA8];exact h2)) ?_|refine cc (zHb (evs r.queue) false 3 (.inl rfl) (by rw [zEb];exact h3)) ?_|exact rt|fail)<;>(refine au ?_;intros;apply wr))
 refine zTf [2,3] ?_;simp;refine zAA ?_;simp
theorem zUn (e:EvD):evs [e]=[e.row]:=rfl
theorem zOD (r:RecD) (e:EvD) (h1:r.m.mem.length≤100000) (h2:r.log.length≤100000) (h3:r.queue.length≤90000):zAD Tryz.prog 28 [.st r.row,.st e.row] (.tup [.st (zCE r e).1.row,.bool (zCE r e).2]):=by
 have hc:=zNr r h1 h2 (by omega)
 have hv:=zID e;have hl:=zEb r.queue;by_cases ha:evVal e=true∧e.kind≠1∧r.queue.length<16
 ·obtain ⟨a1,a2,a3⟩:=ha;have hE:zCE r e=({r with queue:=r.queue++[e]},true):=by unfold zCE;rw [if_pos ⟨a1,a2,a3⟩]
  rw [hE];rw [a1] at hv;have a4:¬ (16:Int)≤r.queue.length:=by omega
  refine sX Tryz.func28 Tryz.ntmps28 ?_;intros;apply wr;refine cX (hc) ?_;intros;apply wr;refine cY (hv) @hl ?_;intros;apply wr;refine gF11 (kX3 @a2 @a4 @hl) rfl (kX2 @hl @maxLen.eq_1) ?_;intros;apply wr;refine zAI ?_;refine zAA ?_;simp [zUm,zUn]
 have hE:zCE r e=(r,false):=by unfold zCE;rw [if_neg ha]
 rw [hE];have hct:(!evVal e||e.kind==1||decide ((16:Int)≤r.queue.length))=true:=by
  cases q1:evVal e with
  | false=>rfl
  | true =>
   by_cases q2:e.kind=1
   ·simp [q2]
   have q3:(16:Int)≤r.queue.length:=by
    by_cases z:r.queue.length<16
    ·exact absurd ⟨q1,q2,z⟩ ha
    omega
   simp [q3]
 refine sX Tryz.func28 Tryz.ntmps28 ?_;intros;apply wr;refine cX (hc) ?_;intros;apply wr;refine cY (hv) @hl ?_;intros;apply wr;refine gT10 (kX2 @hct @hl) rfl ?_;intros;apply wr;refine zAI ?_;refine zAA ?_;simp
theorem zLx (r:RepD) (e:EvD) (h:OkP r 40000):zAD Tryz.prog 7 [.st r.row,.st e.row] (.tup [.st (zDh r e).1.row,.bool (zDh r e).2]):=by
 have hcl:=zH6 r h;have hlv:=zEe r;have ha:=zOD r.rec_ e (by have:=h.c.m.n;omega) (by have:=h.c.l;omega) (by have:=h.c.q;omega)
 cases hl:zEv r with
 | false =>
  have hE:zDh r e=(r,false):=by unfold zDh;rw [hl];simp
  rw [hl] at hlv;rw [hE];refine sZ Tryz.func7 Tryz.ntmps7 ?_;exact wx (qX2 (hcl) (hlv)) trivial
 | true =>
  rw [hl] at hlv;by_cases hk:e.kind=3∨e.kind=5∨e.kind=6
  ·have hE:zDh r e=({r with rec_:=(zCE r.rec_ e).1},(zCE r.rec_ e).2):=by unfold zDh;rw [if_pos ⟨hl,hk⟩]
   rw [hE];clear hE;generalize zCE r.rec_ e=A at *
   obtain ⟨k,n,dd⟩:=e;simp only at hk;rcases hk with rfl|rfl|rfl
   ·refine sZ Tryz.func7 Tryz.ntmps7 ?_;exact wx (qX3 (hcl) (hlv) (ha)) trivial
   ·refine sZ Tryz.func7 Tryz.ntmps7 ?_;exact wx (qX3 (hcl) (hlv) (ha)) trivial
   refine sZ Tryz.func7 Tryz.ntmps7 ?_;exact wx (qX3 (hcl) (hlv) (ha)) trivial
  have hE:zDh r e=(r,false):=by unfold zDh;rw [if_neg (fun z=>hk z.2)]
  rw [hE];have k1:¬ e.kind=3:=fun z=>hk (.inl z)
  have k2:¬ e.kind=5:=fun z=>hk (.inr (.inl z))
  have k3:¬ e.kind=6:=fun z=>hk (.inr (.inr z))
  refine sZ Tryz.func7 Tryz.ntmps7 ?_;exact wx1 (qX2 (hcl) (hlv)) trivial (kX3 @k1 @k2 @k3)
end Go.Proofs.YtoondlebmacanaaGreat
end
