/- A part of the proof of ReplicaBare+ReplicaWindow. -/
import Derived.Test.YtoondlebmacanaaGreatB06
import Derived.Test.YtoondlebmacanaaGreatB07
import Derived.Test.YtoondlebmacanaaGreatB13
import Derived.Test.YtoondlebmacanaaGreatB38
import Derived.Test.YtoondlebmacanaaGreatB39
import Derived.Test.YtoondlebmacanaaGreatB40
import Derived.Test.YtoondlebmacanaaGreatB52
import Derived.Test.YtoondlebmacanaaGreatB54
set_option linter.unusedSimpArgs false
set_option linter.unusedVariables false
set_option maxHeartbeats 16000000
set_option maxRecDepth 100000
section
namespace Go.Proofs.YtoondlebmacanaaGreat
open Go.Ab Go.RowKit Fx
theorem OkY.full {r:RepD} {i:Nat} {b:Int} (h:OkY r i b) (hq:r.out.queue.length=8):zD5 r 5 0=r:=by
 unfold zD5;rw [if_pos ⟨h.l.role,by omega⟩]
theorem window_ok (kind:Int) (l:List Int) (more:Int):zAD Tryz.prog 4 [iv kind,.sl 1 false (ints .i64 l),iv more] (.bool true):=by
 have hl1:=zAN .i64 l;by_cases hc:(60:Int)<l.length∨more<0∨10<more
 ·rcases hc with hc|hc|hc
  ·refine sZ Tryz.func4 Tryz.ntmps4 ?_;exact wx1 (qX1 (zCV)) trivial (kX2 @hl1 @hc)
  ·refine sZ Tryz.func4 Tryz.ntmps4 ?_;exact wx1 (qX1 (zCV)) trivial (kX2 @hl1 @hc)
  refine sZ Tryz.func4 Tryz.ntmps4 ?_;exact wx1 (qX1 (zCV)) trivial (kX2 @hl1 @hc)
 have c1:¬ (60:Int)<l.length:=fun q=>hc (.inl q)
 have c2:¬ more<0:=fun q=>hc (.inr (.inl q))
 have c3:¬ 10<more:=fun q=>hc (.inr (.inr q))
 obtain ⟨hM,hmay,hs⟩:=zTy (kind % 3) l (by omega)
 have hm:=zL7 kind l (by omega)
 generalize mkD (kind % 3) l=M at *
 have hst:=zET kind 3 l M (by decide) hmay hs ⟨hM.gv.1,by have:=hM.gv.2;omega⟩ (by have:=hM.n;omega) hm
 have ha:=prim_y hM hmay hs 3;generalize zDm 0 M 1 3=a0 at *
 generalize zM6 1 M 1 3=b at *
 refine sY Tryz.func4 Tryz.ntmps4 @hl1 ?_;intros;apply wr;refine gF10 (kX4 @hl1 @c1 @c2 @c3) rfl ?_;intros;apply wr;refine ccB (hst) ?_;refine auB ?_;intros;apply wr;refine cF0 rfl ?_;refine auB ?_;intros;apply wr;obtain ⟨I,hI⟩:∃ I:Nat→St→Prop,I=(fun kk ss=>∃ (i:Nat) (r:RepD),i≤8∧kk=8-i∧(OkY r i M.count)∧ss=⟨110,[(9,.int .i64 i),(7,.ptr 256 255 0 0),(2,iv more)],257,[(256,some ⟨66,255,true,false,[wldR r b]⟩)],0⟩):=⟨_,rfl⟩
 refine lX I (id) (by rw [hI];exact ⟨0,a0,by simp,rfl,ha,rfl⟩) ?_
 intro kk ss hIk _
 rw [hI] at hIk;obtain ⟨i,r,hi,rfl,hx,rfl⟩:=hIk;refine auB ?_;intros;apply wr;refine zAC rfl (fun hh=>?_) (fun hh=>?_)
 ·simp at hh;have hlt:i<8:=by omega
  have hwi:IntKind.u32.wrap (i:Int)=i:=u32_in (by omega) (by omega)
  have hw1:IntKind.i64.wrap ((i:Int)+1)=((i+1:Nat):Int):=by rw [zAB (by omega) (by omega)];omega
  have hn:W32 (i:Int):=⟨by omega,by omega⟩
  have hin:=zLx r (balE i) ((hx.l.okP (by omega)).up (by omega))
  rw [hx.l.input] at hin;have hP:=okP_q hx.l (show i≤100 by omega) hn
  have hrun:=zLG {r with rec_:={r.rec_ with queue:=[balE i]}} 5 0 (by unfold zEv;show (decide (r.role=1)||_)=true;rw [hx.l.role];rfl) hP zA1 (by simp) (by show r.gate.held.length≤_;have:=hx.l.g;omega) hx.l.t
  have hnx:=hx.round hlt hn;generalize ({r with rec_:={r.rec_ with queue:=[balE i]}}:RepD)=rq at *
  generalize zD5 rq 5 0=r' at *
  refine auB1 @hwi ?_;intros;apply wr;refine ccB1 (hin) @hwi ?_;refine auB ?_;intros;apply wr;refine ccB (hrun) ?_;refine auB ?_;intros;apply wr;exact aX (id) (by rw [hI];exact ⟨i+1,r',by omega,rfl,hnx,rfl⟩) (kX2 (zAB (n:=(i:Int)+1) (by omega) (by omega)) @hw1)
 simp at hh;have hP:=(hx.l.okP (show i≤100 by omega))
 have hP4:=hP.up (show 400≤40000 by omega)
 have m1:=zT7 r hx.l.role (by have:=hx.l.m.n;omega)
 have hrel:=zVk r zAx 1 0 (by simp [zAx]) hP4 hx.l.role (by rw [hx.kn,hx.ak]) hx.due
 have hsto:=zRz zAx 1 0 (by simp [zAx])
 have hlq:=zCb r.out.queue;by_cases hq:r.out.queue.length=8
 ·have hrun:=zLG r 5 0 (by unfold zEv;rw [hx.l.role];rfl) hP zA1 (by rw [hx.l.q];simp) (by have:=hx.l.g;omega) hx.l.t
  rw [hx.full hq] at hrun;have hsr:=zRv r hP4 hx.l.e;have hqi:(r.out.queue.length:Int)=8:=by omega
  refine auB1 (kX2 @hlq @hqi) ?_;intros;apply wr;refine cF0 rfl ?_;refine auB1 (kX2 @hlq @hqi) ?_;intros;apply wr;obtain ⟨I,hI⟩:∃ I:Nat→St→Prop,I=(fun kk ss=>∃ (i:Nat) (u:Unit),i≤more.toNat∧kk=more.toNat-i∧(True)∧ss=⟨110,[(11,.int .i64 i),(10,.bool true),(7,.ptr 256 255 0 0),(2,iv more)],257,[(256,some ⟨66,255,true,false,[wldR r b]⟩)],0⟩):=⟨_,rfl⟩
  refine lX I (id) (by rw [hI];exact ⟨0,(),by simp,rfl,trivial,rfl⟩) ?_
  intro kk ss hIk _
  rw [hI] at hIk;obtain ⟨i,u,hi,rfl,hx,rfl⟩:=hIk;refine auB ?_;intros;apply wr;refine zAC rfl (fun hg=>?_) (fun hg=>?_)
  ·simp at hg;refine auB ?_;intros;apply wr;refine ccB (hrun) ?_;refine auB ?_;intros;apply wr;refine ccB (hsr) ?_;refine auB ?_;intros;apply wr;refine cF0 rfl ?_;refine auB ?_;intros;apply wr;have hw1:IntKind.i64.wrap ((i:Int)+1)=((i+1:Nat):Int):=by rw [zAB (by omega) (by omega)];omega
   exact aX (id) (by rw [hI];exact ⟨i+1,(),by omega,rfl,trivial,rfl⟩) (kX2 (zAB (n:=(i:Int)+1) (by omega) (by omega)) @hw1)
  simp at hg;refine auB ?_;intros;apply wr;refine ccB (hrel) ?_;refine auB ?_;intros;apply wr;refine ccB (hsto) ?_;refine auB ?_;intros;apply wr;refine ccB (zCV) ?_;refine auB ?_;intros;apply wr;refine zAA ?_;simp
 have hq2:r.rec_.m.halted=true:=by
  rcases hx.qn with q|q
  ·omega
  exact q
 have hqi:¬ (r.out.queue.length:Int)=8:=by omega
 refine auB1 (kX2 @hlq @hqi) ?_;intros;apply wr;refine ccB (m1) ?_;refine auB1 @hq2 ?_;intros;apply wr;refine cF1 @hq2 rfl ?_;refine auB1 (kX2 @hlq @hqi) ?_;intros;apply wr;obtain ⟨I,hI⟩:∃ I:Nat→St→Prop,I=(fun kk ss=>∃ (i:Nat) (u:Unit),i≤0∧kk=0-i∧(True)∧ss=⟨110,[(11,.int .i64 i),(10,.bool false),(7,.ptr 256 255 0 0),(2,iv more)],257,[(256,some ⟨66,255,true,false,[wldR r b]⟩)],0⟩):=⟨_,rfl⟩
 refine lX1 I (id) (by rw [hI];exact ⟨0,(),by simp,rfl,trivial,rfl⟩) @hqi ?_
 intro kk ss hIk _
 rw [hI] at hIk;obtain ⟨i,u,hi,rfl,hx,rfl⟩:=hIk;refine auB ?_;intros;apply wr;refine zAC rfl (fun hg=>?_) (fun hg=>?_)
 ·exfalso
  simp at hg
 refine auB ?_;intros;apply wr;refine ccB (hrel) ?_;refine auB ?_;intros;apply wr;refine ccB (hsto) ?_;refine auB ?_;intros;apply wr;refine ccB (zCV) ?_;refine auB ?_;intros;apply wr;refine zAA ?_;simp
end Go.Proofs.YtoondlebmacanaaGreat
end
