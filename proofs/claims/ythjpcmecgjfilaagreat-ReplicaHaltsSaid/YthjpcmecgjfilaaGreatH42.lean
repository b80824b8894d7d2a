/- A part of the proof of ReplicaHalts. -/
import Derived.Test.YthjpcmecgjfilaaGreatH03
import Derived.Test.YthjpcmecgjfilaaGreatH06
import Derived.Test.YthjpcmecgjfilaaGreatH12
import Derived.Test.YthjpcmecgjfilaaGreatH33
import Derived.Test.YthjpcmecgjfilaaGreatH34
import Derived.Test.YthjpcmecgjfilaaGreatH37
import Derived.Test.YthjpcmecgjfilaaGreatH40
set_option linter.unusedSimpArgs false
set_option linter.unusedVariables false
set_option maxHeartbeats 16000000
set_option maxRecDepth 100000
section
namespace Go.Proofs.YthjpcmecgjfilaaGreat
open Go.Ab Go.RowKit Tryz
theorem zQa (bs:List (List UInt8)) (hb:∀ b∈bs,b.length=128) (h1:1<=bs.length) (h2:bs.length<=64):zAD prog 44 [zCq bs 1 0] (.bool true):=by
 have hl:=zBR bs;refine sY func44 ntmps44 @hl ?_;intros;apply wr;refine zAC rfl (fun h=>by simp at h;omega) (fun _=>?_)
 refine au ?_;intros;apply wr;obtain ⟨I,hI⟩:∃ I:Nat->St->Prop,I=(fun kk ss=>∃ (i:Nat) ,i<=bs.length/\kk=bs.length-i/\(True)/\ss=⟨53,[(3,.int .i64 i),(1,.ptr 0 3 0 0)],1,[(0,some ⟨64,3,true,false,[[.sl 1 false (strs bs),lv 1,iv 0]]⟩)],0⟩):=⟨_,rfl⟩
 refine lX I (id) (by rw [hI];exact ⟨0,by simp,rfl,trivial,rfl⟩) ?_
 intro kk ss hIk _
 rw [hI] at hIk;obtain ⟨i,hi,rfl,hx,rfl⟩:=hIk;refine au1 @hl ?_;intros;apply wr;refine zAC rfl (fun h=>?_) (fun h=>?_)
 ·simp at h;obtain ⟨s,hs⟩:∃ s,bs[i]=s:=⟨_,rfl⟩;have hge:s.length=128:=by have:=hb _ (zWU h);rwa [hs] at this
  have hsg:(strs bs)[i]? =some [.str s]:=by simp [strs,h,hs]
  refine aum1 (kX3 @hl @hsg @hge) ?_;intros;apply wr;refine gF00 rfl ?_;intros;apply wr;exact aX (id) (by rw [hI];exact ⟨i+1,by omega,rfl,trivial,rfl⟩) (zAA (n:=(i:Int)+1) (by omega) (by omega))
 simp at h;refine au ?_;intros;apply wr;refine zAB ?_;simp
theorem zON:zAD prog 17 [zCq zAb 1 0,iv 1,lv 1] (.tup [zCq zAb 2 1,.bool true]):=by
 refine sZ func17 ntmps17 ?_;exact wx (qX1 (zQa zAb zEL (by simp [zAb]) (by simp [zAb]))) trivial
def zBC (r:RepD):OutD × Bool:=if zEG r=true then zBW r.rec_.m.dk r.cmdAt else (⟨0,0,0,[]⟩,false)
theorem zHt (r:RepD):zAD prog 18 [.st r.row] (.tup [.st (zBC r).1.row,.bool (zBC r).2]):=by
 have hb:=zIM r;have hr:=zFS r.rec_.m.dk r.cmdAt;by_cases hq:zEG r=true
 ·have e:zBC r=zBW r.rec_.m.dk r.cmdAt:=by unfold zBC;rw [if_pos hq]
  rw [hq] at hb;rw [<- e] at hr;refine sZ func18 ntmps18 ?_;exact wx (qX2 (hb) (hr)) trivial
 have e:zBC r=(⟨0,0,0,[]⟩,false):=by unfold zBC;rw [if_neg hq]
 rw [Bool.not_eq_true] at hq;rw [hq] at hb;rw [e];refine sZ func18 ntmps18 ?_;exact wx (qX1 (hb)) trivial
theorem zJV (r:RepD) (hm:mayD r.rec_.m=true) (hb:zEG r=true):(zBC r).2=true/\(zBC r).1.at_=r.cmdAt:=by
 have hs:r.rec_.m.dk.state=1:=by
  have:=hb;unfold zEG at this;simp at this;exact this.2
 have hd:dskMay r.rec_.m.dk (pagesD r.rec_.m.mem)=true:=by
  unfold mayD at hm;simp only [zV5] at hm;exact hm.2.1.1.2
 have hc:r.rec_.m.dk.cmd=1\/r.rec_.m.dk.cmd=2:=by
  unfold dskMay at hd;split at hd
  ·simp at hd
  simp [hs] at hd;have:=hd.1.1;unfold zGT at this;split at this
  ·left;assumption
  split at this
  ·right;assumption
  simp at this
 unfold zBC zBW;rw [if_pos hb];rcases hc with hc|hc
 ·rw [if_pos ⟨hs,hc⟩];exact ⟨rfl,rfl⟩
 rw [if_neg (by omega),if_pos ⟨hs,hc⟩];exact ⟨rfl,rfl⟩
theorem zN1 (bs:List (List UInt8)) (g o:Int) (hb:bs.length<=100000):zAD prog 104 [zCq bs g o] (zCq bs g o):=by
 refine sZ func104 ntmps104 ?_;exact wx (qX1 (zS5 (strs bs) (by rw [zBR];exact hb))) trivial
theorem zUX (bs:List (List UInt8)) (g o:Int) (hb:bs.length<=100000) (x:OutD) (k:Int) (hk:¬ k=g):zAD prog 49 [zCq bs g o,lv k,.st x.row] (.tup [zCq bs g o,.st [iv 0,uv 0,.str []],.bool false]):=by
 have hkb:(k != g)=true:=by simpa using hk
 refine sZ func49 ntmps49 ?_
 (refine af1 @hkb ?_;intros;apply wr)
 repeat' ((first|(refine zAC rfl (fun h=>?_) (fun h=>?_)<;>(first|(simp [hkb] at h;done)|(simp [hkb] at h)|skip)<;>(first|(exfalso;omega)|skip))|refine cc1 (zN1 bs g o hb) @hkb ?_|(refine zAE (rid:=7) 5 [0,0,1,7,15] [(3,([[],[],[0]],[(1,2)])),(1,([],[])),(1,([],[]))] ?_)|(refine zAE (rid:=9) 10 [0,1,0,4,15,31,0,64,255,511] [(8,([[],[0],[],[2],[0,1,2,3],[0,1,2,3,4],[],[6]],[(1,7),(3,7),(4,7),(5,7)])),(1,([],[])),(1,([],[]))] ?_)|(refine zAE (rid:=10) 5 [0,0,1,7,15] [(3,([[],[],[0]],[(1,2)])),(1,([],[])),(1,([],[]))] ?_)|(refine zAE (rid:=12) 5 [0,0,1,7,15] [(3,([[],[],[0]],[(1,2)])),(1,([],[])),(1,([],[]))] ?_)|(refine zAE (rid:=15) 5 [0,0,1,7,15] [(3,([[],[],[0]],[(1,2)])),(1,([],[])),(1,([],[]))] ?_)|exact rt1 @hkb|fail)<;>(refine af1 @hkb ?_;intros;apply wr))
def dueR (r:RepD):Bool:=zEG r&&decide (r.cmd=0)&&decide (r.cmdAt<r.out.known)
def relA (r:RepD):RepD:={r with gate:=(relD r.gate r.out.known).1}
theorem zG4 (r:RepD) (hro:r.role=1):zAD prog 48 [.st r.row] (lv r.out.known):=by
 refine sX func48 ntmps48 ?_;intros;apply wr;refine gT10 @hro rfl ?_;intros;apply wr;refine zAB ?_;simp
theorem zVK (r:RepD) (bs:List (List UInt8)) (g o:Int) (hb:bs.length<=100000) (h:OkP r 40000) (hro:r.role=1) (hd:dueR r=false) :
  zAD prog 19 [.st r.row,zCq bs g o] (.tup [.st (relA r).row,zCq bs g o,.sl 5 false (rels (relD r.gate r.out.known).2)]):=by
 have hcl:=zB4 r h;have hcs:=zJY bs g o hb;have hlv:=zGm r;have hl:zFK r=true:=by unfold zFK;rw [hro];rfl
 rw [hl] at hlv;have hbu:=zIM r;have hrel:=zFR r.gate r.out.known (by have:=h.g;omega)
 have hrd:=zG4 r hro;have hE:relA r={r with gate:=(relD r.gate r.out.known).1}:=rfl
 generalize relD r.gate r.out.known=R at *
 rw [hE];have r1:(r.role==3)=false:=by rw [hro];rfl
 have r2:decide (r.role=3)=false:=by rw [hro];rfl
 refine sX func19 ntmps19 ?_;intros;apply wr;refine zAE 6 [0,1,0,7,15,31] [(3,([[],[0],[]],[(2,1)])),(1,([],[])),(1,([],[])),(1,([],[]))] ?_;refine af ?_;intros;apply wr;refine cXf (hcl) ?_;intros;apply wr;refine cXf (hcs) ?_;intros;apply wr;refine cXf (hlv) ?_;intros;apply wr;refine zBy rfl ?_;intros;apply wr;cases hq:zEG r with
 | false =>
  rw [hq] at hbu;refine zAE 19 [0,1,3,7,15,31,63,127,255,511,1023,2047,4095,8191,4095,20479,65535,131071,262143] [(1,([],[])),(1,([],[])),(1,([],[])),(1,([],[])),(1,([],[])),(1,([],[])),(1,([],[])),(1,([],[])),(1,([],[])),(1,([],[])),(1,([],[])),(1,([],[])),(4,([[],[0],[],[2]],[(1,3)])),(1,([],[])),(1,([],[])),(1,([],[]))] ?_;refine af1 (kX2 @r1 @r2) ?_;intros;apply wr;refine cYf (hbu) (kX2 @r1 @r2) ?_;intros;apply wr;refine zBy rfl ?_;intros;apply wr;refine zAE 11 [0,1,0,4,15,31,63,63,127,383,1023] [(4,([[],[0],[],[2]],[(1,3)])),(1,([],[])),(1,([],[])),(4,([[],[],[0],[0,2]],[])),(1,([],[]))] ?_;refine af ?_;intros;apply wr;refine cXf (hrd) ?_;intros;apply wr;refine cXf (hrel) ?_;intros;apply wr;refine zAE 6 [0,0,0,1,11,31] [(5,([[],[],[],[0],[0,1,3]],[(1,3)])),(1,([],[]))] ?_;refine af ?_;intros;apply wr;refine zAI ?_;refine zAB ?_;simp
 | true =>
  rw [hq] at hbu;by_cases hc:r.cmd=0
  ·have x2:decide (r.cmdAt<r.out.known)=false:=by simpa [dueR,hq,hc] using hd
   have d1:(r.cmd==0)=true:=by rw [hc];rfl
   have d2:decide (r.cmd=0)=true:=by rw [hc];rfl
   refine zAE 19 [0,1,3,7,15,31,63,127,255,511,1023,2047,4095,8191,4095,20479,65535,131071,262143] [(1,([],[])),(1,([],[])),(1,([],[])),(1,([],[])),(1,([],[])),(1,([],[])),(1,([],[])),(1,([],[])),(1,([],[])),(1,([],[])),(1,([],[])),(1,([],[])),(4,([[],[0],[],[2]],[(1,3)])),(1,([],[])),(1,([],[])),(1,([],[]))] ?_;refine af1 (kX4 @d1 @d2 @r1 @r2) ?_;intros;apply wr;refine cYf (hbu) (kX4 @d1 @d2 @r1 @r2) ?_;intros;apply wr;refine cYf (hrd) @x2 ?_;intros;apply wr;refine zBy rfl ?_;intros;apply wr;refine zAE 11 [0,1,0,4,15,31,63,63,127,383,1023] [(4,([[],[0],[],[2]],[(1,3)])),(1,([],[])),(1,([],[])),(4,([[],[],[0],[0,2]],[])),(1,([],[]))] ?_;refine af ?_;intros;apply wr;refine cXf (hrd) ?_;intros;apply wr;refine cXf (hrel) ?_;intros;apply wr;refine zAE 6 [0,0,0,1,11,31] [(5,([[],[],[],[0],[0,1,3]],[(1,3)])),(1,([],[]))] ?_;refine af ?_;intros;apply wr;refine zAI ?_;refine zAB ?_;simp
  have d1:(r.cmd==0)=false:=by simp [hc]
  have d2:decide (r.cmd=0)=false:=by simp [hc]
  refine zAE 19 [0,1,3,7,15,31,63,127,255,511,1023,2047,4095,8191,4095,20479,65535,131071,262143] [(1,([],[])),(1,([],[])),(1,([],[])),(1,([],[])),(1,([],[])),(1,([],[])),(1,([],[])),(1,([],[])),(1,([],[])),(1,([],[])),(1,([],[])),(1,([],[])),(4,([[],[0],[],[2]],[(1,3)])),(1,([],[])),(1,([],[])),(1,([],[]))] ?_;refine af1 (kX4 @d1 @d2 @r1 @r2) ?_;intros;apply wr;refine cYf (hbu) (kX4 @d1 @d2 @r1 @r2) ?_;intros;apply wr;refine zBy rfl ?_;intros;apply wr;refine zAE 11 [0,1,0,4,15,31,63,63,127,383,1023] [(4,([[],[0],[],[2]],[(1,3)])),(1,([],[])),(1,([],[])),(4,([[],[],[0],[0,2]],[])),(1,([],[]))] ?_;refine af ?_;intros;apply wr;refine cXf (hrd) ?_;intros;apply wr;refine cXf (hrel) ?_;intros;apply wr;refine zAE 6 [0,0,0,1,11,31] [(5,([[],[],[],[0],[0,1,3]],[(1,3)])),(1,([],[]))] ?_;refine af ?_;intros;apply wr;refine zAI ?_;refine zAB ?_;simp
theorem zVJ (r:RepD) (bs:List (List UInt8)) (g o:Int) (hb:bs.length<=100000) (h:OkP r 40000) (hro:r.role=1) (hd:dueR r=true) (hg:¬ r.gen=g) :
  zAD prog 19 [.st r.row,zCq bs g o] (.tup [.st (RepD.row {r with role:=0}),zCq bs g o,.sl 5 true []]):=by
 have hcl:=zB4 r h;have hcs:=zJY bs g o hb;have hlv:=zGm r;have hl:zFK r=true:=by unfold zFK;rw [hro];rfl
 rw [hl] at hlv;have hbu:=zIM r;have hrd:=zG4 r hro;have hcm:=zHt r;have hex:=zUX bs g o hb (zBC r).1 r.gen hg;have hoff:zAD prog 50 [.st r.row] (.st (RepD.row {r with role:=0})):=by
  refine sZ func50 ntmps50 ?_;exact wx trivial trivial
 have r1:(r.role==3)=false:=by rw [hro];rfl
 have r2:decide (r.role=3)=false:=by rw [hro];rfl
 unfold dueR at hd;simp only [zV5,decide_eq_true_eq] at hd;obtain ⟨⟨hq,hc⟩,hx⟩:=hd;rw [hq] at hbu;have x2:decide (r.cmdAt<r.out.known)=true:=by simp only [decide_eq_true_eq];exact hx
 have d1:(r.cmd==0)=true:=by rw [hc];rfl
 have d2:decide (r.cmd=0)=true:=by rw [hc];rfl
 generalize zBC r=C at *
 refine sX func19 ntmps19 ?_;intros;apply wr;refine zAE 6 [0,1,0,7,15,31] [(3,([[],[0],[]],[(2,1)])),(1,([],[])),(1,([],[])),(1,([],[]))] ?_;refine af ?_;intros;apply wr;refine cXf (hcl) ?_;intros;apply wr;refine cXf (hcs) ?_;intros;apply wr;refine cXf (hlv) ?_;intros;apply wr;refine zBy rfl ?_;intros;apply wr;refine zAE 19 [0,1,3,7,15,31,63,127,255,511,1023,2047,4095,8191,4095,20479,65535,131071,262143] [(1,([],[])),(1,([],[])),(1,([],[])),(1,([],[])),(1,([],[])),(1,([],[])),(1,([],[])),(1,([],[])),(1,([],[])),(1,([],[])),(1,([],[])),(1,([],[])),(4,([[],[0],[],[2]],[(1,3)])),(1,([],[])),(1,([],[])),(1,([],[]))] ?_;refine af1 (kX4 @d1 @d2 @r1 @r2) ?_;intros;apply wr;refine cYf (hbu) (kX4 @d1 @d2 @r1 @r2) ?_;intros;apply wr;refine cYf (hrd) @x2 ?_;intros;apply wr;refine zOy rfl ?_;intros;apply wr;refine cXf (hcm) ?_;intros;apply wr;refine cXf (hex) ?_;intros;apply wr;refine zOy rfl ?_;intros;apply wr;refine zAE 6 [0,1,0,3,15,31] [(4,([[],[0],[],[0,1]],[(2,1),(2,3)])),(1,([],[])),(1,([],[]))] ?_;refine af ?_;intros;apply wr;refine cXf (hoff) ?_;intros;apply wr;refine zAI ?_;refine zAB ?_;simp
theorem zVT (r:RepD) (h:OkP r 40000) (hro:r.role=0) (steps c:Int):zAD prog 9 [.st r.row,iv steps,uv c] (.st r.row):=by
 have hcl:=zB4 r h;refine sX func9 ntmps9 ?_;intros;apply wr;refine cX (hcl) ?_;intros;apply wr;refine gF10 @hro rfl ?_;intros;apply wr;refine gF10 @hro rfl ?_;intros;apply wr;refine gF10 @hro rfl ?_;intros;apply wr;refine zAI ?_;refine zAB ?_;simp
theorem zVQ (r:RepD) (h:OkP r 40000) (hro:r.role=0):zAD prog 11 [.st r.row] (.tup [.st r.row,.sl 1 true []]):=by
 have hcl:=zB4 r h;refine sX func11 ntmps11 ?_;intros;apply wr;refine cX (hcl) ?_;intros;apply wr;refine gF10 @hro rfl ?_;intros;apply wr;refine gF10 @hro rfl ?_;intros;apply wr;refine zAI ?_;refine zAB ?_;simp
theorem rm0_ok (r:RepD) (hro:r.role=0):zAD prog 13 [.st r.row] (.st zMch.row):=by
 refine sZ func13 ntmps13 ?_;exact wx1 trivial trivial @hro
theorem OkF.rel {a:RepD} {i:Nat} (h:OkF a i):OkF (relA a) i:=by
 have hl:=zIy a.gate a.out.known;have hg:=h.g;refine ⟨h.role,h.host,h.gen,h.m,h.may,h.c,h.l,h.q,h.p,h.pl,h.oq,h.b1,h.b2,h.ot,h.ok,h.e,h.h,h.hv,by show (relD a.gate a.out.known).1.held.length<=_;omega,h.bt,h.wd,h.ws,?_⟩
 show L64 (relD a.gate a.out.known).1.acked
 unfold relD;split
 ·show L64 a.out.known
  rw [h.ok];exact zCb h.m
 exact h.ga
theorem OkF.q0 {a:RepD} {i:Nat} (h:OkF a i):zHh a []=a:=by
 have:=h.q;obtain ⟨x1,x2,x3,⟨m,k,g,q⟩,d⟩:=a;simp only at this;subst this;rfl
theorem OkF.pp {a:RepD} {i:Nat} (h:OkF a i) (hi:i<=100):OkP a 40000:=by
 have:=(h.okP (q:=[]) hi (by simp) (by simp)).up (show 400<=40000 by omega)
 rw [h.q0] at this;exact this
theorem off_p {a:RepD} (h:OkP a 40000):OkP {a with role:=0} 40000:=⟨h.c,h.p,h.pl,h.g,h.o,h.on,h.i,h.en,h.h⟩
theorem zUg {a b:RepD} {i:Nat} (hA:OkF a i) (hB:OkBk b a.out.base a.rec_.m a.hist i) (hbt:b.beats=i) (hi:i<=20) (steps:Int) {clock:Int} (hc:W32 clock) :
  ∃ a1 a2 L bs b3 b4 M sa,zAD prog 9 [.st a.row,iv steps,uv clock] (.st (RepD.row a1))/\zAD prog 11 [.st a1.row] (.tup [.st (RepD.row a2),.sl 1 false (strs L)])/\L.length<=2/\bs 0=b/\Recv L bs /\
   zAD prog 11 [.st (bs L.length).row] (.tup [.st (RepD.row b3),.sl 1 false (strs M)])/\zAD prog 9 [.st b3.row,iv 64,uv 0] (.st (RepD.row b4))/\M.length=2/\sa 0=a2/\Recv M sa /\
   OkF (sa 2) (i+1)/\OkBk b4 (sa 2).out.base (sa 2).rec_.m (sa 2).hist (i+1)/\b4.beats=(i+1:Nat):=by
 obtain ⟨r,g,x,y,l,o,e1,hm,hmay,hrc,hl,hrq,hS,hR,hd,ho,hg,hk,-⟩:=hA.run (by omega) (q:=[]) (by simp) (by simp) steps hc
 have hP:=hA.okP (q:=[]) (by omega) (by simp) (by simp)
 have hga:=hA.g;have hrun:=zP8 (zHh a []) steps clock (by unfold zFK;show (decide (a.role=1)||_)=true;rw [hA.role];rfl) hP hc (by simp) (by show a.gate.held.length<=_;omega) (by show L64 a.out.tail;rw [hA.ot];exact zCb hA.m)
 rw [e1,hA.q0] at hrun;obtain ⟨p1,p2,p3,p4⟩:=pkA hA (by omega) hm hrc hl hrq hS hg hk _ rfl
 obtain ⟨bs,s1,s2,s3⟩:=recvB hA hi hB (zCb hm) hS p3;obtain ⟨b4,t1,t2,t3,t4⟩:=runBk hB hi hA.h hR hS hm hd ho (nxF a.out r.m.count l) ((i:Int)+1) a.gate.acked hA.ga ((i:Int)+1);have t5:=t4 rfl;obtain ⟨sa,v1,v2,v3,v4,v5⟩:=recvA hA hi hm hmay hrc hl hrq hS hg hk _ rfl p1 p2 p3;have hnx:1<=nxF a.out r.m.count l/\nxF a.out r.m.count l<=4611686018427387904:=by
  have h1:=hA.b1;have h2:=hA.b2;unfold nxF;split<;>omega
 have hF:=hB.feed hi hA.h hS (zCb hm) (nxF a.out r.m.count l);have hrl:=zIy b.gate (max b.mark a.gate.acked);have hg0:=hB.g;have hPb:OkP (zHT (zFt b (nxF a.out r.m.count l) r.m.count l) ((i:Int)+1) a.gate.acked) 40000:=⟨hF.c,hF.p,hF.pl,by show (relD b.gate (max b.mark a.gate.acked)).1.held.length<=_;omega,hF.o,hF.on,hF.i,hF.en,hF.h⟩
 have hpk:=zVP _ hPb hB.role rfl hnx (zCb hm) (by show 0<=b.beats/\b.beats<_;rw [hbt];omega)
 rw [<- s3] at hpk;have hbe:(bs (pksL a.out.base (outF a.out r.m.count l).queue++[zCC ((i:Int)+1) a.gate.acked]).length).beats=i:=by rw [s3];exact hbt
 rw [hbe] at hpk;refine ⟨_,_,_,bs,_,b4,_,sa,hrun,p4,?_,s1,s2,?_,t1,?_,v1,v2,v4,?_,by rw [t3];push_cast;rfl⟩
 ·show (pksL a.out.base (outF a.out r.m.count l).queue++_).length<=2
  unfold outF;split
  ·rw [hA.oq];simp [pksL]
  simp [pksL]
 ·rw [s3] at hpk ⊢;exact hpk
 ·rfl
 rw [v3];show OkBk _ (ackF _).base r.m (a.hist++l) (i+1)
 rw [v5];exact t5
end Go.Proofs.YthjpcmecgjfilaaGreat
end
