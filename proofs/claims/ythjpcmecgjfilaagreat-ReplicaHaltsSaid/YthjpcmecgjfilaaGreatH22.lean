/- A part of the proof of ReplicaHalts. -/
import Derived.Test.YthjpcmecgjfilaaGreatH21
set_option linter.unusedSimpArgs false
set_option linter.unusedVariables false
set_option maxHeartbeats 16000000
set_option maxRecDepth 100000
section
namespace Go.Proofs.YthjpcmecgjfilaaGreat
open Go.Ab Go.RowKit Tryz
theorem zCY {C D E G:Prop} (c:C) (d:D) (e:E) (t:C->D->E->G:=by intro c d e;(refine au1 e ?_;(repeat intro K hK);apply wr);repeat' ((first|(refine zAC rfl (fun h=>?_) (fun h=>?_)<;>(first|(simp [e] at h;done)|(simp [e] at h)|skip)<;>(first|(exfalso;omega)|skip))|((first|refine .inl ⟨1,_,d.1,?_⟩|refine ⟨1,_,d.1,?_⟩);simp [aftC,aftE,noX,noXc,noX1,e];first|refine And.intro zAM ?_|skip)|((first|refine .inl ⟨1,_,d.2.1,?_⟩|refine ⟨1,_,d.2.1,?_⟩);simp [aftC,aftE,noX,noXc,noX1,e];first|refine And.intro zAM ?_|skip)|refine cc1 c.1 e ?_|refine cc1 c.2.1 e ?_|refine cc1 c.2.2.1 e ?_|refine cc1 c.2.2.2.1 e ?_|refine cc1 c.2.2.2.2.1 e ?_|refine cc1 c.2.2.2.2.2.1 e ?_|refine zAX 6 ?_|refine zAk fun K hK=>?_|exact rt1 e|fail)<;>(refine au1 e ?_;(repeat intro K hK);apply wr))):G:=t c d e
theorem zL9 (m:MchD):0<=zFg m/\zFg m<=31:=by
 have hb:∀ b,0<=b2w b/\b2w b<=1:=fun b=>by cases b<;>simp [b2w]
 unfold zFg;have:=hb m.tim.fired;have:=hb (!decide (m.keys=[]));have:=hb (zBi m.dk);have:=hb m.nc.received;have:=hb (zA8 m.tgt m.given);omega
theorem enabled_ok (m:MchD) (hM:OkM m):zAD prog 177 [.st m.row] (uv (enD m)):=by
 refine sZ func177 ntmps177 ?_
 (refine af1 @enD.eq_1 ?_;intros;apply wr)
 repeat' ((first|(refine zAC rfl (fun h=>?_) (fun h=>?_)<;>(first|(simp [enD] at h;done)|(simp [enD] at h)|skip)<;>(first|(exfalso;omega)|skip))|refine cc1 (zIf m hM) @enD.eq_1 ?_|(refine zAE 8 [0,1,0,4,12,28,63,127] [(6,([[],[0],[],[2],[2,3],[2,3,4]],[(4,1),(5,1)])),(1,([],[])),(1,([],[]))] ?_)|exact rt1 @enD.eq_1|fail)<;>(refine af1 @enD.eq_1 ?_;intros;apply wr))
structure OkE (e:EffD):Prop where
 r:e.kind=1->0<=e.reg/\e.reg<=15
 v:W32 e.val
theorem OkM.wait {m:MchD} (h:OkM m) (b:Bool):OkM {m with waiting:=b}:=⟨h.c,h.w,h.n,h.k,h.t,h.d,h.r,h.tg,h.gv,h.ct⟩
theorem enD_w (m:MchD):W32 (enD m):=by unfold enD iand;rw [IntKind.wrap_u32];constructor<;>omega
theorem zK0 (m:MchD) (hM:OkM m):zAD prog 129 [.st m.row] (.bool (zIZ m)):=by
 refine sZ func129 ntmps129 ?_;exact wx1 (qX1 (enabled_ok m hM)) trivial @zIZ.eq_1
theorem zQC (m:MchD) (hM:OkM m):zAD prog 178 [.st m.row] (.bool (runsD m)):=by
 refine sZ func178 ntmps178 ?_;exact wx1 (qX2 (zH7 m hM.gv.1 (by have:=hM.gv.2;omega)) (zK0 m hM)) trivial @runsD.eq_1
theorem iand8 {x:Int} (h:W32 x):iand .u32 x 8=x / 8 % 2*8:=zD2 x 3 h (by decide)
theorem iand16 {x:Int} (h:W32 x):iand .u32 x 16=x / 16 % 2*16:=zD2 x 4 h (by decide)
theorem zLj (m:MchD) (hM:OkM m):zAD prog 179 [.st m.row] (.st (zAK m).row):=by
 have c2:=zUi (hM.c.csr 0);have he:=enD_w m;by_cases q:m.cpu.csr 0 / 2 % 2=0
 ·have hE:zAK m={m with waiting:=false}:=by unfold zAK;rw [if_pos q]
  rw [hE];refine sZ func179 ntmps179 ?_;exact wx1 trivial trivial (kX2 @c2 @q)
 have i1:=zO9 he;have i2:=zUi he;have i4:=iand4 he;have i8:=iand8 he;have i16:=iand16 he;have hen:zAD prog 177 [.st ({m with waiting:=false}:MchD).row] (uv (enD m)):=enabled_ok {m with waiting:=false} (hM.wait false)
 have z:∀ x:Int,¬ x % 2=1->x % 2=0:=fun x hx=>by omega
 by_cases h0:enD m % 2=1
 ·have hE:zAK m={m with waiting:=false,cpu:=zBF m.cpu (16+0) 0}:=by unfold zAK lowB;rw [if_neg (by omega)];simp [h0]
  rw [hE];refine sX func179 ntmps179 ?_;intros;apply wr;exact zCY (qX2 (hen) (zCr m.cpu (16+0) 0 hM.c)) trivial (kX10 @c2 @q @i1 @i2 @i4 @i8 @i16 @u32c @i64c @h0)
 have z0:=z _ h0;by_cases h1:enD m / 2 % 2=1
 ·have hE:zAK m={m with waiting:=false,cpu:=zBF m.cpu (16+1) 0}:=by unfold zAK lowB;rw [if_neg (by omega)];simp [z0,h1]
  rw [hE];refine sX func179 ntmps179 ?_;intros;apply wr;exact zCY (qX2 (hen) (zCr m.cpu (16+1) 0 hM.c)) trivial (kX11 @c2 @q @i1 @i2 @i4 @i8 @i16 @u32c @i64c @z0 @h1)
 have z1:=z _ h1;by_cases h2:enD m / 4 % 2=1
 ·have hE:zAK m={m with waiting:=false,cpu:=zBF m.cpu (16+2) 0}:=by unfold zAK lowB;rw [if_neg (by omega)];simp [z0,z1,h2]
  rw [hE];refine sX func179 ntmps179 ?_;intros;apply wr;exact zCY (qX2 (hen) (zCr m.cpu (16+2) 0 hM.c)) trivial (kX12 @c2 @q @i1 @i2 @i4 @i8 @i16 @u32c @i64c @z0 @z1 @h2)
 have z2:=z _ h2;by_cases h3:enD m / 8 % 2=1
 ·have hE:zAK m={m with waiting:=false,cpu:=zBF m.cpu (16+3) 0}:=by unfold zAK lowB;rw [if_neg (by omega)];simp [z0,z1,z2,h3]
  rw [hE];refine sX func179 ntmps179 ?_;intros;apply wr;exact zCY (qX2 (hen) (zCr m.cpu (16+3) 0 hM.c)) trivial (kX13 @c2 @q @i1 @i2 @i4 @i8 @i16 @u32c @i64c @z0 @z1 @z2 @h3)
 have z3:=z _ h3;by_cases h4:enD m / 16 % 2=1
 ·have hE:zAK m={m with waiting:=false,cpu:=zBF m.cpu (16+4) 0}:=by unfold zAK lowB;rw [if_neg (by omega)];simp [z0,z1,z2,z3,h4]
  rw [hE];refine sX func179 ntmps179 ?_;intros;apply wr;exact zCY (qX2 (hen) (zCr m.cpu (16+4) 0 hM.c)) trivial (kX14 @c2 @q @i1 @i2 @i4 @i8 @i16 @u32c @i64c @z0 @z1 @z2 @z3 @h4)
 have z4:=z _ h4;have hE:zAK m={m with waiting:=false}:=by unfold zAK lowB;rw [if_neg (by omega)];simp [z0,z1,z2,z3,z4]
 rw [hE];refine sX func179 ntmps179 ?_;intros;apply wr;exact zCY (qX1 (hen)) trivial (kX14 @c2 @q @i1 @i2 @i4 @i8 @i16 @u32c @i64c @z0 @z1 @z2 @z3 @z4)
theorem OkC.trap {c:CpuD} (h:OkC c) {k b:Int} (hb:W32 b):OkC (zBF c k b):=by
 have ht:=zQW (c.csr 0);refine ⟨h.x,h.csr 1,fun i=>?_,by simpa [zBF] using ht.2⟩
 simp only [zBF];split
 ·exact ⟨ht.1,by omega⟩
 split
 ·exact h.pc
 split
 ·exact uw_w _
 split
 ·exact hb
 exact h.csr i
theorem OkC.ret {c:CpuD} (h:OkC c):OkC (retD c):=by
 have ht:=zTY (c.csr 0);refine ⟨h.x,h.csr 2,fun i=>?_,by simpa [retD] using ht.2⟩
 simp only [retD];split
 ·exact ⟨ht.1,by omega⟩
 exact h.csr i
theorem zKk (m:MchD):(zAK m).mem=m.mem:=by unfold zAK;split;rfl;split<;>rfl
theorem zFA {m:MchD} (hM:OkM m):OkC (zAK m).cpu:=by
 unfold zAK;split
 ·exact hM.c
 split
 ·exact hM.c
 exact hM.c.trap ⟨by decide,by decide⟩
theorem zMZ (m:MchD) (hM:OkM m):zAD prog 130 [.st m.row] (.bool (readsD m)):=by
 have hx:=zOl (zAK m).cpu m.mem (zFA hM) hM.w (by have:=hM.n;omega)
 have hb:=zLj m hM;have hm:=zKk m;have hr:=zQC m hM;cases hR:runsD m with
 | false =>
  have hE:readsD m=false:=by unfold readsD;rw [hR];rfl
  rw [hR] at hr;rw [hE];refine sZ func130 ntmps130 ?_;exact wx (qX1 (hr)) trivial
 | true =>
  have hE:readsD m=(decide ((effD m).kind=1)&&decide ((effD m).port=2)):=by unfold readsD;rw [hR];rfl
  rw [hR] at hr;rw [hE];have hF:effD m=(zAo (zAK m).cpu m.mem).2.2:=rfl;rw [hF];generalize zAK m=b at *
  generalize zAo b.cpu m.mem=Z at *
  refine sZ func130 ntmps130 ?_;exact wx1 (qX3 (hr) (hb) (hx)) trivial @hm
theorem zLQ (m:MchD) (p k:Int) (hM:OkM m):zAD prog 181 [.st m.row,iv p,uv k] (.tup [.st (zAc m p k).1.row,uv (zAc m p k).2]):=by
 refine sZ func181 ntmps181 ?_;exact wx1 (qX5 (zRE m.keys p hM.k) (zSo m.tim) (zRI m.dk p) (zRv m.nc p) (zQ2 m.tgt m.given p hM.gv)) trivial @zAc.eq_1
end Go.Proofs.YthjpcmecgjfilaaGreat
end
