/- A part of the proof of ReplicaBare+ReplicaWindow. -/
import Derived.Test.YtoondlebmacanaaGreatB20
import Derived.Test.YtoondlebmacanaaGreatB30
set_option linter.unusedSimpArgs false
set_option linter.unusedVariables false
set_option maxHeartbeats 16000000
set_option maxRecDepth 100000
section
namespace Go.Proofs.YtoondlebmacanaaGreat
open Go.Ab Go.RowKit
theorem zCi {C D E G:Prop} (c:C) (d:D) (e:E) (t:C→D→E→G:=by intro c d e;(refine au1 e ?_;(repeat intro K hK);apply wr);repeat' ((first|(refine zAC rfl (fun h=>?_) (fun h=>?_)<;>(first|(simp [e] at h;done)|(simp [e] at h)|skip)<;>(first|(exfalso;omega)|skip))|((first|refine .inl ⟨1,_,d.1,?_⟩|refine ⟨1,_,d.1,?_⟩);simp [aftC,aftE,noX,noXc,noX1,e];first|refine And.intro zAP ?_|skip)|((first|refine .inl ⟨1,_,d.2.1,?_⟩|refine ⟨1,_,d.2.1,?_⟩);simp [aftC,aftE,noX,noXc,noX1,e];first|refine And.intro zAP ?_|skip)|refine cc1 c.1 e ?_|refine cc1 c.2.1 e ?_|refine cc1 c.2.2.1 e ?_|refine cc1 c.2.2.2.1 e ?_|refine cc1 c.2.2.2.2.1 e ?_|refine cc1 c.2.2.2.2.2.1 e ?_|refine zAL 6 ?_|refine zAH fun K hK=>?_|exact rt1 e|fail)<;>(refine au1 e ?_;(repeat intro K hK);apply wr))):G:=t c d e
theorem zL3 (m:MchD):0≤zFt m∧zFt m≤31:=by
 have hb:∀ b,0≤b2w b∧b2w b≤1:=fun b=>by cases b<;>simp [b2w]
 unfold zFt;have:=hb m.tim.fired;have:=hb (!decide (m.keys=[]));have:=hb (zBj m.dk);have:=hb m.nc.received;have:=hb (zBK m.tgt m.given);omega
theorem enabled_ok (m:MchD) (hM:OkM m):zAD Tryz.prog 176 [.st m.row] (uv (enD m)):=by
 refine sZ Tryz.func176 Tryz.ntmps176 ?_
 (refine af1 @enD.eq_1 ?_;intros;apply wr)
 repeat' ((first|(refine zAC rfl (fun h=>?_) (fun h=>?_)<;>(first|(simp [enD] at h;done)|(simp [enD] at h)|skip)<;>(first|(exfalso;omega)|skip))|refine cc1 (zIP m hM) @enD.eq_1 ?_|(refine zAG 8 [0,1,0,4,12,28,63,127] [(6,([[],[0],[],[2],[2,3],[2,3,4]],[(4,1),(5,1)])),(1,([],[])),(1,([],[]))] ?_)|exact rt1 @enD.eq_1|fail)<;>(refine af1 @enD.eq_1 ?_;intros;apply wr))
structure OkE (e:EffD):Prop where
 r:e.kind=1→0≤e.reg∧e.reg≤15
 v:W32 e.val
theorem OkM.wait {m:MchD} (h:OkM m) (b:Bool):OkM {m with waiting:=b}:=⟨h.c,h.w,h.n,h.k,h.t,h.d,h.r,h.tg,h.gv,h.ct⟩
theorem enD_w (m:MchD):W32 (enD m):=by unfold enD iand;rw [IntKind.wrap_u32];constructor<;>omega
theorem zPF (m:MchD) (hM:OkM m):zAD Tryz.prog 119 [.st m.row] (.bool (zKk m)):=by
 refine sZ Tryz.func119 Tryz.ntmps119 ?_;exact wx1 (qX1 (enabled_ok m hM)) trivial @zKk.eq_1
theorem zQZ (m:MchD) (hM:OkM m):zAD Tryz.prog 177 [.st m.row] (.bool (runsD m)):=by
 refine sZ Tryz.func177 Tryz.ntmps177 ?_;exact wx1 (qX2 (zFx m hM.gv.1 (by have:=hM.gv.2;omega)) (zPF m hM)) trivial @runsD.eq_1
theorem iand8 {x:Int} (h:W32 x):iand .u32 x 8=x / 8 % 2*8:=zEJ x 3 h (by decide)
theorem iand16 {x:Int} (h:W32 x):iand .u32 x 16=x / 16 % 2*16:=zEJ x 4 h (by decide)
theorem zLX (m:MchD) (hM:OkM m):zAD Tryz.prog 178 [.st m.row] (.st (zAO m).row):=by
 have c2:=zVA (hM.c.csr 0);have he:=enD_w m;by_cases q:m.cpu.csr 0 / 2 % 2=0
 ·have hE:zAO m={m with waiting:=false}:=by unfold zAO;rw [if_pos q]
  rw [hE];refine sZ Tryz.func178 Tryz.ntmps178 ?_;exact wx1 trivial trivial (kX2 @c2 @q)
 have i1:=zPD he;have i2:=zVA he;have i4:=iand4 he;have i8:=iand8 he;have i16:=iand16 he;have hen:zAD Tryz.prog 176 [.st ({m with waiting:=false}:MchD).row] (uv (enD m)):=enabled_ok {m with waiting:=false} (hM.wait false)
 have z:∀ x:Int,¬ x % 2=1→x % 2=0:=fun x hx=>by omega
 by_cases h0:enD m % 2=1
 ·have hE:zAO m={m with waiting:=false,cpu:=zA4 m.cpu (16+0) 0}:=by unfold zAO lowB;rw [if_neg (by omega)];simp [h0]
  rw [hE];refine sX Tryz.func178 Tryz.ntmps178 ?_;intros;apply wr;exact zCi (qX2 (hen) (zC2 m.cpu (16+0) 0 hM.c)) trivial (kX10 @c2 @q @i1 @i2 @i4 @i8 @i16 @u32c @i64c @h0)
 have z0:=z _ h0;by_cases h1:enD m / 2 % 2=1
 ·have hE:zAO m={m with waiting:=false,cpu:=zA4 m.cpu (16+1) 0}:=by unfold zAO lowB;rw [if_neg (by omega)];simp [z0,h1]
  rw [hE];refine sX Tryz.func178 Tryz.ntmps178 ?_;intros;apply wr;exact zCi (qX2 (hen) (zC2 m.cpu (16+1) 0 hM.c)) trivial (kX11 @c2 @q @i1 @i2 @i4 @i8 @i16 @u32c @i64c @z0 @h1)
 have z1:=z _ h1;by_cases h2:enD m / 4 % 2=1
 ·have hE:zAO m={m with waiting:=false,cpu:=zA4 m.cpu (16+2) 0}:=by unfold zAO lowB;rw [if_neg (by omega)];simp [z0,z1,h2]
  rw [hE];refine sX Tryz.func178 Tryz.ntmps178 ?_;intros;apply wr;exact zCi (qX2 (hen) (zC2 m.cpu (16+2) 0 hM.c)) trivial (kX12 @c2 @q @i1 @i2 @i4 @i8 @i16 @u32c @i64c @z0 @z1 @h2)
 have z2:=z _ h2;by_cases h3:enD m / 8 % 2=1
 ·have hE:zAO m={m with waiting:=false,cpu:=zA4 m.cpu (16+3) 0}:=by unfold zAO lowB;rw [if_neg (by omega)];simp [z0,z1,z2,h3]
  rw [hE];refine sX Tryz.func178 Tryz.ntmps178 ?_;intros;apply wr;exact zCi (qX2 (hen) (zC2 m.cpu (16+3) 0 hM.c)) trivial (kX13 @c2 @q @i1 @i2 @i4 @i8 @i16 @u32c @i64c @z0 @z1 @z2 @h3)
 have z3:=z _ h3;by_cases h4:enD m / 16 % 2=1
 ·have hE:zAO m={m with waiting:=false,cpu:=zA4 m.cpu (16+4) 0}:=by unfold zAO lowB;rw [if_neg (by omega)];simp [z0,z1,z2,z3,h4]
  rw [hE];refine sX Tryz.func178 Tryz.ntmps178 ?_;intros;apply wr;exact zCi (qX2 (hen) (zC2 m.cpu (16+4) 0 hM.c)) trivial (kX14 @c2 @q @i1 @i2 @i4 @i8 @i16 @u32c @i64c @z0 @z1 @z2 @z3 @h4)
 have z4:=z _ h4;have hE:zAO m={m with waiting:=false}:=by unfold zAO lowB;rw [if_neg (by omega)];simp [z0,z1,z2,z3,z4]
 rw [hE];refine sX Tryz.func178 Tryz.ntmps178 ?_;intros;apply wr;exact zCi (qX1 (hen)) trivial (kX14 @c2 @q @i1 @i2 @i4 @i8 @i16 @u32c @i64c @z0 @z1 @z2 @z3 @z4)
theorem OkC.trap {c:CpuD} (h:OkC c) {k b:Int} (hb:W32 b):OkC (zA4 c k b):=by
 have ht:=zQq (c.csr 0);refine ⟨h.x,h.csr 1,fun i=>?_,by simpa [zA4] using ht.2⟩
 simp only [zA4];split
 ·exact ⟨ht.1,by omega⟩
 split
 ·exact h.pc
 split
 ·exact uw_w _
 split
 ·exact hb
 exact h.csr i
theorem OkC.ret {c:CpuD} (h:OkC c):OkC (retD c):=by
 have ht:=zT6 (c.csr 0);refine ⟨h.x,h.csr 2,fun i=>?_,by simpa [retD] using ht.2⟩
 simp only [retD];split
 ·exact ⟨ht.1,by omega⟩
 exact h.csr i
theorem zKU (m:MchD):(zAO m).mem=m.mem:=by unfold zAO;split;rfl;split<;>rfl
theorem zGY {m:MchD} (hM:OkM m):OkC (zAO m).cpu:=by
 unfold zAO;split
 ·exact hM.c
 split
 ·exact hM.c
 exact hM.c.trap ⟨by decide,by decide⟩
theorem zS0 (m:MchD) (hM:OkM m):zAD Tryz.prog 120 [.st m.row] (.bool (readsD m)):=by
 have hx:=zOn (zAO m).cpu m.mem (zGY hM) hM.w (by have:=hM.n;omega)
 have hb:=zLX m hM;have hm:=zKU m;have hr:=zQZ m hM;cases hR:runsD m with
 | false =>
  have hE:readsD m=false:=by unfold readsD;rw [hR];rfl
  rw [hR] at hr;rw [hE];refine sZ Tryz.func120 Tryz.ntmps120 ?_;exact wx (qX1 (hr)) trivial
 | true =>
  have hE:readsD m=(decide ((effD m).kind=1)&&decide ((effD m).port=2)):=by unfold readsD;rw [hR];rfl
  rw [hR] at hr;rw [hE];have hF:effD m=(zAr (zAO m).cpu m.mem).2.2:=rfl;rw [hF];generalize zAO m=b at *
  generalize zAr b.cpu m.mem=Z at *
  refine sZ Tryz.func120 Tryz.ntmps120 ?_;exact wx1 (qX3 (hr) (hb) (hx)) trivial @hm
theorem zK8 (m:MchD) (p k:Int) (hM:OkM m):zAD Tryz.prog 180 [.st m.row,iv p,uv k] (.tup [.st (zAS m p k).1.row,uv (zAS m p k).2]):=by
 refine sZ Tryz.func180 Tryz.ntmps180 ?_;exact wx1 (qX5 (zRa m.keys p hM.k) (zTO m.tim) (zRf m.dk p) (zSP m.nc p) (zRO m.tgt m.given p hM.gv)) trivial @zAS.eq_1
theorem zPE (a b:Int):W32 (iand .u32 a b):=by unfold iand;rw [IntKind.wrap_u32];constructor<;>omega
theorem zVF (a b:Int):W32 (ior .u32 a b):=by unfold ior;rw [IntKind.wrap_u32];constructor<;>omega
theorem ixor_w (a b:Int):W32 (ixor .u32 a b):=by unfold ixor;rw [IntKind.wrap_u32];constructor<;>omega
theorem zKj (a b:Int):W32 (zAV .u32 a b):=by unfold zAV;rw [IntKind.wrap_u32];constructor<;>omega
theorem zUS (b:Bool):W32 (b2w b):=by cases b<;>(constructor<;>decide)
theorem zA1:W32 0:=⟨by decide,by decide⟩
theorem shr_w {a:Int} (h:W32 a) (n:Nat):W32 (a / 2 ^ n):=by
 have p:(0:Int)<2 ^ n:=zWo (by decide)
 refine ⟨Int.ediv_nonneg h.1 (zWm p),Int.lt_of_le_of_lt (Int.ediv_le_self _ h.1) h.2⟩
theorem zAs {α:Type} {P:α→Prop} {c:Prop} [Decidable c] {a b:α} (ha:c→P a) (hb:¬ c→P b):P (if c then a else b):=by
 by_cases h:c
 ·rw [if_pos h];exact ha h
 rw [if_neg h];exact hb h
theorem zWO {c:Prop} [Decidable c] {a b:Int} (ha:W32 a) (hb:W32 b):W32 (if c then a else b):=zAs (P:=W32) (fun _=>ha) (fun _=>hb)
theorem zFa {c:Prop} [Decidable c] {x:Int} {o:Option Int} (hx:W32 x) (ho:W32 (o.getD 0)):W32 ((if c then some x else o).getD 0):=zAs (P:=fun z:Option Int=>W32 (z.getD 0)) (fun _=>hx) (fun _=>ho)
theorem alu_w {op a b:Int} (ha:W32 a):W32 ((aluD op a b).getD 0):=by
 have hq:W32 (divQ a b):=zWO ⟨by decide,by decide⟩ (uw_w _)
 have hr:W32 (divR a b):=zWO ha (uw_w _);unfold aluD;exact zFa (uw_w _) (zFa (uw_w _) (zFa (zPE _ _) (zFa (zVF _ _) (zFa (ixor_w _ _) (zFa (uw_w _) (zFa (shr_w ha _) (zFa (uw_w _) (zFa (uw_w _) (zFa hq (zFa hr (zFa (zUS _) (zFa (zUS _) zA1))))))))))))
theorem OkC.setS {c:CpuD} (h:OkC c) {k v:Int} (hv:W32 v) (h0:k=0→v≤31):OkC (c.setS k v):=by
 refine ⟨h.x,h.pc,fun i=>?_,?_⟩
 ·simp only [CpuD.setS];split;exact hv;exact h.csr i
 simp only [CpuD.setS];split
 ·rename_i q;exact h0 (by simpa using q.symm)
 exact h.s
theorem OkC.write {c:CpuD} (h:OkC c) {k v:Int} (hv:W32 v):OkC (zBW c k v):=by
 unfold zBW;split
 ·exact h.setS (zPE _ _) (fun _=>by rw [show iand .u32 v 31=v % 32 from zAY v 5 32 (by omega) (by decide)];omega)
 split
 ·rename_i q;exact h.setS (zPE _ _) (fun z=>by omega)
 split
 ·exact h.setS (zKj _ _) (fun z=>by omega)
 split
 ·exact h.setS hv (fun z=>by omega)
 exact h
theorem OkC.execute {c:CpuD} (h:OkC c) (i:InstD):OkC (zAE c i).1:=by
 have hz:∀ b:Bool,W32 (if b=true then uw (c.pc+uw (4*uw i.imm)) else uw (c.pc+4)):=fun b=>zWO (uw_w _) (uw_w _)
 unfold zAE;exact zAs (P:=fun z:CpuD × EffD=>OkC z.1) (fun _=>(h.setR (uw_w _)).setP (uw_w _)) (fun _=>zAs (P:=fun z:CpuD × EffD=>OkC z.1) (fun _=>h.setP (hz _)) (fun _=>zAs (P:=fun z:CpuD × EffD=>OkC z.1) (fun _=>(h.setR (uw_w _)).setP (uw_w _)) (fun _=>zAs (P:=fun z:CpuD × EffD=>OkC z.1) (fun _=>(h.setR (uw_w _)).setP (uw_w _)) (fun _=>zAs (P:=fun z:CpuD × EffD=>OkC z.1) (fun _=>h.trap zA1) (fun _=>zAs (P:=fun z:CpuD × EffD=>OkC z.1) (fun _=>h.ret) (fun _=>zAs (P:=fun z:CpuD × EffD=>OkC z.1) (fun _=>(h.setR (h.csr _)).setP (uw_w _)) (fun _=>zAs (P:=fun z:CpuD × EffD=>OkC z.1) (fun _=>(h.write (h.x _)).setP (uw_w _)) (fun _=>zAs (P:=fun z:CpuD × EffD=>OkC z.1) (fun _=>h.setP (uw_w _)) (fun _=>zAs (P:=fun z:CpuD × EffD=>OkC z.1) (fun _=>h.setP (uw_w _)) (fun _=>zAs (P:=fun z:CpuD × EffD=>OkC z.1) (fun _=>h.setP (uw_w _)) (fun _=>zAs (P:=fun z:CpuD × EffD=>OkC z.1) (fun _=>h.setP (uw_w _)) (fun _=>zAs (P:=fun z:CpuD × EffD=>OkC z.1) (fun _=>h.setP (uw_w _)) (fun _=>(h.setR (alu_w (h.x _))).setP (uw_w _))))))))))))))
theorem OkE.execute {c:CpuD} (h:OkC c) (i:InstD) (hi:OkI i):OkE (zAE c i).2:=by
 have hz:OkE zEff:=⟨fun q=>by simp [zEff] at q,zA1⟩
 have h1:OkE ⟨1,i.imm,i.a,0⟩:=⟨fun _=>⟨hi.a0,hi.a1⟩,zA1⟩
 have h2:OkE ⟨2,i.imm,0,c.x i.a.toNat⟩:=⟨fun q=>by simp at q,h.x _⟩
 have h3:∀ k:Int,k≠1→OkE ⟨k,0,0,0⟩:=fun k hk=>⟨fun q=>absurd q hk,zA1⟩
 unfold zAE;exact zAs (P:=fun z:CpuD × EffD=>OkE z.2) (fun _=>hz) (fun _=>zAs (P:=fun z:CpuD × EffD=>OkE z.2) (fun _=>hz) (fun _=>zAs (P:=fun z:CpuD × EffD=>OkE z.2) (fun _=>hz) (fun _=>zAs (P:=fun z:CpuD × EffD=>OkE z.2) (fun _=>hz) (fun _=>zAs (P:=fun z:CpuD × EffD=>OkE z.2) (fun _=>hz) (fun _=>zAs (P:=fun z:CpuD × EffD=>OkE z.2) (fun _=>hz) (fun _=>zAs (P:=fun z:CpuD × EffD=>OkE z.2) (fun _=>hz) (fun _=>zAs (P:=fun z:CpuD × EffD=>OkE z.2) (fun _=>hz) (fun _=>zAs (P:=fun z:CpuD × EffD=>OkE z.2) (fun _=>h1) (fun _=>zAs (P:=fun z:CpuD × EffD=>OkE z.2) (fun _=>h2) (fun _=>zAs (P:=fun z:CpuD × EffD=>OkE z.2) (fun _=>h3 _ (by decide)) (fun _=>zAs (P:=fun z:CpuD × EffD=>OkE z.2) (fun _=>h3 _ (by decide)) (fun _=>zAs (P:=fun z:CpuD × EffD=>OkE z.2) (fun _=>h3 _ (by decide)) (fun _=>hz)))))))))))))
theorem zVH {l:List Int} (h:OkW l) (a s:Int):W32 (zBY l a s):=by
 unfold zBY;split
 ·have:=zEF (wAt l (a / 4)) (a % 4);exact ⟨by omega,by omega⟩
 exact zLO h _
theorem zV6 {v:Int} (h:0≤v∧v<256):W32 (zEX v):=by unfold zEX;split<;>(constructor<;>omega)
theorem load_c {c:CpuD} {l:List Int} {i:InstD} (h:OkC c) (hl:OkW l):OkC (zAc c l i).1:=by
 unfold zAc;have hw:=zBb (c:=c) (va:=uw (c.x i.b.toNat+uw i.imm)) (s:=zAa i.op) (acc:=2) hl;generalize zAF c l (uw (c.x i.b.toNat+uw i.imm)) (zAa i.op) 2=R at *
 obtain ⟨a,m,k⟩:=R;simp only;split
 ·exact h.trap (uw_w _)
 refine (h.setR ?_).setP (uw_w _);split
 ·rename_i q;exact zV6 (by rw [show zAa i.op=1 by rw [q];rfl];exact zEF _ _)
 exact zVH hw _ _
theorem zTw {c:CpuD} {l:List Int} {i:InstD} (hl:OkW l):OkW (zAc c l i).2∧(zAc c l i).2.length=l.length:=by
 unfold zAc;have hw:=zBb (c:=c) (va:=uw (c.x i.b.toNat+uw i.imm)) (s:=zAa i.op) (acc:=2) hl;have hn:=zA2 c l (uw (c.x i.b.toNat+uw i.imm)) (zAa i.op) 2;generalize zAF c l (uw (c.x i.b.toNat+uw i.imm)) (zAa i.op) 2=R at *
 obtain ⟨a,m,k⟩:=R;simp only;split<;>exact ⟨hw,hn⟩
theorem zWE {c:CpuD} {l:List Int} {i:InstD} (h:OkC c):OkC (zAZ c l i).1:=by
 unfold zAZ;generalize zAF c l (uw (c.x i.b.toNat+uw i.imm)) (zAa i.op) 3=R;obtain ⟨a,m,k⟩:=R;simp only;split
 ·exact h.trap (uw_w _)
 exact h.setP (uw_w _)
theorem zMl {l:List Int} (hl:OkW l) (a s:Int) {v:Int} (hv:W32 v):OkW (zBt l a s v):=by
 unfold zBt;refine zV5 hl ?_;split
 ·exact putB_w (zLO hl _) (by omega)
 exact hv
theorem zQh {c:CpuD} {l:List Int} {i:InstD} (h:OkC c) (hl:OkW l):OkW (zAZ c l i).2∧(zAZ c l i).2.length=l.length:=by
 unfold zAZ;have hw:=zBb (c:=c) (va:=uw (c.x i.b.toNat+uw i.imm)) (s:=zAa i.op) (acc:=3) hl;have hn:=zA2 c l (uw (c.x i.b.toNat+uw i.imm)) (zAa i.op) 3;generalize zAF c l (uw (c.x i.b.toNat+uw i.imm)) (zAa i.op) 3=R at *
 obtain ⟨a,m,k⟩:=R;simp only;split
 ·exact ⟨hw,hn⟩
 exact ⟨zMl hw _ _ (h.x _),by simp [zBt];exact hn⟩
theorem zWW {c:CpuD} {l:List Int} (h:OkC c) (hl:OkW l) {w:Int} (hw:W32 w):OkC (zBl c l w).1∧OkW (zBl c l w).2.1∧(zBl c l w).2.1.length=l.length∧OkE (zBl c l w).2.2:=by
 have hz:OkE zEff:=⟨fun q=>by simp [zEff] at q,zA1⟩
 unfold zBl;split
 ·exact ⟨h.trap hw,hl,rfl,hz⟩
 rename_i hv;split
 ·exact ⟨h.trap hw,hl,rfl,hz⟩
 split
 ·exact ⟨load_c h hl,(zTw hl).1,(zTw hl).2,hz⟩
 split
 ·exact ⟨zWE h,(zQh h hl).1,(zQh h hl).2,hz⟩
 exact ⟨h.execute _,hl,rfl,OkE.execute h _ (zBd (by simpa using hv))⟩
theorem zTp {c:CpuD} {l:List Int} (h:OkC c) (hl:OkW l):OkC (zAr c l).1∧OkW (zAr c l).2.1∧(zAr c l).2.1.length=l.length∧OkE (zAr c l).2.2:=by
 have hz:OkE zEff:=⟨fun q=>by simp [zEff] at q,zA1⟩
 unfold zAr;have hw:=zBb (c:=c) (va:=c.pc) (s:=4) (acc:=1) hl;have hn:=zA2 c l c.pc 4 1;generalize zAF c l c.pc 4 1=R at *
 obtain ⟨a,m,k⟩:=R;simp only;split
 ·exact ⟨h.trap h.pc,hw,hn,hz⟩
 obtain ⟨a1,a2,a3,a4⟩:=zWW h hw (zLO hw (a / 4));exact ⟨a1,a2,a3.trans hn,a4⟩
theorem zI8 {m:MchD} (h:OkM m):OkM (zAO m):=by
 have hc:=zGY h;unfold zAO at *
 split
 ·exact h.wait false
 split
 ·exact h.wait false
 rename_i q _ _ hl;rw [if_neg q,hl] at hc;exact ⟨hc,h.w,h.n,h.k,h.t,h.d,h.r,h.tg,h.gv,h.ct⟩
theorem zGC {m:MchD} (h:OkM m):OkM (zCC m)∧OkE (effD m):=by
 have hb:=zI8 h;obtain ⟨a1,a2,a3,a4⟩:=zTp hb.c h.w;exact ⟨⟨a1,a2,by show (zAr (zAO m).cpu m.mem).2.1.length≤1024;rw [a3];exact h.n,hb.k,hb.t,hb.d,hb.r,hb.tg,hb.gv,hb.ct⟩,a4⟩
theorem zNn {m:MchD} (h:OkM m) (p:Int) {k:Int} (hk:W32 k):OkM (zAS m p k).1∧W32 (zAS m p k).2:=by
 have hlen:(m.keys.length:Int)<4294967296:=by have:=h.k;omega
 have hkey:W32 (keyH m.keys):=by
  unfold keyH;split
  ·exact ⟨by decide,by decide⟩
  rename_i b _ _;have:=b.toNat_lt;exact ⟨by omega,by omega⟩
 unfold zAS;split
 ·unfold zDR;split
  ·exact ⟨⟨h.c,h.w,h.n,by simp only [List.length_tail];have:=h.k;omega,h.t,h.d,h.r,h.tg,h.gv,h.ct⟩,hkey⟩
  split
  ·exact ⟨h,⟨by omega,hlen⟩⟩
  exact ⟨h,zA1⟩
 split
 ·exact ⟨h,hk⟩
 split
 ·exact ⟨h,zUS _⟩
 split
 ·refine ⟨h,?_⟩;unfold zKd
  repeat' split
  ·exact h.d.b
  ·exact h.d.c
  ·exact uw_w _
  exact zA1
 split
 ·refine ⟨h,?_⟩;unfold zKv
  repeat' split
  ·exact h.r.a
  ·exact h.r.d
  ·show W32 (b2w m.nc.posted+b2w m.nc.received*2)
   cases m.nc.posted<;>cases m.nc.received<;>exact ⟨by decide,by decide⟩
  exact zA1
 split
 ·refine ⟨h,?_⟩;unfold zI3
  repeat' split
  ·exact h.tg
  ·have:=zDS h.gv;exact ⟨by omega,by omega⟩
  exact zA1
 exact ⟨h,zA1⟩
theorem zWT (s:Str) (i:Nat):W32 (zDP s i):=by
 unfold zDP;have:=(s.getD (4*i) 0).toNat_lt;have:=(s.getD (4*i+1) 0).toNat_lt;have:=(s.getD (4*i+2) 0).toNat_lt;have:=(s.getD (4*i+3) 0).toNat_lt;constructor<;>omega
theorem zT3 {l:List Int} (h:OkW l) (o:Nat) (s:Str):∀ n,OkW (putW l o s n)
 | 0=>h
 | n+1=>zV5 (zT3 h o s n) (zWT s n)
theorem zG0 {l:List Int} (h:OkW l) (f:Int) (s:Str):OkW (zBV l f s):=zT3 h _ s 32
theorem zEh (l:List Int) (f:Int) (s:Str):(zBV l f s).length=l.length:=zE6 _ _ _ _
theorem OkD.out {d:DskD} (h:OkD d) (l:List Int) (p:Int) {v:Int} (hv:W32 v) (t:Int):OkD (zAn d l p v t).1:=by
 obtain ⟨ha,hb,hc,he,hf⟩:=h;unfold zAn zAo
 repeat' split
 all_goals exact ⟨by first|exact ha|exact hv,by first|exact hb|exact hv,by first|exact hc|exact hv,by first|exact he|exact hb,by first|exact hf|exact hc⟩
theorem OkN.out {n:NicD} (h:OkN n) (l:List Int) (p:Int) {v:Int} (hv:W32 v) (t:Int):OkN (zAd n l p v t).1:=by
 obtain ⟨ha,hb,hc,hd⟩:=h;unfold zAd
 repeat' split
 all_goals first
  | exact ⟨ha,hb,hc,hd⟩
  | exact ⟨hv,hb,hc,hd⟩
  | exact ⟨ha,hv,hc,hd⟩
  | exact ⟨ha,hb,ha,hd⟩
  | exact ⟨ha,hb,hc,zA1⟩
  | (simp only [];split<;>first|exact ⟨ha,hb,hc,hd⟩|exact ⟨ha,hb,ha,hd⟩)
theorem zTg {g:Int} {l:List Int} (hg:W32 g) (hl:OkW l) (p v:Int):W32 (zAh g l p v).1∧OkW (zAh g l p v).2∧(zAh g l p v).2.length=l.length:=by
 have h1:=zG0 hl v zB3;have h2:=zEh l v zB3;unfold zAh;generalize zBV l v zB3=S at *
 have h0:W32 g∧OkW l∧l.length=l.length:=⟨hg,hl,rfl⟩;exact zAs (P:=fun z:Int × List Int=>W32 z.1∧OkW z.2∧z.2.length=l.length) (fun _=>h0) (fun _=>zAs (P:=fun z:Int × List Int=>W32 z.1∧OkW z.2∧z.2.length=l.length) (fun _=>zAs (P:=fun z:Int × List Int=>W32 z.1∧OkW z.2∧z.2.length=l.length) (fun _=>⟨zVF _ _,h1,h2⟩) (fun _=>h0)) (fun _=>zAs (P:=fun z:Int × List Int=>W32 z.1∧OkW z.2∧z.2.length=l.length) (fun _=>⟨zKj _ _,hl,rfl⟩) (fun _=>h0)))
theorem zLU {m:MchD} (h:OkM m) (p:Int) {v:Int} (hv:W32 v) (t:Int):OkM (zAJ m p v t).1:=by
 unfold zAJ;split
 ·exact h
 split
 ·exact ⟨h.c,h.w,h.n,h.k,hv,h.d,h.r,h.tg,h.gv,h.ct⟩
 split
 ·exact ⟨h.c,h.w,h.n,h.k,h.t,h.d.out _ _ hv _,h.r,h.tg,h.gv,h.ct⟩
 split
 ·exact ⟨h.c,h.w,h.n,h.k,h.t,h.d,h.r.out _ _ hv _,h.tg,h.gv,h.ct⟩
 split
 ·obtain ⟨a1,a2,a3⟩:=zTg h.gv h.w p v;exact ⟨h.c,a2,by show (zAh m.given m.mem p v).2.length≤1024;rw [a3];exact h.n,h.k,h.t,h.d,h.r,h.tg,a1,h.ct⟩
 exact h
theorem done_m {m:MchD} {e:EffD} (h:OkM m) (he:OkE e) {k:Int} (hk:W32 k) (t:Int):OkM (zBQ m e k t).1:=by
 unfold zBQ;split
 ·obtain ⟨a1,a2⟩:=zNn h e.port hk;exact ⟨a1.c.setR a2,a1.w,a1.n,a1.k,a1.t,a1.d,a1.r,a1.tg,a1.gv,a1.ct⟩
 split
 ·exact zLU h _ he.v _
 split
 ·exact h.wait true
 split
 ·exact ⟨h.c,h.w,h.n,h.k,h.t,h.d,h.r,h.tg,h.gv,h.ct⟩
 exact h
theorem zEG (m:MchD) (e:EffD) (k t:Int):(zBQ m e k t).1.count=m.count:=by
 have h1:(zAS m e.port k).1.count=m.count:=by unfold zAS;(repeat' split)<;>rfl
 have h2:(zAJ m e.port e.val t).1.count=m.count:=by unfold zAJ;(repeat' split)<;>rfl
 unfold zBQ
 repeat' split
 all_goals first|exact h1|exact h2|rfl
theorem zDQ (m:MchD):(zCC m).count=m.count:=by
 show (zAO m).count=m.count
 unfold zAO;split;rfl;split<;>rfl
theorem zNO {m:MchD} (h:OkM m) (hr:runsD m=true) {k:Int} (hk:W32 k):OkM (goD m k).1∧(goD m k).1.count=m.count+1:=by
 have hc:m.count<1152921504606846976:=by unfold runsD at hr;simp at hr;exact hr.2
 obtain ⟨a1,a2⟩:=zGC h;have hd:=done_m a1 a2 hk m.count;have hq:=zEG (zCC m) (effD m) k m.count;rw [zDQ] at hq;unfold goD;refine ⟨⟨hd.c,hd.w,hd.n,hd.k,hd.t,hd.d,hd.r,hd.tg,hd.gv,?_⟩,by show _+1=_;rw [hq]⟩
 show 0≤_+1∧_+1<_
 rw [hq];have:=h.ct;omega
theorem step_m {m:MchD} (h:OkM m) {k:Int} (hk:W32 k):OkM (stepD m k).1:=by
 unfold stepD;split
 ·rename_i q;exact (zNO h q hk).1
 exact h
theorem OkD.complete {d:DskD} (h:OkD d) (l:List Int) (e:EvD):OkD (zAM d l e).1:=by
 obtain ⟨ha,hb,hc,he,hf⟩:=h;unfold zAM doneD
 repeat' split
 all_goals first|exact ⟨ha,hb,hc,he,hf⟩|exact ⟨ha,hb,hc,zA1,zA1⟩
theorem zHe {d:DskD} {l:List Int} (hl:OkW l) (e:EvD):OkW (zAM d l e).2.1∧(zAM d l e).2.1.length=l.length:=by
 have h1:=zG0 hl d.opFrame e.data;have h2:=zEh l d.opFrame e.data;unfold zAM;generalize zBV l d.opFrame e.data=S at *
 have h0:OkW l∧l.length=l.length:=⟨hl,rfl⟩;exact zAs (P:=fun z:DskD × List Int × Bool=>OkW z.2.1∧z.2.1.length=l.length) (fun _=>h0) (fun _=>zAs (P:=fun z:DskD × List Int × Bool=>OkW z.2.1∧z.2.1.length=l.length) (fun _=>zAs (P:=fun z:DskD × List Int × Bool=>OkW z.2.1∧z.2.1.length=l.length) (fun _=>⟨h1,h2⟩) (fun _=>h0)) (fun _=>zAs (P:=fun z:DskD × List Int × Bool=>OkW z.2.1∧z.2.1.length=l.length) (fun _=>h0) (fun _=>h0)))
theorem zT5 {n:NicD} {l:List Int} (hn:OkN n) (hl:OkW l) (s:Str):OkN (zAe n l s).1∧OkW (zAe n l s).2.1∧(zAe n l s).2.1.length=l.length:=by
 have h1:=zG0 hl n.buffer (s++(zBS l n.buffer).drop s.length);have h2:=zEh l n.buffer (s++(zBS l n.buffer).drop s.length);unfold zAe;generalize zBV l n.buffer (s++(zBS l n.buffer).drop s.length)=S at *
 obtain ⟨ha,hb,hc,hd⟩:=hn;refine zAs (P:=fun z:NicD × List Int × Bool=>OkN z.1∧OkW z.2.1∧z.2.1.length=l.length) (fun q=>?_) (fun _=>⟨⟨ha,hb,hc,hd⟩,hl,rfl⟩)
 obtain ⟨q1,q2,q3,q4⟩:=q;exact ⟨⟨ha,hb,zA1,⟨by show (0:Int)≤(s.length:Int);omega,by show (s.length:Int)<4294967296;omega⟩⟩,h1,h2⟩
theorem zFN {m:MchD} (h:OkM m) {e:EvD} (he:W32 e.n):OkM (applyD m e).1∧(applyD m e).1.count=m.count:=by
 unfold applyD;split
 ·exact ⟨h,rfl⟩
 split
 ·split
  ·refine ⟨⟨h.c,h.w,h.n,h.k,?_,h.d,h.r,h.tg,h.gv,h.ct⟩,rfl⟩;unfold zDt;split<;>exact h.t
  exact ⟨h,rfl⟩
 split
 ·split
  ·refine ⟨⟨h.c,h.w,h.n,?_,h.t,h.d,h.r,h.tg,h.gv,h.ct⟩,rfl⟩;unfold zD6;split
   ·exact h.k
   simp;omega
  exact ⟨h,rfl⟩
 split
 ·obtain ⟨a1,a2⟩:=zHe (d:=m.dk) h.w e;exact ⟨⟨h.c,a1,by show (zAM m.dk m.mem e).2.1.length≤1024;rw [a2];exact h.n,h.k,h.t,h.d.complete _ _,h.r,h.tg,h.gv,h.ct⟩,rfl⟩
 split
 ·split
  ·obtain ⟨a1,a2,a3⟩:=zT5 h.r h.w e.data;exact ⟨⟨h.c,a2,by show (zAe m.nc m.mem e.data).2.1.length≤1024;rw [a3];exact h.n,h.k,h.t,h.d,a1,h.tg,h.gv,h.ct⟩,rfl⟩
  exact ⟨h,rfl⟩
 split
 ·split
  ·exact ⟨⟨h.c,h.w,h.n,h.k,h.t,h.d,h.r,he,h.gv,h.ct⟩,rfl⟩
  exact ⟨h,rfl⟩
 exact ⟨h,rfl⟩
structure OkV (e:EvD):Prop where
 n:W32 e.n
 d:e.data.length≤100000
structure OkR (r:RecD) (k:Nat):Prop where
 m:OkM r.m
 c:W32 r.clock
 l:r.log.length≤k
 q:r.queue.length≤1000
 v:∀ e∈r.queue,OkV e
 t:∀ e∈r.log,OkT e
theorem OkR.up {r:RecD} {k k':Nat} (h:OkR r k) (hk:k≤k'):OkR r k':=⟨h.m,h.c,Nat.le_trans h.l hk,h.q,h.v,h.t⟩
theorem zOk {l:List EntD} {e:EntD} (h:∀ x∈l,OkT x) (he:OkT e):∀ x∈l++[e],OkT x:=by
 intro x hx
 rcases List.mem_append.1 hx with q|q
 ·exact h x q
 rw [List.mem_singleton.1 q];exact he
theorem zHE {m:MchD} (h:OkM m):L64 m.count:=⟨h.ct.1,by have:=h.ct.2;omega⟩
theorem OkR.offer {r:RecD} {k:Nat} (h:OkR r k) {e:EvD} (he:OkV e):OkR (zAf r e) (k+1)∧(zAf r e).clock=r.clock∧(zAf r e).queue=r.queue∧(zAf r e).m.count=r.m.count:=by
 obtain ⟨a1,a2⟩:=zFN h.m he.n;unfold zAf;split
 ·exact ⟨⟨a1,h.c,by simp;exact h.l,h.q,h.v,zOk h.t ⟨zHE h.m,he.n⟩⟩,rfl,rfl,a2⟩
 exact ⟨h.up (by omega),rfl,rfl,rfl⟩
theorem timV:OkV ⟨2,0,[]⟩:=⟨zA1,by simp⟩
theorem OkR.tick {r:RecD} {k:Nat} (h:OkR r k):OkR (zBH r) (k+1)∧(zBH r).clock=r.clock∧(zBH r).queue=r.queue∧(zBH r).m.count=r.m.count:=by
 unfold zBH;split
 ·exact h.offer timV
 exact ⟨h.up (by omega),rfl,rfl,rfl⟩
theorem OkR.clk {r:RecD} {k:Nat} (h:OkR r k):OkR (clkR r) (k+1)∧(clkR r).clock=r.clock∧(clkR r).queue=r.queue∧(clkR r).m=r.m:=by
 unfold clkR;split
 ·exact ⟨⟨h.m,h.c,by simp;exact h.l,h.q,h.v,zOk h.t ⟨zHE h.m,h.c⟩⟩,rfl,rfl,rfl⟩
 exact ⟨h.up (by omega),rfl,rfl,rfl⟩
theorem OkR.go {r:RecD} {k:Nat} (h:OkR r k):OkR (goR r).1 (k+1):=by
 obtain ⟨a,-,-,-⟩:=h.clk;exact ⟨step_m h.m h.c,uw_w _,a.l,a.q,a.v,a.t⟩
theorem OkR.run:∀ (n:Nat) {r:RecD} {k:Nat} (o:List OutD),OkR r k→OkR (runR n r o).1 (k+2*n)
 | 0,r,k,o,h=>h
 | n+1,r,k,o,h=>by
  obtain ⟨h1,-⟩:=h.tick;unfold runR;split
  ·exact h1.up (by omega)
  exact (OkR.run n _ h1.go).up (by omega)
theorem OkR.offers:∀ (l:List EvD) {r:RecD} {k:Nat},OkR r k→(∀ e∈l,OkV e)→OkR (l.foldl zAf r) (k+l.length)∧(l.foldl zAf r).clock=r.clock
 | [],r,k,h,_=>⟨h,rfl⟩
 | e::l,r,k,h,hl=>by
  obtain ⟨h1,h2,-,-⟩:=h.offer (hl e (zWf ..));obtain ⟨h3,h4⟩:=OkR.offers l h1 (fun x hx=>hl x (zWc _ hx))
  exact ⟨h3.up (by simp;omega),h4.trans h2⟩
theorem zPV {a b:Int} (ha:W32 a) (hb:W32 b):W32 (max a b):=⟨by have:=ha.1;omega,by have:=ha.2;have:=hb.2;omega⟩
theorem OkR.queue {r:RecD} {k:Nat} (h:OkR r k) {clock:Int} (hc:W32 clock):OkR (zCD r clock) (k+r.queue.length):=by
 have h0:OkR {r with clock:=max r.clock clock} k:=⟨h.m,zPV h.c hc,h.l,h.q,h.v,h.t⟩
 obtain ⟨a,-⟩:=OkR.offers r.queue h0 h.v;exact ⟨a.m,a.c,a.l,by simp [zCD],by simp [zCD],a.t⟩
theorem zPP (n:Int):limS n≤4000:=by unfold limS;omega
theorem OkR.adv {r:RecD} {k:Nat} (h:OkR r k) (steps:Int) {clock:Int} (hc:W32 clock):OkR (advD r steps clock).1 (k+r.queue.length+2*limS steps):=by
 unfold advD;split
 ·exact OkR.run _ _ (h.queue hc)
 exact h.up (by omega)
theorem zDN (m:MchD) (k:Int):(stepD m k).2.length≤1:=by
 have hi:∀ (d:DskD) (l:List Int) (c t:Int),(zAo d l c t).2.length≤1:=fun d l c t=>by unfold zAo;(repeat' split)<;>simp
 have hd:∀ (d:DskD) (l:List Int) (p v t:Int),(zAn d l p v t).2.length≤1:=fun d l p v t=>by
  unfold zAn
  (repeat' split)<;>first|exact hi _ _ _ _|simp
 have hn:∀ (n:NicD) (l:List Int) (p v t:Int),(zAd n l p v t).2.length≤1:=fun n l p v t=>by
  unfold zAd
  (repeat' split)<;>first|simp|(simp only [];split<;>simp)
 have hw:∀ (m:MchD) (p v t:Int),(zAJ m p v t).2.length≤1:=fun m p v t=>by
  unfold zAJ
  (repeat' split)<;>first|exact hd _ _ _ _ _|exact hn _ _ _ _ _|simp
 unfold stepD;split
 ·show (zBQ _ _ _ _).2.length≤1
  unfold zBQ
  (repeat' split)<;>first|exact hw _ _ _ _|simp
 simp
theorem zMY:∀ (n:Nat) (r:RecD) (o:List OutD),(runR n r o).2.length≤o.length+n
 | 0,r,o=>by simp [runR]
 | n+1,r,o=>by
  unfold runR;split
  ·show o.length≤_;omega
  refine Nat.le_trans (zMY n _ _) ?_;have:=zDN (zBH r).m (zBH r).clock;simp [goR];omega
theorem zGB (r:RecD) (steps clock:Int):(advD r steps clock).2.length≤limS steps:=by
 unfold advD;split
 ·exact Nat.le_trans (zMY _ _ _) (by simp)
 simp
end Go.Proofs.YtoondlebmacanaaGreat
end
