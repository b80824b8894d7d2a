/- A part of the proof of ReplicaFollows. -/
import Derived.Test.YthjpcmecgjfilaaGreatB14
import Derived.Test.YthjpcmecgjfilaaGreatB20
import Derived.Test.YthjpcmecgjfilaaGreatB21
set_option linter.unusedSimpArgs false
set_option linter.unusedVariables false
set_option maxHeartbeats 16000000
set_option maxRecDepth 100000
section
namespace Go.Proofs.YthjpcmecgjfilaaGreat
open Go.Ab Go.RowKit Tryz
theorem zCd {C D E G:Prop} (c:C) (d:D) (e:E) (t:C->D->E->G:=by intro c d e;(refine au1 e ?_;(repeat intro K hK);apply wr);repeat' ((first|(refine zAC rfl (fun h=>?_) (fun h=>?_)<;>(first|(simp [e] at h;done)|(simp [e] at h)|skip)<;>(first|(exfalso;omega)|skip))|((first|refine .inl ⟨1,_,d.1,?_⟩|refine ⟨1,_,d.1,?_⟩);simp [aftC,aftE,noX,noXc,noX1,e];first|refine And.intro zAO ?_|skip)|((first|refine .inl ⟨1,_,d.2.1,?_⟩|refine ⟨1,_,d.2.1,?_⟩);simp [aftC,aftE,noX,noXc,noX1,e];first|refine And.intro zAO ?_|skip)|refine cc1 c.1 e ?_|refine cc1 c.2.1 e ?_|refine cc1 c.2.2.1 e ?_|refine cc1 c.2.2.2.1 e ?_|refine cc1 c.2.2.2.2.1 e ?_|refine cc1 c.2.2.2.2.2.1 e ?_|refine zAW 6 ?_|refine zAj fun K hK=>?_|exact rt1 e|fail)<;>(refine au1 e ?_;(repeat intro K hK);apply wr))):G:=t c d e
theorem zMN (m:MchD):0<=zFp m/\zFp m<=31:=by
 have hb:∀ b,0<=b2w b/\b2w b<=1:=fun b=>by cases b<;>simp [b2w]
 unfold zFp;have:=hb m.tim.fired;have:=hb (!decide (m.keys=[]));have:=hb (zBm m.dk);have:=hb m.nc.received;have:=hb (zA9 m.tgt m.given);omega
theorem enabled_ok (m:MchD) (hM:OkM m):zAD prog 177 [.st m.row] (uv (enD m)):=by
 refine sZ func177 ntmps177 ?_
 (refine af1 @enD.eq_1 ?_;intros;apply wr)
 repeat' ((first|(refine zAC rfl (fun h=>?_) (fun h=>?_)<;>(first|(simp [enD] at h;done)|(simp [enD] at h)|skip)<;>(first|(exfalso;omega)|skip))|refine cc1 (zIn m hM) @enD.eq_1 ?_|(refine zAG 8 [0,1,0,4,12,28,63,127] [(6,([[],[0],[],[2],[2,3],[2,3,4]],[(4,1),(5,1)])),(1,([],[])),(1,([],[]))] ?_)|exact rt1 @enD.eq_1|fail)<;>(refine af1 @enD.eq_1 ?_;intros;apply wr))
structure OkE (e:EffD):Prop where
 r:e.kind=1->0<=e.reg/\e.reg<=15
 v:W32 e.val
theorem OkM.wait {m:MchD} (h:OkM m) (b:Bool):OkM {m with waiting:=b}:=⟨h.c,h.w,h.n,h.k,h.t,h.d,h.r,h.tg,h.gv,h.ct⟩
theorem enD_w (m:MchD):W32 (enD m):=by unfold enD iand;rw [IntKind.wrap_u32];constructor<;>omega
theorem zLA (m:MchD) (hM:OkM m):zAD prog 129 [.st m.row] (.bool (zIh m)):=by
 refine sZ func129 ntmps129 ?_;exact wx1 (qX1 (enabled_ok m hM)) trivial @zIh.eq_1
theorem zQS (m:MchD) (hM:OkM m):zAD prog 178 [.st m.row] (.bool (runsD m)):=by
 refine sZ func178 ntmps178 ?_;exact wx1 (qX2 (zIC m hM.gv.1 (by have:=hM.gv.2;omega)) (zLA m hM)) trivial @runsD.eq_1
theorem iand8 {x:Int} (h:W32 x):iand .u32 x 8=x / 8 % 2*8:=zD7 x 3 h (by decide)
theorem iand16 {x:Int} (h:W32 x):iand .u32 x 16=x / 16 % 2*16:=zD7 x 4 h (by decide)
theorem zLt (m:MchD) (hM:OkM m):zAD prog 179 [.st m.row] (.st (zAK m).row):=by
 have c2:=zUz (hM.c.csr 0);have he:=enD_w m;by_cases q:m.cpu.csr 0 / 2 % 2=0
 ·have hE:zAK m={m with waiting:=false}:=by unfold zAK;rw [if_pos q]
  rw [hE];refine sZ func179 ntmps179 ?_;exact wx1 trivial trivial (kX2 @c2 @q)
 have i1:=zPM he;have i2:=zUz he;have i4:=iand4 he;have i8:=iand8 he;have i16:=iand16 he;have hen:zAD prog 177 [.st ({m with waiting:=false}:MchD).row] (uv (enD m)):=enabled_ok {m with waiting:=false} (hM.wait false)
 have z:∀ x:Int,¬ x % 2=1->x % 2=0:=fun x hx=>by omega
 by_cases h0:enD m % 2=1
 ·have hE:zAK m={m with waiting:=false,cpu:=zBE m.cpu (16+0) 0}:=by unfold zAK lowB;rw [if_neg (by omega)];simp [h0]
  rw [hE];refine sX func179 ntmps179 ?_;intros;apply wr;exact zCd (qX2 (hen) (zCu m.cpu (16+0) 0 hM.c)) trivial (kX10 @c2 @q @i1 @i2 @i4 @i8 @i16 @u32c @i64c @h0)
 have z0:=z _ h0;by_cases h1:enD m / 2 % 2=1
 ·have hE:zAK m={m with waiting:=false,cpu:=zBE m.cpu (16+1) 0}:=by unfold zAK lowB;rw [if_neg (by omega)];simp [z0,h1]
  rw [hE];refine sX func179 ntmps179 ?_;intros;apply wr;exact zCd (qX2 (hen) (zCu m.cpu (16+1) 0 hM.c)) trivial (kX11 @c2 @q @i1 @i2 @i4 @i8 @i16 @u32c @i64c @z0 @h1)
 have z1:=z _ h1;by_cases h2:enD m / 4 % 2=1
 ·have hE:zAK m={m with waiting:=false,cpu:=zBE m.cpu (16+2) 0}:=by unfold zAK lowB;rw [if_neg (by omega)];simp [z0,z1,h2]
  rw [hE];refine sX func179 ntmps179 ?_;intros;apply wr;exact zCd (qX2 (hen) (zCu m.cpu (16+2) 0 hM.c)) trivial (kX12 @c2 @q @i1 @i2 @i4 @i8 @i16 @u32c @i64c @z0 @z1 @h2)
 have z2:=z _ h2;by_cases h3:enD m / 8 % 2=1
 ·have hE:zAK m={m with waiting:=false,cpu:=zBE m.cpu (16+3) 0}:=by unfold zAK lowB;rw [if_neg (by omega)];simp [z0,z1,z2,h3]
  rw [hE];refine sX func179 ntmps179 ?_;intros;apply wr;exact zCd (qX2 (hen) (zCu m.cpu (16+3) 0 hM.c)) trivial (kX13 @c2 @q @i1 @i2 @i4 @i8 @i16 @u32c @i64c @z0 @z1 @z2 @h3)
 have z3:=z _ h3;by_cases h4:enD m / 16 % 2=1
 ·have hE:zAK m={m with waiting:=false,cpu:=zBE m.cpu (16+4) 0}:=by unfold zAK lowB;rw [if_neg (by omega)];simp [z0,z1,z2,z3,h4]
  rw [hE];refine sX func179 ntmps179 ?_;intros;apply wr;exact zCd (qX2 (hen) (zCu m.cpu (16+4) 0 hM.c)) trivial (kX14 @c2 @q @i1 @i2 @i4 @i8 @i16 @u32c @i64c @z0 @z1 @z2 @z3 @h4)
 have z4:=z _ h4;have hE:zAK m={m with waiting:=false}:=by unfold zAK lowB;rw [if_neg (by omega)];simp [z0,z1,z2,z3,z4]
 rw [hE];refine sX func179 ntmps179 ?_;intros;apply wr;exact zCd (qX1 (hen)) trivial (kX14 @c2 @q @i1 @i2 @i4 @i8 @i16 @u32c @i64c @z0 @z1 @z2 @z3 @z4)
theorem OkC.trap {c:CpuD} (h:OkC c) {k b:Int} (hb:W32 b):OkC (zBE c k b):=by
 have ht:=zQm (c.csr 0);refine ⟨h.x,h.csr 1,fun i=>?_,by simpa [zBE] using ht.2⟩
 simp only [zBE];split
 ·exact ⟨ht.1,by omega⟩
 split
 ·exact h.pc
 split
 ·exact uw_w _
 split
 ·exact hb
 exact h.csr i
theorem OkC.ret {c:CpuD} (h:OkC c):OkC (retD c):=by
 have ht:=zTk (c.csr 0);refine ⟨h.x,h.csr 2,fun i=>?_,by simpa [retD] using ht.2⟩
 simp only [retD];split
 ·exact ⟨ht.1,by omega⟩
 exact h.csr i
theorem zKu (m:MchD):(zAK m).mem=m.mem:=by unfold zAK;split;rfl;split<;>rfl
theorem zFK {m:MchD} (hM:OkM m):OkC (zAK m).cpu:=by
 unfold zAK;split
 ·exact hM.c
 split
 ·exact hM.c
 exact hM.c.trap ⟨by decide,by decide⟩
theorem zMn (m:MchD) (hM:OkM m):zAD prog 130 [.st m.row] (.bool (readsD m)):=by
 have hx:=zO1 (zAK m).cpu m.mem (zFK hM) hM.w (by have:=hM.n;omega)
 have hb:=zLt m hM;have hm:=zKu m;have hr:=zQS m hM;cases hR:runsD m with
 | false =>
  have hE:readsD m=false:=by unfold readsD;rw [hR];rfl
  rw [hR] at hr;rw [hE];refine sZ func130 ntmps130 ?_;exact wx (qX1 (hr)) trivial
 | true =>
  have hE:readsD m=(decide ((effD m).kind=1)&&decide ((effD m).port=2)):=by unfold readsD;rw [hR];rfl
  rw [hR] at hr;rw [hE];have hF:effD m=(zAl (zAK m).cpu m.mem).2.2:=rfl;rw [hF];generalize zAK m=b at *
  generalize zAl b.cpu m.mem=Z at *
  refine sZ func130 ntmps130 ?_;exact wx1 (qX3 (hr) (hb) (hx)) trivial @hm
theorem zLa (m:MchD) (p k:Int) (hM:OkM m):zAD prog 181 [.st m.row,iv p,uv k] (.tup [.st (zAd m p k).1.row,uv (zAd m p k).2]):=by
 refine sZ func181 ntmps181 ?_;exact wx1 (qX5 (zRV m.keys p hM.k) (zS0 m.tim) (zRZ m.dk p) (zR6 m.nc p) (zRJ m.tgt m.given p hM.gv)) trivial @zAd.eq_1
theorem zLr (m:MchD) (e:EvD) (hM:OkM m) (hn:W32 e.n) (hd:e.data.length<=100000):zAD prog 127 [.st m.row,.st e.row] (.tup [.st (applyD m e).1.row,.bool (applyD m e).2]):=by
 have hcl:=zCD (ints .u32 m.mem) false 1 (.inl rfl) (by rw [zAM];have:=hM.n;omega)
 have hmy:=zIC m hM.gv.1 (by have:=hM.gv.2;omega)
 have hw8:∀ n:Int,0<=n->n<=255->IntKind.u8.wrap n=n:=fun n h0 h1=>u8_in h0 (by omega)
 have hdc:=zK2 m.dk m.mem e hM.d.f hn (by have:=hM.n;omega)
 have hnr:=zNs m.nc m.mem e.data hM.r.c hd (by have:=hM.n;omega)
 cases hmay:mayD m with
 | false =>
  have hE:applyD m e=(m,false):=by unfold applyD;rw [if_pos (.inl hmay)]
  rw [hE];refine sZ func127 ntmps127 ?_;exact wx1 (qX2 (hcl) (hmy)) trivial @hmay
 | true =>
  cases hH:m.halted with
  | true =>
   have hE:applyD m e=(m,false):=by unfold applyD;rw [if_pos (.inr hH)]
   rw [hE];refine sY func127 ntmps127 @hmay ?_;intros;apply wr;refine cX (hcl) ?_;intros;apply wr;refine cc1 (hmy) @hmay ?_;refine au ?_;intros;apply wr;refine gT10 @hH rfl ?_;intros;apply wr;exact wx trivial trivial
  | false =>
   have hn0:¬ (mayD m=false\/m.halted=true):=by simp [hmay,hH]
   by_cases k2:e.kind=2
   ·by_cases q:e.n=0/\e.data=[]
    ·obtain ⟨q1,q2⟩:=q;have hE:applyD m e=({m with tim:=(zDe m.tim).1},(zDe m.tim).2):=by unfold applyD;rw [if_neg hn0,if_pos k2,if_pos ⟨q1,q2⟩]
     have htp:=zUr m.tim;rw [hE];generalize zDe m.tim=R at *
     refine sY func127 ntmps127 @hmay ?_;intros;apply wr;refine cX (hcl) ?_;intros;apply wr;refine cc1 (hmy) @hmay ?_;refine au ?_;intros;apply wr;refine gF10 @hH rfl ?_;intros;apply wr;exact wx1 (qX1 (htp)) trivial (kX3 @k2 @q1 @q2)
    have hE:applyD m e=(m,false):=by unfold applyD;rw [if_neg hn0,if_pos k2,if_neg q]
    rw [hE];by_cases q1:e.n=0
    ·have q2:¬ e.data=[]:=fun z=>q ⟨q1,z⟩
     refine sY func127 ntmps127 @hmay ?_;intros;apply wr;refine cX (hcl) ?_;intros;apply wr;refine cc1 (hmy) @hmay ?_;refine au ?_;intros;apply wr;refine gF10 @hH rfl ?_;intros;apply wr;exact wx1 trivial trivial (kX3 @k2 @q1 @q2)
    refine sY func127 ntmps127 @hmay ?_;intros;apply wr;refine cX (hcl) ?_;intros;apply wr;refine cc1 (hmy) @hmay ?_;refine au ?_;intros;apply wr;refine gF10 @hH rfl ?_;intros;apply wr;exact wx1 trivial trivial (kX2 @k2 @q1)
   by_cases k3:e.kind=3
   ·by_cases q:e.n<=255/\e.data=[]
    ·obtain ⟨q1,q2⟩:=q;have w8:=hw8 e.n hn.1 q1;have htp:=zV4 m.keys e.n hn.1 q1;have hE:applyD m e=({m with keys:=(zDv m.keys (UInt8.ofNat e.n.toNat)).1},(zDv m.keys (UInt8.ofNat e.n.toNat)).2):=by unfold applyD;rw [if_neg hn0,if_neg k2,if_pos k3,if_pos ⟨q1,q2⟩]
     rw [hE];generalize zDv m.keys (UInt8.ofNat e.n.toNat)=R at *
     refine sY func127 ntmps127 @hmay ?_;intros;apply wr;refine cX (hcl) ?_;intros;apply wr;refine cc1 (hmy) @hmay ?_;refine au ?_;intros;apply wr;refine gF10 @hH rfl ?_;intros;apply wr;exact wx1 (qX1 (htp)) trivial (kX4 @k3 @q1 @q2 @w8)
    have hE:applyD m e=(m,false):=by unfold applyD;rw [if_neg hn0,if_neg k2,if_pos k3,if_neg q]
    rw [hE];by_cases q1:e.n<=255
    ·have q2:¬ e.data=[]:=fun z=>q ⟨q1,z⟩
     refine sY func127 ntmps127 @hmay ?_;intros;apply wr;refine cX (hcl) ?_;intros;apply wr;refine cc1 (hmy) @hmay ?_;refine au ?_;intros;apply wr;refine gF10 @hH rfl ?_;intros;apply wr;exact wx1 trivial trivial (kX3 @k3 @q1 @q2)
    refine sY func127 ntmps127 @hmay ?_;intros;apply wr;refine cX (hcl) ?_;intros;apply wr;refine cc1 (hmy) @hmay ?_;refine au ?_;intros;apply wr;refine gF10 @hH rfl ?_;intros;apply wr;exact wx1 trivial trivial (kX2 @k3 @q1)
   by_cases k4:e.kind=4
   ·have hE:applyD m e=({m with dk:=(zAJ m.dk m.mem e).1,mem:=(zAJ m.dk m.mem e).2.1},(zAJ m.dk m.mem e).2.2):=by unfold applyD;rw [if_neg hn0,if_neg k2,if_neg k3,if_pos k4]
    rw [hE];generalize zAJ m.dk m.mem e=R at *
    refine sY func127 ntmps127 @hmay ?_;intros;apply wr;refine cX (hcl) ?_;intros;apply wr;refine cc1 (hmy) @hmay ?_;refine au ?_;intros;apply wr;refine gF10 @hH rfl ?_;intros;apply wr;exact wx1 (qX1 (hdc)) trivial (kX2 @k2 @k3)
   by_cases k5:e.kind=5
   ·by_cases q1:e.n=0
    ·have hE:applyD m e=({m with nc:=(zAY m.nc m.mem e.data).1,mem:=(zAY m.nc m.mem e.data).2.1},(zAY m.nc m.mem e.data).2.2):=by unfold applyD;rw [if_neg hn0,if_neg k2,if_neg k3,if_neg k4,if_pos k5,if_pos q1]
     rw [hE];generalize zAY m.nc m.mem e.data=R at *
     refine sY func127 ntmps127 @hmay ?_;intros;apply wr;refine cX (hcl) ?_;intros;apply wr;refine cc1 (hmy) @hmay ?_;refine au ?_;intros;apply wr;refine gF10 @hH rfl ?_;intros;apply wr;exact wx1 (qX1 (hnr)) trivial (kX2 @k5 @q1)
    have hE:applyD m e=(m,false):=by unfold applyD;rw [if_neg hn0,if_neg k2,if_neg k3,if_neg k4,if_pos k5,if_neg q1]
    rw [hE];refine sY func127 ntmps127 @hmay ?_;intros;apply wr;refine cX (hcl) ?_;intros;apply wr;refine cc1 (hmy) @hmay ?_;refine au ?_;intros;apply wr;refine gF10 @hH rfl ?_;intros;apply wr;exact wx1 trivial trivial (kX2 @k5 @q1)
   by_cases k6:e.kind=6
   ·by_cases q2:e.data=[]
    ·have hE:applyD m e=({m with tgt:=e.n},true):=by unfold applyD;rw [if_neg hn0,if_neg k2,if_neg k3,if_neg k4,if_neg k5,if_pos k6,if_pos q2]
     rw [hE];refine sY func127 ntmps127 @hmay ?_;intros;apply wr;refine cX (hcl) ?_;intros;apply wr;refine cc1 (hmy) @hmay ?_;refine au ?_;intros;apply wr;refine gF10 @hH rfl ?_;intros;apply wr;exact wx1 trivial trivial (kX2 @k6 @q2)
    have hE:applyD m e=(m,false):=by unfold applyD;rw [if_neg hn0,if_neg k2,if_neg k3,if_neg k4,if_neg k5,if_pos k6,if_neg q2]
    rw [hE];refine sY func127 ntmps127 @hmay ?_;intros;apply wr;refine cX (hcl) ?_;intros;apply wr;refine cc1 (hmy) @hmay ?_;refine au ?_;intros;apply wr;refine gF10 @hH rfl ?_;intros;apply wr;exact wx1 trivial trivial (kX2 @k6 @q2)
   have hE:applyD m e=(m,false):=by unfold applyD;rw [if_neg hn0,if_neg k2,if_neg k3,if_neg k4,if_neg k5,if_neg k6]
   rw [hE];refine sY func127 ntmps127 @hmay ?_;intros;apply wr;refine cX (hcl) ?_;intros;apply wr;refine cc1 (hmy) @hmay ?_;refine au ?_;intros;apply wr;refine gF10 @hH rfl ?_;intros;apply wr;exact wx1 trivial trivial (kX5 @k2 @k3 @k4 @k5 @k6)
theorem zPN (a b:Int):W32 (iand .u32 a b):=by unfold iand;rw [IntKind.wrap_u32];constructor<;>omega
theorem zU4 (a b:Int):W32 (ior .u32 a b):=by unfold ior;rw [IntKind.wrap_u32];constructor<;>omega
theorem ixor_w (a b:Int):W32 (ixor .u32 a b):=by unfold ixor;rw [IntKind.wrap_u32];constructor<;>omega
theorem zK9 (a b:Int):W32 (zCn .u32 a b):=by unfold zCn;rw [IntKind.wrap_u32];constructor<;>omega
theorem zUF (b:Bool):W32 (b2w b):=by cases b<;>(constructor<;>decide)
theorem zAp:W32 0:=⟨by decide,by decide⟩
theorem shr_w {a:Int} (h:W32 a) (n:Nat):W32 (a / 2 ^ n):=by
 have p:(0:Int)<2 ^ n:=Int.pow_pos (by decide)
 refine ⟨Int.ediv_nonneg h.1 (Int.le_of_lt p),Int.lt_of_le_of_lt (Int.ediv_le_self _ h.1) h.2⟩
theorem zA5 {α:Type} {P:α->Prop} {c:Prop} [Decidable c] {a b:α} (ha:c->P a) (hb:¬ c->P b):P (if c then a else b):=by
 by_cases h:c
 ·rw [if_pos h];exact ha h
 rw [if_neg h];exact hb h
theorem zV8 {c:Prop} [Decidable c] {a b:Int} (ha:W32 a) (hb:W32 b):W32 (if c then a else b):=zA5 (P:=W32) (fun _=>ha) (fun _=>hb)
theorem zFX {c:Prop} [Decidable c] {x:Int} {o:Option Int} (hx:W32 x) (ho:W32 (o.getD 0)):W32 ((if c then some x else o).getD 0):=zA5 (P:=fun z:Option Int=>W32 (z.getD 0)) (fun _=>hx) (fun _=>ho)
theorem alu_w {op a b:Int} (ha:W32 a):W32 ((aluD op a b).getD 0):=by
 have hq:W32 (divQ a b):=zV8 ⟨by decide,by decide⟩ (uw_w _)
 have hr:W32 (divR a b):=zV8 ha (uw_w _);unfold aluD;exact zFX (uw_w _) (zFX (uw_w _) (zFX (zPN _ _) (zFX (zU4 _ _) (zFX (ixor_w _ _) (zFX (uw_w _) (zFX (shr_w ha _) (zFX (uw_w _) (zFX (uw_w _) (zFX hq (zFX hr (zFX (zUF _) (zFX (zUF _) zAp))))))))))))
theorem OkC.setS {c:CpuD} (h:OkC c) {k v:Int} (hv:W32 v) (h0:k=0->v<=31):OkC (c.setS k v):=by
 refine ⟨h.x,h.pc,fun i=>?_,?_⟩
 ·simp only [CpuD.setS];split;exact hv;exact h.csr i
 simp only [CpuD.setS];split
 ·rename_i q;exact h0 (by simpa using q.symm)
 exact h.s
theorem OkC.write {c:CpuD} (h:OkC c) {k v:Int} (hv:W32 v):OkC (zBG c k v):=by
 unfold zBG;split
 ·exact h.setS (zPN _ _) (fun _=>by rw [show iand .u32 v 31=v % 32 from zBJ v 5 32 (by omega) (by decide)];omega)
 split
 ·rename_i q;exact h.setS (zPN _ _) (fun z=>by omega)
 split
 ·exact h.setS (zK9 _ _) (fun z=>by omega)
 split
 ·exact h.setS hv (fun z=>by omega)
 exact h
theorem OkC.execute {c:CpuD} (h:OkC c) (i:InstD):OkC (zAF c i).1:=by
 have hz:∀ b:Bool,W32 (if b=true then uw (c.pc+uw (4*uw i.imm)) else uw (c.pc+4)):=fun b=>zV8 (uw_w _) (uw_w _)
 unfold zAF;exact zA5 (P:=fun z:CpuD × EffD=>OkC z.1) (fun _=>(h.setR (uw_w _)).setP (uw_w _)) (fun _=>zA5 (P:=fun z:CpuD × EffD=>OkC z.1) (fun _=>h.setP (hz _)) (fun _=>zA5 (P:=fun z:CpuD × EffD=>OkC z.1) (fun _=>(h.setR (uw_w _)).setP (uw_w _)) (fun _=>zA5 (P:=fun z:CpuD × EffD=>OkC z.1) (fun _=>(h.setR (uw_w _)).setP (uw_w _)) (fun _=>zA5 (P:=fun z:CpuD × EffD=>OkC z.1) (fun _=>h.trap zAp) (fun _=>zA5 (P:=fun z:CpuD × EffD=>OkC z.1) (fun _=>h.ret) (fun _=>zA5 (P:=fun z:CpuD × EffD=>OkC z.1) (fun _=>(h.setR (h.csr _)).setP (uw_w _)) (fun _=>zA5 (P:=fun z:CpuD × EffD=>OkC z.1) (fun _=>(h.write (h.x _)).setP (uw_w _)) (fun _=>zA5 (P:=fun z:CpuD × EffD=>OkC z.1) (fun _=>h.setP (uw_w _)) (fun _=>zA5 (P:=fun z:CpuD × EffD=>OkC z.1) (fun _=>h.setP (uw_w _)) (fun _=>zA5 (P:=fun z:CpuD × EffD=>OkC z.1) (fun _=>h.setP (uw_w _)) (fun _=>zA5 (P:=fun z:CpuD × EffD=>OkC z.1) (fun _=>h.setP (uw_w _)) (fun _=>zA5 (P:=fun z:CpuD × EffD=>OkC z.1) (fun _=>h.setP (uw_w _)) (fun _=>(h.setR (alu_w (h.x _))).setP (uw_w _))))))))))))))
theorem OkE.execute {c:CpuD} (h:OkC c) (i:InstD) (hi:OkI i):OkE (zAF c i).2:=by
 have hz:OkE zEff:=⟨fun q=>by simp [zEff] at q,zAp⟩
 have h1:OkE ⟨1,i.imm,i.a,0⟩:=⟨fun _=>⟨hi.a0,hi.a1⟩,zAp⟩
 have h2:OkE ⟨2,i.imm,0,c.x i.a.toNat⟩:=⟨fun q=>by simp at q,h.x _⟩
 have h3:∀ k:Int,k≠1->OkE ⟨k,0,0,0⟩:=fun k hk=>⟨fun q=>absurd q hk,zAp⟩
 unfold zAF;exact zA5 (P:=fun z:CpuD × EffD=>OkE z.2) (fun _=>hz) (fun _=>zA5 (P:=fun z:CpuD × EffD=>OkE z.2) (fun _=>hz) (fun _=>zA5 (P:=fun z:CpuD × EffD=>OkE z.2) (fun _=>hz) (fun _=>zA5 (P:=fun z:CpuD × EffD=>OkE z.2) (fun _=>hz) (fun _=>zA5 (P:=fun z:CpuD × EffD=>OkE z.2) (fun _=>hz) (fun _=>zA5 (P:=fun z:CpuD × EffD=>OkE z.2) (fun _=>hz) (fun _=>zA5 (P:=fun z:CpuD × EffD=>OkE z.2) (fun _=>hz) (fun _=>zA5 (P:=fun z:CpuD × EffD=>OkE z.2) (fun _=>hz) (fun _=>zA5 (P:=fun z:CpuD × EffD=>OkE z.2) (fun _=>h1) (fun _=>zA5 (P:=fun z:CpuD × EffD=>OkE z.2) (fun _=>h2) (fun _=>zA5 (P:=fun z:CpuD × EffD=>OkE z.2) (fun _=>h3 _ (by decide)) (fun _=>zA5 (P:=fun z:CpuD × EffD=>OkE z.2) (fun _=>h3 _ (by decide)) (fun _=>zA5 (P:=fun z:CpuD × EffD=>OkE z.2) (fun _=>h3 _ (by decide)) (fun _=>hz)))))))))))))
theorem zU6 {l:List Int} (h:OkW l) (a s:Int):W32 (zBs l a s):=by
 unfold zBs;split
 ·have:=zF7 (wAt l (a / 4)) (a % 4);exact ⟨by omega,by omega⟩
 exact zLi h _
theorem zVo {v:Int} (h:0<=v/\v<256):W32 (zJD v):=by unfold zJD;split<;>(constructor<;>omega)
theorem load_c {c:CpuD} {l:List Int} {i:InstD} (h:OkC c) (hl:OkW l):OkC (zA6 c l i).1:=by
 unfold zA6;have hw:=zCG (c:=c) (va:=uw (c.x i.b.toNat+uw i.imm)) (s:=zAX i.op) (acc:=2) hl;generalize zAE c l (uw (c.x i.b.toNat+uw i.imm)) (zAX i.op) 2=R at *
 obtain ⟨a,m,k⟩:=R;simp only;split
 ·exact h.trap (uw_w _)
 refine (h.setR ?_).setP (uw_w _);split
 ·rename_i q;exact zVo (by rw [show zAX i.op=1 by rw [q];rfl];exact zF7 _ _)
 exact zU6 hw _ _
theorem zTZ {c:CpuD} {l:List Int} {i:InstD} (hl:OkW l):OkW (zA6 c l i).2/\(zA6 c l i).2.length=l.length:=by
 unfold zA6;have hw:=zCG (c:=c) (va:=uw (c.x i.b.toNat+uw i.imm)) (s:=zAX i.op) (acc:=2) hl;have hn:=zBN c l (uw (c.x i.b.toNat+uw i.imm)) (zAX i.op) 2;generalize zAE c l (uw (c.x i.b.toNat+uw i.imm)) (zAX i.op) 2=R at *
 obtain ⟨a,m,k⟩:=R;simp only;split<;>exact ⟨hw,hn⟩
theorem zVw {c:CpuD} {l:List Int} {i:InstD} (h:OkC c):OkC (zAP c l i).1:=by
 unfold zAP;generalize zAE c l (uw (c.x i.b.toNat+uw i.imm)) (zAX i.op) 3=R;obtain ⟨a,m,k⟩:=R;simp only;split
 ·exact h.trap (uw_w _)
 exact h.setP (uw_w _)
theorem zM2 {l:List Int} (hl:OkW l) (a s:Int) {v:Int} (hv:W32 v):OkW (zBi l a s v):=by
 unfold zBi;refine zVn hl ?_;split
 ·exact putB_w (zLi hl _) (by omega)
 exact hv
theorem zQd {c:CpuD} {l:List Int} {i:InstD} (h:OkC c) (hl:OkW l):OkW (zAP c l i).2/\(zAP c l i).2.length=l.length:=by
 unfold zAP;have hw:=zCG (c:=c) (va:=uw (c.x i.b.toNat+uw i.imm)) (s:=zAX i.op) (acc:=3) hl;have hn:=zBN c l (uw (c.x i.b.toNat+uw i.imm)) (zAX i.op) 3;generalize zAE c l (uw (c.x i.b.toNat+uw i.imm)) (zAX i.op) 3=R at *
 obtain ⟨a,m,k⟩:=R;simp only;split
 ·exact ⟨hw,hn⟩
 exact ⟨zM2 hw _ _ (h.x _),by simp [zBi];exact hn⟩
theorem zWE {c:CpuD} {l:List Int} (h:OkC c) (hl:OkW l) {w:Int} (hw:W32 w):OkC (zBk c l w).1/\OkW (zBk c l w).2.1/\(zBk c l w).2.1.length=l.length/\OkE (zBk c l w).2.2:=by
 have hz:OkE zEff:=⟨fun q=>by simp [zEff] at q,zAp⟩
 unfold zBk;split
 ·exact ⟨h.trap hw,hl,rfl,hz⟩
 rename_i hv;split
 ·exact ⟨h.trap hw,hl,rfl,hz⟩
 split
 ·exact ⟨load_c h hl,(zTZ hl).1,(zTZ hl).2,hz⟩
 split
 ·exact ⟨zVw h,(zQd h hl).1,(zQd h hl).2,hz⟩
 exact ⟨h.execute _,hl,rfl,OkE.execute h _ (zBD (by simpa using hv))⟩
theorem zTQ {c:CpuD} {l:List Int} (h:OkC c) (hl:OkW l):OkC (zAl c l).1/\OkW (zAl c l).2.1/\(zAl c l).2.1.length=l.length/\OkE (zAl c l).2.2:=by
 have hz:OkE zEff:=⟨fun q=>by simp [zEff] at q,zAp⟩
 unfold zAl;have hw:=zCG (c:=c) (va:=c.pc) (s:=4) (acc:=1) hl;have hn:=zBN c l c.pc 4 1;generalize zAE c l c.pc 4 1=R at *
 obtain ⟨a,m,k⟩:=R;simp only;split
 ·exact ⟨h.trap h.pc,hw,hn,hz⟩
 obtain ⟨a1,a2,a3,a4⟩:=zWE h hw (zLi hw (a / 4));exact ⟨a1,a2,a3.trans hn,a4⟩
theorem zJY {m:MchD} (h:OkM m):OkM (zAK m):=by
 have hc:=zFK h;unfold zAK at *
 split
 ·exact h.wait false
 split
 ·exact h.wait false
 rename_i q _ _ hl;rw [if_neg q,hl] at hc;exact ⟨hc,h.w,h.n,h.k,h.t,h.d,h.r,h.tg,h.gv,h.ct⟩
theorem zF6 {m:MchD} (h:OkM m):OkM (zBg m)/\OkE (effD m):=by
 have hb:=zJY h;obtain ⟨a1,a2,a3,a4⟩:=zTQ hb.c h.w;exact ⟨⟨a1,a2,by show (zAl (zAK m).cpu m.mem).2.1.length<=1024;rw [a3];exact h.n,hb.k,hb.t,hb.d,hb.r,hb.tg,hb.gv,hb.ct⟩,a4⟩
theorem zN1 {m:MchD} (h:OkM m) (p:Int) {k:Int} (hk:W32 k):OkM (zAd m p k).1/\W32 (zAd m p k).2:=by
 have hlen:(m.keys.length:Int)<4294967296:=by have:=h.k;omega
 have hkey:W32 (keyH m.keys):=by
  unfold keyH;split
  ·exact ⟨by decide,by decide⟩
  rename_i b _ _;have:=b.toNat_lt;exact ⟨by omega,by omega⟩
 unfold zAd;split
 ·unfold zHZ;split
  ·exact ⟨⟨h.c,h.w,h.n,by simp only [List.length_tail];have:=h.k;omega,h.t,h.d,h.r,h.tg,h.gv,h.ct⟩,hkey⟩
  split
  ·exact ⟨h,⟨by omega,hlen⟩⟩
  exact ⟨h,zAp⟩
 split
 ·exact ⟨h,hk⟩
 split
 ·exact ⟨h,zUF _⟩
 split
 ·refine ⟨h,?_⟩;unfold zRY
  repeat' split
  ·exact h.d.b
  ·exact h.d.c
  ·exact uw_w _
  exact zAp
 split
 ·refine ⟨h,?_⟩;unfold zR5
  repeat' split
  ·exact h.r.a
  ·exact h.r.d
  ·show W32 (b2w m.nc.posted+b2w m.nc.received*2)
   cases m.nc.posted<;>cases m.nc.received<;>exact ⟨by decide,by decide⟩
  exact zAp
 split
 ·refine ⟨h,?_⟩;unfold zRI
  repeat' split
  ·exact h.tg
  ·have:=zD2 h.gv;exact ⟨by omega,by omega⟩
  exact zAp
 exact ⟨h,zAp⟩
theorem zWD (s:Str) (i:Nat):W32 (zDZ s i):=by
 unfold zDZ;have:=(s.getD (4*i) 0).toNat_lt;have:=(s.getD (4*i+1) 0).toNat_lt;have:=(s.getD (4*i+2) 0).toNat_lt;have:=(s.getD (4*i+3) 0).toNat_lt;constructor<;>omega
theorem zTi {l:List Int} (h:OkW l) (o:Nat) (s:Str):∀ n,OkW (putW l o s n)
 | 0=>h
 | n+1=>zVn (zTi h o s n) (zWD s n)
theorem zHJ {l:List Int} (h:OkW l) (f:Int) (s:Str):OkW (zBO l f s):=zTi h _ s 32
theorem zEV (l:List Int) (f:Int) (s:Str):(zBO l f s).length=l.length:=zGQ _ _ _ _
theorem OkD.out {d:DskD} (h:OkD d) (l:List Int) (p:Int) {v:Int} (hv:W32 v) (t:Int):OkD (zBI d l p v t).1:=by
 obtain ⟨ha,hb,hc,he,hf⟩:=h;unfold zBI zBQ
 repeat' split
 all_goals exact ⟨by first|exact ha|exact hv,by first|exact hb|exact hv,by first|exact hc|exact hv,by first|exact he|exact hb,by first|exact hf|exact hc⟩
theorem OkN.out {n:NicD} (h:OkN n) (l:List Int) (p:Int) {v:Int} (hv:W32 v) (t:Int):OkN (zAb n l p v t).1:=by
 obtain ⟨ha,hb,hc,hd⟩:=h;unfold zAb
 repeat' split
 all_goals first
  | exact ⟨ha,hb,hc,hd⟩
  | exact ⟨hv,hb,hc,hd⟩
  | exact ⟨ha,hv,hc,hd⟩
  | exact ⟨ha,hb,ha,hd⟩
  | exact ⟨ha,hb,hc,zAp⟩
  | (simp only [];split<;>first|exact ⟨ha,hb,hc,hd⟩|exact ⟨ha,hb,ha,hd⟩)
theorem zTF {g:Int} {l:List Int} (hg:W32 g) (hl:OkW l) (p v:Int):W32 (zA8 g l p v).1/\OkW (zA8 g l p v).2/\(zA8 g l p v).2.length=l.length:=by
 have h1:=zHJ hl v zFG;have h2:=zEV l v zFG;unfold zA8;generalize zBO l v zFG=S at *
 have h0:W32 g/\OkW l/\l.length=l.length:=⟨hg,hl,rfl⟩;exact zA5 (P:=fun z:Int × List Int=>W32 z.1/\OkW z.2/\z.2.length=l.length) (fun _=>h0) (fun _=>zA5 (P:=fun z:Int × List Int=>W32 z.1/\OkW z.2/\z.2.length=l.length) (fun _=>zA5 (P:=fun z:Int × List Int=>W32 z.1/\OkW z.2/\z.2.length=l.length) (fun _=>⟨zU4 _ _,h1,h2⟩) (fun _=>h0)) (fun _=>zA5 (P:=fun z:Int × List Int=>W32 z.1/\OkW z.2/\z.2.length=l.length) (fun _=>⟨zK9 _ _,hl,rfl⟩) (fun _=>h0)))
theorem zLn {m:MchD} (h:OkM m) (p:Int) {v:Int} (hv:W32 v) (t:Int):OkM (zAL m p v t).1:=by
 unfold zAL;split
 ·exact h
 split
 ·exact ⟨h.c,h.w,h.n,h.k,hv,h.d,h.r,h.tg,h.gv,h.ct⟩
 split
 ·exact ⟨h.c,h.w,h.n,h.k,h.t,h.d.out _ _ hv _,h.r,h.tg,h.gv,h.ct⟩
 split
 ·exact ⟨h.c,h.w,h.n,h.k,h.t,h.d,h.r.out _ _ hv _,h.tg,h.gv,h.ct⟩
 split
 ·obtain ⟨a1,a2,a3⟩:=zTF h.gv h.w p v;exact ⟨h.c,a2,by show (zA8 m.given m.mem p v).2.length<=1024;rw [a3];exact h.n,h.k,h.t,h.d,h.r,h.tg,a1,h.ct⟩
 exact h
theorem done_m {m:MchD} {e:EffD} (h:OkM m) (he:OkE e) {k:Int} (hk:W32 k) (t:Int):OkM (zBH m e k t).1:=by
 unfold zBH;split
 ·obtain ⟨a1,a2⟩:=zN1 h e.port hk;exact ⟨a1.c.setR a2,a1.w,a1.n,a1.k,a1.t,a1.d,a1.r,a1.tg,a1.gv,a1.ct⟩
 split
 ·exact zLn h _ he.v _
 split
 ·exact h.wait true
 split
 ·exact ⟨h.c,h.w,h.n,h.k,h.t,h.d,h.r,h.tg,h.gv,h.ct⟩
 exact h
theorem zD3 (m:MchD) (e:EffD) (k t:Int):(zBH m e k t).1.count=m.count:=by
 have h1:(zAd m e.port k).1.count=m.count:=by unfold zAd;(repeat' split)<;>rfl
 have h2:(zAL m e.port e.val t).1.count=m.count:=by unfold zAL;(repeat' split)<;>rfl
 unfold zBH
 repeat' split
 all_goals first|exact h1|exact h2|rfl
theorem zDE (m:MchD):(zBg m).count=m.count:=by
 show (zAK m).count=m.count
 unfold zAK;split;rfl;split<;>rfl
theorem zNf {m:MchD} (h:OkM m) (hr:runsD m=true) {k:Int} (hk:W32 k):OkM (goD m k).1/\(goD m k).1.count=m.count+1:=by
 have hc:m.count<1152921504606846976:=by unfold runsD at hr;simp at hr;exact hr.2
 obtain ⟨a1,a2⟩:=zF6 h;have hd:=done_m a1 a2 hk m.count;have hq:=zD3 (zBg m) (effD m) k m.count;rw [zDE] at hq;unfold goD;refine ⟨⟨hd.c,hd.w,hd.n,hd.k,hd.t,hd.d,hd.r,hd.tg,hd.gv,?_⟩,by show _+1=_;rw [hq]⟩
 show 0<=_+1/\_+1<_
 rw [hq];have:=h.ct;omega
theorem zQb {m:MchD} (h:OkM m) {k:Int} (hk:W32 k):OkM (stepD m k).1:=by
 unfold stepD;split
 ·rename_i q;exact (zNf h q hk).1
 exact h
theorem OkD.complete {d:DskD} (h:OkD d) (l:List Int) (e:EvD):OkD (zAJ d l e).1:=by
 obtain ⟨ha,hb,hc,he,hf⟩:=h;unfold zAJ doneD
 repeat' split
 all_goals first|exact ⟨ha,hb,hc,he,hf⟩|exact ⟨ha,hb,hc,zAp,zAp⟩
theorem zHy {d:DskD} {l:List Int} (hl:OkW l) (e:EvD):OkW (zAJ d l e).2.1/\(zAJ d l e).2.1.length=l.length:=by
 have h1:=zHJ hl d.opFrame e.data;have h2:=zEV l d.opFrame e.data;unfold zAJ;generalize zBO l d.opFrame e.data=S at *
 have h0:OkW l/\l.length=l.length:=⟨hl,rfl⟩;exact zA5 (P:=fun z:DskD × List Int × Bool=>OkW z.2.1/\z.2.1.length=l.length) (fun _=>h0) (fun _=>zA5 (P:=fun z:DskD × List Int × Bool=>OkW z.2.1/\z.2.1.length=l.length) (fun _=>zA5 (P:=fun z:DskD × List Int × Bool=>OkW z.2.1/\z.2.1.length=l.length) (fun _=>⟨h1,h2⟩) (fun _=>h0)) (fun _=>zA5 (P:=fun z:DskD × List Int × Bool=>OkW z.2.1/\z.2.1.length=l.length) (fun _=>h0) (fun _=>h0)))
theorem zTj {n:NicD} {l:List Int} (hn:OkN n) (hl:OkW l) (s:Str):OkN (zAY n l s).1/\OkW (zAY n l s).2.1/\(zAY n l s).2.1.length=l.length:=by
 have h1:=zHJ hl n.buffer (s++(zBb l n.buffer).drop s.length);have h2:=zEV l n.buffer (s++(zBb l n.buffer).drop s.length);unfold zAY;generalize zBO l n.buffer (s++(zBb l n.buffer).drop s.length)=S at *
 obtain ⟨ha,hb,hc,hd⟩:=hn;refine zA5 (P:=fun z:NicD × List Int × Bool=>OkN z.1/\OkW z.2.1/\z.2.1.length=l.length) (fun q=>?_) (fun _=>⟨⟨ha,hb,hc,hd⟩,hl,rfl⟩)
 obtain ⟨q1,q2,q3,q4⟩:=q;exact ⟨⟨ha,hb,zAp,⟨by show (0:Int)<=(s.length:Int);omega,by show (s.length:Int)<4294967296;omega⟩⟩,h1,h2⟩
theorem zCx {m:MchD} (h:OkM m) {e:EvD} (he:W32 e.n):OkM (applyD m e).1/\(applyD m e).1.count=m.count:=by
 unfold applyD;split
 ·exact ⟨h,rfl⟩
 split
 ·split
  ·refine ⟨⟨h.c,h.w,h.n,h.k,?_,h.d,h.r,h.tg,h.gv,h.ct⟩,rfl⟩;unfold zDe;split<;>exact h.t
  exact ⟨h,rfl⟩
 split
 ·split
  ·refine ⟨⟨h.c,h.w,h.n,?_,h.t,h.d,h.r,h.tg,h.gv,h.ct⟩,rfl⟩;unfold zDv;split
   ·exact h.k
   simp;omega
  exact ⟨h,rfl⟩
 split
 ·obtain ⟨a1,a2⟩:=zHy (d:=m.dk) h.w e;exact ⟨⟨h.c,a1,by show (zAJ m.dk m.mem e).2.1.length<=1024;rw [a2];exact h.n,h.k,h.t,h.d.complete _ _,h.r,h.tg,h.gv,h.ct⟩,rfl⟩
 split
 ·split
  ·obtain ⟨a1,a2,a3⟩:=zTj h.r h.w e.data;exact ⟨⟨h.c,a2,by show (zAY m.nc m.mem e.data).2.1.length<=1024;rw [a3];exact h.n,h.k,h.t,h.d,a1,h.tg,h.gv,h.ct⟩,rfl⟩
  exact ⟨h,rfl⟩
 split
 ·split
  ·exact ⟨⟨h.c,h.w,h.n,h.k,h.t,h.d,h.r,he,h.gv,h.ct⟩,rfl⟩
  exact ⟨h,rfl⟩
 exact ⟨h,rfl⟩
theorem zKn (m:MchD) (p v t:Int) (hM:OkM m) (hv:W32 v):zAD prog 182 [.st m.row,iv p,uv v,lv t] (.tup [.st (zAL m p v t).1.row,zLS (zAL m p v t).2]):=by
 have hd:=zOp m.dk m.mem p v t hM.d.c hv;have hn:=zPj m.nc m.mem p v t hM.r.a hM.r.b;have hb:=zOS m.tgt m.given m.mem p v hM.gv hv (by have:=hM.n;omega)
 by_cases h0:p=0
 ·subst h0;have hbv:zBq [.int .u8 (IntKind.u8.wrap v)]:=zOd v;have hE:zAL m 0 v t=(m,[⟨1,t,0,[UInt8.ofNat (v % 256).toNat]⟩]):=by simp [zAL]
  have hw:zDF [.int .u8 (IntKind.u8.wrap v)]=UInt8.ofNat (v % 256).toNat:=by simp [zDF,IntKind.wrap_u8]
  rw [hE];refine sZ func182 ntmps182 ?_;exact wx1 trivial trivial (kX3 @hbv @hw @zSE)
 by_cases h3:p=3
 ·subst h3;have hE:zAL m 3 v t=({m with tim:=armD v},[]):=by simp [zAL]
  rw [hE];refine sZ func182 ntmps182 ?_;exact wx1 (qX1 (arm_ok m.tim v)) trivial @outs.eq_1
 by_cases h4:p=4\/p=5\/p=6
 ·have hE:zAL m p v t=({m with dk:=(zBI m.dk m.mem p v t).1},(zBI m.dk m.mem p v t).2):=by unfold zAL;rw [if_neg h0,if_neg h3,if_pos h4]
  rw [hE];generalize zBI m.dk m.mem p v t=R at *
  rcases h4 with rfl|rfl|rfl
  ·refine sZ func182 ntmps182 ?_;exact wx (qX1 (hd)) trivial
  ·refine sZ func182 ntmps182 ?_;exact wx (qX1 (hd)) trivial
  refine sZ func182 ntmps182 ?_;exact wx (qX1 (hd)) trivial
 by_cases h7:p=7\/p=8\/p=9
 ·have hE:zAL m p v t=({m with nc:=(zAb m.nc m.mem p v t).1},(zAb m.nc m.mem p v t).2):=by unfold zAL;rw [if_neg h0,if_neg h3,if_neg h4,if_pos h7]
  rw [hE];generalize zAb m.nc m.mem p v t=R at *
  rcases h7 with rfl|rfl|rfl
  ·refine sZ func182 ntmps182 ?_;exact wx (qX1 (hn)) trivial
  ·refine sZ func182 ntmps182 ?_;exact wx (qX1 (hn)) trivial
  refine sZ func182 ntmps182 ?_;exact wx (qX1 (hn)) trivial
 by_cases h10:p=10\/p=11
 ·have hE:zAL m p v t=({m with given:=(zA8 m.given m.mem p v).1,mem:=(zA8 m.given m.mem p v).2},[]):=by unfold zAL;rw [if_neg h0,if_neg h3,if_neg h4,if_neg h7,if_pos h10]
  rw [hE];generalize zA8 m.given m.mem p v=R at *
  rcases h10 with rfl|rfl
  ·refine sZ func182 ntmps182 ?_;exact wx (qX1 (hb)) trivial
  refine sZ func182 ntmps182 ?_;exact wx (qX1 (hb)) trivial
 have hE:zAL m p v t=(m,[]):=by unfold zAL;rw [if_neg h0,if_neg h3,if_neg h4,if_neg h7,if_neg h10]
 rw [hE];have n4:¬ p=4:=by omega
 have n5:¬ p=5:=by omega
 have n6:¬ p=6:=by omega
 have n7:¬ p=7:=by omega
 have n8:¬ p=8:=by omega
 have n9:¬ p=9:=by omega
 have n10:¬ p=10:=by omega
 have n11:¬ p=11:=by omega
 refine sZ func182 ntmps182 ?_;exact wx1 trivial trivial (kX10 @h0 @h3 @n4 @n5 @n6 @n7 @n8 @n9 @n10 @n11)
theorem zHg (m:MchD) (p k:Int):(zAd m p k).1.count=m.count:=by unfold zAd;(repeat' split)<;>rfl
theorem zHX (m:MchD) (p v t:Int):(zAL m p v t).1.count=m.count:=by unfold zAL;(repeat' split)<;>rfl
theorem zKt (m:MchD):(zAK m).count=m.count:=by unfold zAK;split;rfl;split<;>rfl
theorem zR3 (m:MchD) {r:Int} (v:Int) (h0:0<=r) (h1:r<=15):m.row.set r.toNat (uv v)=({m with cpu:=m.cpu.setX r v}:MchD).row:=by
 rcases zHC h0 h1 with rfl|rfl|rfl|rfl|rfl|rfl|rfl|rfl|rfl|rfl|rfl|rfl|rfl|rfl|rfl|rfl<;>simp [CpuD.setX]
theorem step_ok (m:MchD) (k:Int) (hM:OkM m) :
  zAD prog 131 [.st m.row,uv k] (.tup [.st (stepD m k).1.row,zLS (stepD m k).2]):=by
 obtain ⟨hb,he⟩:=zF6 hM;have hcl:=zCD (ints .u32 m.mem) false 1 (.inl rfl) (by rw [zAM];have:=hM.n;omega)
 have hr:=zQS m hM;cases hR:runsD m with
 | false =>
  have hE:stepD m k=(m,[]):=by unfold stepD;rw [hR];rfl
  rw [hR] at hr;rw [hE];refine sZ func131 ntmps131 ?_;exact wx (qX2 (hcl) (hr)) trivial
 | true =>
  have hE:stepD m k=goD m k:=by unfold stepD;rw [hR];rfl
  rw [hR] at hr;rw [hE];have hx:=zO1 (zAK m).cpu m.mem (zFK hM) hM.w (by have:=hM.n;omega)
  have hbe:=zLt m hM;have hm:=zKu m;have hbc:=zKt m;have hct0:=hM.ct;unfold goD effD zBg;unfold effD at he;unfold zBg at hb;generalize zAK m=b at *
  generalize zAl b.cpu m.mem=Z at *
  obtain ⟨M,hMd⟩:∃ M:MchD,M={b with cpu:=Z.1,mem:=Z.2.1}:=⟨_,rfl⟩
  have hMc:M.count=m.count:=by rw [hMd];exact hbc
  rw [<- hMd] at hb ⊢;by_cases k1:Z.2.2.kind=1
  ·obtain ⟨r0,r1⟩:=he.r k1;have hp:=zLa M Z.2.2.port k hb;have hc:=zHg M Z.2.2.port k;have hD:zBH M Z.2.2 k m.count=({(zAd M Z.2.2.port k).1 with cpu:=(zAd M Z.2.2.port k).1.cpu.setR Z.2.2.reg (zAd M Z.2.2.port k).2},[]):=by unfold zBH;rw [if_pos k1]
   rw [hD];generalize zAd M Z.2.2.port k=R at *
   rw [hMc] at hc;have hct:IntKind.u64.wrap (R.1.count+1)=R.1.count+1:=u64_in (by omega) (by omega)
   subst hMd;by_cases hz:Z.2.2.reg=0
   ·refine sZ func131 ntmps131 ?_;exact wx1 (qX5 (hcl) (hr) (hbe) (hx) (hp)) trivial (kX5 @hm @k1 @hz @hct @CpuD.setR.eq_1)
   have hs:=zR3 R.1 R.2 r0 r1;simp at hs;refine sZ func131 ntmps131 ?_;exact wx1 (qX5 (hcl) (hr) (hbe) (hx) (hp)) trivial (kX6 @hm @k1 @hz @hct @hs @CpuD.setR.eq_1)
  by_cases k2:Z.2.2.kind=2
  ·have hp:=zKn M Z.2.2.port Z.2.2.val m.count hb he.v;have hc:=zHX M Z.2.2.port Z.2.2.val m.count;have hD:zBH M Z.2.2 k m.count=zAL M Z.2.2.port Z.2.2.val m.count:=by unfold zBH;rw [if_neg k1,if_pos k2]
   rw [hD];generalize zAL M Z.2.2.port Z.2.2.val m.count=R at *
   rw [hMc] at hc;have hct:IntKind.u64.wrap (R.1.count+1)=R.1.count+1:=u64_in (by omega) (by omega)
   subst hMd;refine sZ func131 ntmps131 ?_;exact wx1 (qX5 (hcl) (hr) (hbe) (hx) (hp)) trivial (kX3 @hm @k2 @hct)
  have hct:IntKind.u64.wrap (b.count+1)=b.count+1:=u64_in (by omega) (by omega)
  by_cases k3:Z.2.2.kind=3
  ·have hD:zBH M Z.2.2 k m.count=({M with waiting:=true},[]):=by unfold zBH;rw [if_neg k1,if_neg k2,if_pos k3]
   rw [hD];subst hMd;refine sZ func131 ntmps131 ?_;exact wx1 (qX4 (hcl) (hr) (hbe) (hx)) trivial (kX3 @hm @k3 @hct)
  by_cases k4:Z.2.2.kind=4
  ·have hD:zBH M Z.2.2 k m.count=({M with halted:=true},[]):=by unfold zBH;rw [if_neg k1,if_neg k2,if_neg k3,if_pos k4]
   rw [hD];subst hMd;refine sZ func131 ntmps131 ?_;exact wx1 (qX4 (hcl) (hr) (hbe) (hx)) trivial (kX3 @hm @k4 @hct)
  have hD:zBH M Z.2.2 k m.count=(M,[]):=by unfold zBH;rw [if_neg k1,if_neg k2,if_neg k3,if_neg k4]
  rw [hD];subst hMd;refine sZ func131 ntmps131 ?_;exact wx1 (qX4 (hcl) (hr) (hbe) (hx)) trivial (kX6 @hm @k1 @k2 @k3 @k4 @hct)
structure OkV (e:EvD):Prop where
 n:W32 e.n
 d:e.data.length<=100000
structure OkR (r:RecD) (k:Nat):Prop where
 m:OkM r.m
 c:W32 r.clock
 l:r.log.length<=k
 q:r.queue.length<=1000
 v:∀ e∈r.queue,OkV e
 t:∀ e∈r.log,OkT e
theorem OkR.up {r:RecD} {k k':Nat} (h:OkR r k) (hk:k<=k'):OkR r k':=⟨h.m,h.c,zWg h.l hk,h.q,h.v,h.t⟩
theorem zOt {l:List EntD} {e:EntD} (h:∀ x∈l,OkT x) (he:OkT e):∀ x∈l++[e],OkT x:=by
 intro x hx
 rcases List.mem_append.1 hx with q|q
 ·exact h x q
 rw [List.mem_singleton.1 q];exact he
theorem zCy {m:MchD} (h:OkM m):L64 m.count:=⟨h.ct.1,by have:=h.ct.2;omega⟩
theorem OkR.offer {r:RecD} {k:Nat} (h:OkR r k) {e:EvD} (he:OkV e):OkR (zAV r e) (k+1)/\(zAV r e).clock=r.clock/\(zAV r e).queue=r.queue/\(zAV r e).m.count=r.m.count:=by
 obtain ⟨a1,a2⟩:=zCx h.m he.n;unfold zAV;split
 ·exact ⟨⟨a1,h.c,by simp;exact h.l,h.q,h.v,zOt h.t ⟨zCy h.m,he.n⟩⟩,rfl,rfl,a2⟩
 exact ⟨h.up (by omega),rfl,rfl,rfl⟩
theorem timV:OkV ⟨2,0,[]⟩:=⟨zAp,by simp⟩
theorem OkR.tick {r:RecD} {k:Nat} (h:OkR r k):OkR (zAu r) (k+1)/\(zAu r).clock=r.clock/\(zAu r).queue=r.queue/\(zAu r).m.count=r.m.count:=by
 unfold zAu;split
 ·exact h.offer timV
 exact ⟨h.up (by omega),rfl,rfl,rfl⟩
theorem OkR.clk {r:RecD} {k:Nat} (h:OkR r k):OkR (clkR r) (k+1)/\(clkR r).clock=r.clock/\(clkR r).queue=r.queue/\(clkR r).m=r.m:=by
 unfold clkR;split
 ·exact ⟨⟨h.m,h.c,by simp;exact h.l,h.q,h.v,zOt h.t ⟨zCy h.m,h.c⟩⟩,rfl,rfl,rfl⟩
 exact ⟨h.up (by omega),rfl,rfl,rfl⟩
theorem OkR.go {r:RecD} {k:Nat} (h:OkR r k):OkR (goR r).1 (k+1):=by
 obtain ⟨a,-,-,-⟩:=h.clk;exact ⟨zQb h.m h.c,uw_w _,a.l,a.q,a.v,a.t⟩
theorem OkR.run:∀ (n:Nat) {r:RecD} {k:Nat} (o:List OutD),OkR r k->OkR (runR n r o).1 (k+2*n)
 | 0,r,k,o,h=>h
 | n+1,r,k,o,h=>by
  obtain ⟨h1,-⟩:=h.tick;unfold runR;split
  ·exact h1.up (by omega)
  exact (OkR.run n _ h1.go).up (by omega)
theorem OkR.offers:∀ (l:List EvD) {r:RecD} {k:Nat},OkR r k->(∀ e∈l,OkV e)->OkR (l.foldl zAV r) (k+l.length)/\(l.foldl zAV r).clock=r.clock
 | [],r,k,h,_=>⟨h,rfl⟩
 | e::l,r,k,h,hl=>by
  obtain ⟨h1,h2,-,-⟩:=h.offer (hl e (zWM ..));obtain ⟨h3,h4⟩:=OkR.offers l h1 (fun x hx=>hl x (zWI _ hx))
  exact ⟨h3.up (by simp;omega),h4.trans h2⟩
theorem zNm {a b:Int} (ha:W32 a) (hb:W32 b):W32 (max a b):=⟨by have:=ha.1;omega,by have:=ha.2;have:=hb.2;omega⟩
theorem OkR.queue {r:RecD} {k:Nat} (h:OkR r k) {clock:Int} (hc:W32 clock):OkR (zBc r clock) (k+r.queue.length):=by
 have h0:OkR {r with clock:=max r.clock clock} k:=⟨h.m,zNm h.c hc,h.l,h.q,h.v,h.t⟩
 obtain ⟨a,-⟩:=OkR.offers r.queue h0 h.v;exact ⟨a.m,a.c,a.l,by simp [zBc],by simp [zBc],a.t⟩
theorem zLG (n:Int):limS n<=4000:=by unfold limS;omega
theorem OkR.adv {r:RecD} {k:Nat} (h:OkR r k) (steps:Int) {clock:Int} (hc:W32 clock):OkR (advD r steps clock).1 (k+r.queue.length+2*limS steps):=by
 unfold advD;split
 ·exact OkR.run _ _ (h.queue hc)
 exact h.up (by omega)
theorem zDu (m:MchD) (k:Int):(stepD m k).2.length<=1:=by
 have hi:∀ (d:DskD) (l:List Int) (c t:Int),(zBQ d l c t).2.length<=1:=fun d l c t=>by unfold zBQ;(repeat' split)<;>simp
 have hd:∀ (d:DskD) (l:List Int) (p v t:Int),(zBI d l p v t).2.length<=1:=fun d l p v t=>by
  unfold zBI
  (repeat' split)<;>first|exact hi _ _ _ _|simp
 have hn:∀ (n:NicD) (l:List Int) (p v t:Int),(zAb n l p v t).2.length<=1:=fun n l p v t=>by
  unfold zAb
  (repeat' split)<;>first|simp|(simp only [];split<;>simp)
 have hw:∀ (m:MchD) (p v t:Int),(zAL m p v t).2.length<=1:=fun m p v t=>by
  unfold zAL
  (repeat' split)<;>first|exact hd _ _ _ _ _|exact hn _ _ _ _ _|simp
 unfold stepD;split
 ·show (zBH _ _ _ _).2.length<=1
  unfold zBH
  (repeat' split)<;>first|exact hw _ _ _ _|simp
 simp
theorem zMu:∀ (n:Nat) (r:RecD) (o:List OutD),(runR n r o).2.length<=o.length+n
 | 0,r,o=>by simp [runR]
 | n+1,r,o=>by
  unfold runR;split
  ·show o.length<=_;omega
  refine zWg (zMu n _ _) ?_;have:=zDu (zAu r).m (zAu r).clock;simp [goR];omega
theorem zEa (r:RecD) (steps clock:Int):(advD r steps clock).2.length<=limS steps:=by
 unfold advD;split
 ·exact zWg (zMu _ _ _) (by simp)
 simp
end Go.Proofs.YthjpcmecgjfilaaGreat
end
