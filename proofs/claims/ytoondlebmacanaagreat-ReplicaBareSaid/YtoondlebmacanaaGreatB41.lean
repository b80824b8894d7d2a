/- A part of the proof of ReplicaBare+ReplicaWindow. -/
import Derived.Test.YtoondlebmacanaaGreatB06
import Derived.Test.YtoondlebmacanaaGreatB27
import Derived.Test.YtoondlebmacanaaGreatB30
set_option linter.unusedSimpArgs false
set_option linter.unusedVariables false
set_option maxHeartbeats 16000000
set_option maxRecDepth 100000
section
namespace Go.Proofs.YtoondlebmacanaaGreat
open Go.Ab Go.RowKit
theorem zBD (b:Bool):zAD Tryz.prog 263 [.bool b] (uv (b2w b)):=by
 refine sZ Tryz.func263 Tryz.ntmps263 ?_;exact wx1 trivial trivial @b2w.eq_1
theorem zJ8 (a:Int):zAD Tryz.prog 264 [iv a] (.bool (decide (1≤a)&&decide (a≤3))):=by
 refine sZ Tryz.func264 Tryz.ntmps264 ?_;exact wx trivial trivial
theorem zJ1 (a:Int):zAD Tryz.prog 266 [iv a] (iv (if a=1 then 4 else if a=3 then 6 else 5)):=by
 refine sZ Tryz.func266 Tryz.ntmps266 ?_;exact wx trivial trivial
theorem iand5 {x:Int} (h:0≤x∧x≤31):decide (iand .u32 x 5=4)=(decide (x % 2=0)&&decide (x / 4 % 2=1)):=by
 have e:∀ k:Fin 32,decide (iand .u32 (k.val:Int) 5=4)=(decide ((k.val:Int) % 2=0)&&decide ((k.val:Int) / 4 % 2=1)):=by decide
 have:=e ⟨x.toNat,by omega⟩
 rwa [show ((⟨x.toNat,by omega⟩:Fin 32).val:Int)=x by simp;omega] at this
theorem zQR (c:CpuD) (h:OkC c):zAD Tryz.prog 265 [.st c.row] (.bool (zD4 c)):=by
 have e:=iand5 ⟨(h.csr 0).1,h.s⟩;refine sZ Tryz.func265 Tryz.ntmps265 ?_;exact wx1 trivial trivial (kX2 @e @zD4.eq_1)
theorem zQU (op a b:Int):zAD Tryz.prog 271 [iv op,uv a,uv b] (.bool (zFF op a b)):=by
 refine sZ Tryz.func271 Tryz.ntmps271 ?_;exact wx1 trivial trivial @zFF.eq_1
theorem zTD (op:Int):zAD Tryz.prog 191 [iv op] (.bool (zK3 op)):=by
 refine sZ Tryz.func191 Tryz.ntmps191 ?_;exact wx1 trivial trivial @zK3.eq_1
def zBk (op:Int):Int:=if op=16 then 1 else if op=17 then 3 else if op=18 then 4 else if op=19 then 5 else if op=20 then 6 else if op=21 then 7 else if op=22 then 8 else if op=23 then 12 else op
theorem zAq (op:Int):zAD Tryz.prog 273 [iv op] (iv (zBk op)):=by
 refine sZ Tryz.func273 Tryz.ntmps273 ?_;exact wx1 trivial trivial @zBk.eq_1
theorem zCI (c:CpuD) (r v:Int) (h0:0≤r) (h1:r≤15):zAD Tryz.prog 145 [.st c.row,iv r,uv v] (.st (c.setR r v).row):=by
 have e:=zQD c v h0 h1;by_cases hr:r=0
 ·subst hr;refine sZ Tryz.func145 Tryz.ntmps145 ?_;exact wx1 trivial trivial @CpuD.setR.eq_1
 refine sZ Tryz.func145 Tryz.ntmps145 ?_;exact wx1 trivial trivial (kX3 @e @CpuD.setR.eq_1 @hr)
theorem zQa (c:CpuD) (k v:Int) (h0:0≤k) (h1:k≤7):zAD Tryz.prog 270 [.st c.row,iv k,uv v] (.st (zBW c k v).row):=by
 have hk:k=0∨k=1∨k=2∨k=3∨k=4∨k=5∨k=6∨k=7:=by omega
 rcases hk with rfl|rfl|rfl|rfl|rfl|rfl|rfl|rfl
 ·refine sZ Tryz.func270 Tryz.ntmps270 ?_;exact wx1 trivial trivial (kX2 @zBW.eq_1 @CpuD.setS.eq_1)
 ·refine sZ Tryz.func270 Tryz.ntmps270 ?_;exact wx1 trivial trivial (kX2 @zBW.eq_1 @CpuD.setS.eq_1)
 ·refine sZ Tryz.func270 Tryz.ntmps270 ?_;exact wx1 trivial trivial (kX2 @zBW.eq_1 @CpuD.setS.eq_1)
 ·refine sZ Tryz.func270 Tryz.ntmps270 ?_;exact wx1 trivial trivial (kX2 @zBW.eq_1 @CpuD.setS.eq_1)
 ·refine sZ Tryz.func270 Tryz.ntmps270 ?_;exact wx1 trivial trivial (kX2 @zBW.eq_1 @CpuD.setS.eq_1)
 ·refine sZ Tryz.func270 Tryz.ntmps270 ?_;exact wx1 trivial trivial (kX2 @zBW.eq_1 @CpuD.setS.eq_1)
 ·refine sZ Tryz.func270 Tryz.ntmps270 ?_;exact wx1 trivial trivial (kX2 @zBW.eq_1 @CpuD.setS.eq_1)
 refine sZ Tryz.func270 Tryz.ntmps270 ?_;exact wx1 trivial trivial (kX2 @zBW.eq_1 @CpuD.setS.eq_1)
theorem zVo {s:Int} (h0:0≤s) (h1:s≤31):ior .u32 (zAV .u32 (ior .u32 (ior .u32 (zAV .u32 s 24) (IntKind.u32.wrap (8*b2w (!decide (iand .u32 s 1=0))))) (IntKind.u32.wrap (16*b2w (!decide (iand .u32 s 2=0))))) 2) 1=zKH s:=by
 have e:∀ k:Fin 32,ior .u32 (zAV .u32 (ior .u32 (ior .u32 (zAV .u32 (k.val:Int) 24) (IntKind.u32.wrap (8*b2w (!decide (iand .u32 (k.val:Int) 1=0))))) (IntKind.u32.wrap (16*b2w (!decide (iand .u32 (k.val:Int) 2=0))))) 2) 1=zKH (k.val:Int):=by decide
 have:=e ⟨s.toNat,by omega⟩
 rwa [show ((⟨s.toNat,by omega⟩:Fin 32).val:Int)=s by simp;omega] at this
theorem rret_s {s:Int} (h0:0≤s) (h1:s≤31):ior .u32 (ior .u32 (zAV .u32 s 3) (IntKind.u32.wrap (1*b2w (!decide (iand .u32 s 8=0))))) (IntKind.u32.wrap (2*b2w (!decide (iand .u32 s 16=0))))=retS s:=by
 have e:∀ k:Fin 32,ior .u32 (ior .u32 (zAV .u32 (k.val:Int) 3) (IntKind.u32.wrap (1*b2w (!decide (iand .u32 (k.val:Int) 8=0))))) (IntKind.u32.wrap (2*b2w (!decide (iand .u32 (k.val:Int) 16=0))))=retS (k.val:Int):=by decide
 have:=e ⟨s.toNat,by omega⟩
 rwa [show ((⟨s.toNat,by omega⟩:Fin 32).val:Int)=s by simp;omega] at this
theorem zBf (c:CpuD) (cause bad:Int) (h:OkC c):zAD Tryz.prog 188 [.st c.row,iv cause,uv bad] (.st (zA4 c cause bad).row):=by
 have e:=zVo (h.csr 0).1 h.s;refine sZ Tryz.func188 Tryz.ntmps188 ?_;exact wx1 (qX2 (zBD (!decide (iand .u32 (c.csr 0) 1=0))) (zBD (!decide (iand .u32 (c.csr 0) 2=0)))) trivial (kX2 @e @zA4.eq_1)
theorem zNv (c:CpuD) (h:OkC c):zAD Tryz.prog 269 [.st c.row] (.st (retD c).row):=by
 have e:=rret_s (h.csr 0).1 h.s;refine sZ Tryz.func269 Tryz.ntmps269 ?_;exact wx1 (qX2 (zBD (!decide (iand .u32 (c.csr 0) 8=0))) (zBD (!decide (iand .u32 (c.csr 0) 16=0)))) trivial (kX2 @e @retD.eq_1)
theorem zBT (a b:Int) (ha:W32 a) (hb:W32 b):zAD Tryz.prog 274 [uv a,uv b] (.tup [uv (divQ a b),uv (divR a b)]):=by
 obtain ⟨ha0,ha1⟩:=ha;obtain ⟨hb0,hb1⟩:=hb;by_cases h1:b=0
 ·subst h1;refine sZ Tryz.func274 Tryz.ntmps274 ?_
  (refine af1 (kX2 @divQ.eq_1 @divR.eq_1) ?_;intros;apply wr)
  repeat' ((first|(refine zAC rfl (fun h=>?_) (fun h=>?_)<;>(first|(simp [divQ,divR] at h;done)|(simp [divQ,divR] at h)|skip)<;>(first|(exfalso;omega)|skip))|(refine zAG 10 [0,0,3,7,0,0,48,112,15,511] [(9,([[],[],[0,1],[0,1,2],[],[],[4,5],[4,5,6],[0,1,2,3]],[])),(1,([],[]))] ?_)|exact rt1 (kX2 @divQ.eq_1 @divR.eq_1)|fail)<;>(refine af1 (kX2 @divQ.eq_1 @divR.eq_1) ?_;intros;apply wr))
 have hn:¬ sw b=0:=by unfold sw;rw [IntKind.wrap_i32];omega
 have i1:∀ x,IntKind.i64.wrap (sw x)=sw x:=fun x=>by unfold sw;simp only [IntKind.wrap_i32];exact zAB (by omega) (by omega)
 have q0:sw b≠0→-2147483648≤(sw a).tdiv (sw b)∧(sw a).tdiv (sw b)≤2147483648:=by
  intro hne
  have ra:-2147483648≤sw a∧sw a≤2147483647:=by unfold sw;rw [IntKind.wrap_i32];omega
  have:((sw a).tdiv (sw b)).natAbs=(sw a).natAbs / (sw b).natAbs:=Int.natAbs_tdiv (sw a) (sw b);have h2:(sw a).natAbs / (sw b).natAbs≤(sw a).natAbs:=Nat.div_le_self _ _;obtain ⟨q,hq⟩:∃ q:Nat,q=(sw a).natAbs / (sw b).natAbs:=⟨_,rfl⟩;rw [← hq] at this h2;omega
 have e1:IntKind.u32.wrap (IntKind.i64.wrap ((sw a).tdiv (sw b)))=divQ a b:=by
  unfold divQ uw;rw [if_neg h1,zAB (by have:=q0 hn;omega) (by have:=q0 hn;omega)]
 have e2:IntKind.u32.wrap ((sw a).tmod (sw b))=divR a b:=by
  unfold divR;rw [if_neg h1]
 refine sZ Tryz.func274 Tryz.ntmps274 ?_
 (refine af1 (kX5 @e1 @e2 @h1 @hn @i1) ?_;intros;apply wr)
 repeat' ((first|(refine zAC rfl (fun h=>?_) (fun h=>?_)<;>(first|(simp [e1,e2,h1,hn,i1] at h;done)|(simp [e1,e2,h1,hn,i1] at h)|skip)<;>(first|(exfalso;omega)|skip))|(refine zAG 10 [0,0,3,7,0,0,48,112,15,511] [(9,([[],[],[0,1],[0,1,2],[],[],[4,5],[4,5,6],[0,1,2,3]],[])),(1,([],[]))] ?_)|exact rt1 (kX5 @e1 @e2 @h1 @hn @i1)|fail)<;>(refine af1 (kX5 @e1 @e2 @h1 @hn @i1) ?_;intros;apply wr))
@[simp] theorem shl8:IntKind.u32.wrap (4294967295*2 ^ (min (8:Int).toNat 32))=4294967040:=by decide
theorem shl8':IntKind.u32.wrap 1099511627520=4294967040:=by decide
theorem zS4 (x:Int) (h0:0≤x) (h1:x<256):zAD Tryz.prog 272 [uv x,iv 8] (uv (zEX x)):=by
 have e1:iand .u32 x 255=x:=by rw [zBw];omega
 have e2:x.fdiv 128=x / 128:=zWZ _ (by decide)
 have e3:x<128→zEX x=x:=fun h=>if_pos h
 have e4:¬ x<128→ior .u32 x 4294967040=zEX x:=by
  intro h
  have e:∀ k:Fin 256,ior .u32 (k.val:Int) 4294967040=(k.val:Int)+4294967040:=by decide
  have:=e ⟨x.toNat,by omega⟩
  rw [show ((⟨x.toNat,by omega⟩:Fin 256).val:Int)=x by simp;omega] at this
  rw [this,zEX,if_neg h]
 by_cases hx:x<128
 ·have e5:¬ x / 128=1:=by omega
  refine sZ Tryz.func272 Tryz.ntmps272 ?_;exact wx1 trivial trivial (kX7 @e1 @e2 @e5 (e3 hx) @u64c @i64c @u32c)
 have e5:x / 128=1:=by omega
 refine sZ Tryz.func272 Tryz.ntmps272 ?_;exact wx1 trivial trivial (kX8 @e1 @e2 @e5 @shl8' (e4 hx) @u64c @i64c @u32c)
theorem zNy (l:List Int) (a s:Int) (hs:s=1∨s=4) (ha:W32 a):zAD Tryz.prog 189 [memV l,uv a,iv s] (.bool (zAT l a s)):=by
 have hp:=zAb l;have e1:IntKind.i64.wrap (128*pagesD l)=128*pagesD l:=zAB (by omega) (by omega)
 have e2:IntKind.u32.wrap (128*pagesD l)=128*pagesD l:=u32_in (by omega) (by omega)
 have e5:=zIp ha.1;rcases hs with rfl|rfl
 ·have e6:zAT l a 1=decide (a<128*pagesD l):=by
   have:(a+1≤pagesD l*128)=(a<128*pagesD l):=by apply propext;omega
   unfold zAT;simp [this]
  refine sZ Tryz.func189 Tryz.ntmps189 ?_;exact wx1 (qX1 (zCz l)) trivial (kX6 @e1 @e2 @e5 @e6 @u32c @u64c)
 have e6:zAT l a 4=(decide (a % 4=0)&&decide (a<128*pagesD l)):=by
  unfold zAT;by_cases h4:a % 4=0
  ·have:(a+4≤pagesD l*128)=(a<128*pagesD l):=by apply propext;omega
   simp [h4,this]
  simp [h4]
 refine sX Tryz.func189 Tryz.ntmps189 ?_;intros;apply wr;refine gF01 rfl (kX6 @e1 @e2 @e5 @e6 @u32c @u64c) ?_;intros;apply wr
 first|refine zBG (zCz l) rfl (fun hgd=>?_) (by simp [obsL]) ?_|refine zAy (zCz l) rfl (by simp) (fun hgd=>?_) (by simp [obsL]) ?_
 all_goals simp
 all_goals (try (first|exact hgd|(simp at hgd;first|done|assumption|grind)))
 refine au1 (kX6 @e1 @e2 @e5 @e6 @u32c @u64c) ?_;intros;apply wr;refine zAA ?_;simp [e1,e2,e5,e6];rfl
theorem zTB (l:List Int) (a s:Int) (hs:s=1∨s=4) (ha:W32 a):zAD Tryz.prog 141 [memV l,uv a,iv s] (.tup [uv (if zAT l a s=true then zBY l a s else 0),.bool (zAT l a s)]):=by
 have hW:=zNy l a s hs ha;cases hw:zAT l a s with
 | false =>
  rw [hw] at hW;refine sZ Tryz.func141 Tryz.ntmps141 ?_;exact wx (qX1 (hW)) trivial
 | true =>
  rw [hw] at hW;have hi:=zBM hw ha.1;have e1:=zKF ha;obtain ⟨w,hw'⟩:∃ w,w=wAt l (a / 4):=⟨_,rfl⟩;have e2:=zBU (k:=.u32) (zD8 hi);rw [← hw'] at e2;have hw2:=hw'.symm;have e3:=zAN .u32 l;have e4:=zIp ha.1;have e5:IntKind.u32.wrap (8*(a % 4))=8*(a % 4):=u32_in (by omega) (by omega)
  have e6:w.fdiv (2 ^ min (8*(a % 4)).toNat 32)=w / 2 ^ (8*(a % 4)).toNat:=by
   rw [zWb (by omega),zWZ _ (zWm (zWo (by decide)))]
  have e7:(0:Int)≤a / 4:=by have:=ha.1;omega
  have e8:a / 4<(l.length:Int):=by omega
  have e9:w / 2 ^ (8*(a % 4)).toNat % 256=byteAt w (a % 4):=rfl;rcases hs with rfl|rfl
  ·refine sZ Tryz.func141 Tryz.ntmps141 ?_;exact wx1 (qX1 (hW)) trivial (kX10 @e1 @e2 @e3 @e4 @e5 @e6 @e9 @zBw @zBY.eq_1 @hw2)
  refine sZ Tryz.func141 Tryz.ntmps141 ?_;exact wx1 (qX1 (hW)) trivial (kX6 @e1 @e2 @e3 @e4 @zBY.eq_1 @hw2)
theorem zTZ (n:Int):IntKind.i16.wrap n=(n+32768) % 65536-32768:=by
 simp only [IntKind.wrap,IntKind.bits,IntKind.signed];have e1:(2:Int) ^ 16=65536:=by decide
 have e2:(2:Int) ^ (16-1)=32768:=by decide
 simp only [e1,e2,Bool.true_and,decide_eq_true_eq];split<;>omega
theorem zEO (w:Int) (hw:W32 w):zAD Tryz.prog 142 [uv w] (decV w):=by
 have e1:w.fdiv 16777216=w / 16777216 % 256:=by rw [zBL];have:=hw.1;have:=hw.2;omega
 have e2:iand .u32 (w.fdiv 1048576) 15=w / 1048576 % 16:=by
  rw [zWZ _ (by decide)];exact zAY (w / 1048576) 4 16 (by omega) (by decide)
 have e3:iand .u32 (w.fdiv 65536) 15=w / 65536 % 16:=by
  rw [zWZ _ (by decide)];exact zAY (w / 65536) 4 16 (by omega) (by decide)
 have e4:iand .u32 w 65535=w % 65536:=zAY w 16 65536 (by omega) (by decide)
 have c1:IntKind.i64.wrap (w / 16777216 % 256)=w / 16777216 % 256:=zAB (by omega) (by omega)
 have c2:IntKind.i64.wrap (w / 1048576 % 16)=w / 1048576 % 16:=zAB (by omega) (by omega)
 have c3:IntKind.i64.wrap (w / 65536 % 16)=w / 65536 % 16:=zAB (by omega) (by omega)
 have c4:IntKind.i64.wrap (w % 65536)=w % 65536:=zAB (by omega) (by omega)
 have c5:IntKind.i32.wrap (w % 65536)=w % 65536:=by rw [IntKind.wrap_i32];omega
 have c6:IntKind.i16.wrap (w % 65536)=sext (w % 65536):=by rw [zTZ];unfold sext;split<;>omega
 have c7:IntKind.i32.wrap (sext (w % 65536))=sext (w % 65536):=by rw [IntKind.wrap_i32];unfold sext;split<;>omega
 refine sY Tryz.func142 Tryz.ntmps142 (kX6 @e1 @e2 @e3 @c1 @c2 @c3) ?_;intros;apply wr;refine cX (zGh (w / 16777216 % 256)) ?_;intros;apply wr;by_cases e0:zAK (w / 16777216 % 256)=0
 ·have hv:validD (decI w)=false:=by simp [validD,decI,e0]
  refine gT10 @e0 rfl ?_;intros;apply wr;refine zAI ?_;refine zAA ?_;simp [hv,zED]
 refine gF10 @e0 rfl ?_;intros;apply wr;by_cases e2:zAK (w / 16777216 % 256)=2
 ·have hd:decI w=⟨w / 16777216 % 256,w / 1048576 % 16,w / 65536 % 16,w % 65536,0⟩:=by simp [decI,e2]
  refine gT11 @e2 rfl (kX2 @e4 @c4) ?_;intros;apply wr;have hi:-2147483648≤((⟨w / 16777216 % 256,w / 1048576 % 16,w / 65536 % 16,w % 65536,0⟩:InstD)).imm∧((⟨w / 16777216 % 256,w / 1048576 % 16,w / 65536 % 16,w % 65536,0⟩:InstD)).imm≤2147483647:=by simp only [sext];omega
  refine cc (zD7 (⟨w / 16777216 % 256,w / 1048576 % 16,w / 65536 % 16,w % 65536,0⟩:InstD) hi) ?_;cases hv:validD (⟨w / 16777216 % 256,w / 1048576 % 16,w / 65536 % 16,w % 65536,0⟩:InstD) with
  | false =>
   refine au ?_;intros;apply wr;refine gT00 rfl ?_;intros;apply wr;refine zAI ?_;refine zAA ?_;simp [hd,hv,zED]
  | true =>
   refine au ?_;intros;apply wr;refine gF00 rfl ?_;intros;apply wr;refine zAI ?_;refine zAA ?_;simp [hd,hv,zED]
 refine gF10 @e2 rfl ?_;intros;apply wr;by_cases e3:zAK (w / 16777216 % 256)=3
 ·have hd:decI w=⟨w / 16777216 % 256,w / 1048576 % 16,w / 65536 % 16,0,sext (w % 65536)⟩:=by simp [decI,e3]
  refine gT10 @e3 rfl ?_;intros;apply wr;refine gT11 @e3 rfl (kX3 @e4 @c6 @c7) ?_;intros;apply wr;have hi:-2147483648≤((⟨w / 16777216 % 256,w / 1048576 % 16,w / 65536 % 16,0,sext (w % 65536)⟩:InstD)).imm∧((⟨w / 16777216 % 256,w / 1048576 % 16,w / 65536 % 16,0,sext (w % 65536)⟩:InstD)).imm≤2147483647:=by simp only [sext];omega
  refine cc (zD7 (⟨w / 16777216 % 256,w / 1048576 % 16,w / 65536 % 16,0,sext (w % 65536)⟩:InstD) hi) ?_;cases hv:validD (⟨w / 16777216 % 256,w / 1048576 % 16,w / 65536 % 16,0,sext (w % 65536)⟩:InstD) with
  | false =>
   refine au ?_;intros;apply wr;refine gT00 rfl ?_;intros;apply wr;refine zAI ?_;refine zAA ?_;simp [hd,hv,zED]
  | true =>
   refine au ?_;intros;apply wr;refine gF00 rfl ?_;intros;apply wr;refine zAI ?_;refine zAA ?_;simp [hd,hv,zED]
 refine gF10 @e3 rfl ?_;intros;apply wr;by_cases e7:zAK (w / 16777216 % 256)=7
 ·have hd:decI w=⟨w / 16777216 % 256,w / 1048576 % 16,w / 65536 % 16,0,sext (w % 65536)⟩:=by simp [decI,e7]
  refine gT11 @e7 rfl (kX3 @e4 @c6 @c7) ?_;intros;apply wr;have hi:-2147483648≤((⟨w / 16777216 % 256,w / 1048576 % 16,w / 65536 % 16,0,sext (w % 65536)⟩:InstD)).imm∧((⟨w / 16777216 % 256,w / 1048576 % 16,w / 65536 % 16,0,sext (w % 65536)⟩:InstD)).imm≤2147483647:=by simp only [sext];omega
  refine cc (zD7 (⟨w / 16777216 % 256,w / 1048576 % 16,w / 65536 % 16,0,sext (w % 65536)⟩:InstD) hi) ?_;cases hv:validD (⟨w / 16777216 % 256,w / 1048576 % 16,w / 65536 % 16,0,sext (w % 65536)⟩:InstD) with
  | false =>
   refine au ?_;intros;apply wr;refine gT00 rfl ?_;intros;apply wr;refine zAI ?_;refine zAA ?_;simp [hd,hv,zED]
  | true =>
   refine au ?_;intros;apply wr;refine gF00 rfl ?_;intros;apply wr;refine zAI ?_;refine zAA ?_;simp [hd,hv,zED]
 refine cF1 @e7 rfl ?_;have hd:decI w=⟨w / 16777216 % 256,w / 1048576 % 16,w / 65536 % 16,0,w % 65536⟩:=by simp [decI,e2,e3,e7]
 refine au1 (kX2 @e4 @c5) ?_;intros;apply wr;have hi:-2147483648≤((⟨w / 16777216 % 256,w / 1048576 % 16,w / 65536 % 16,0,w % 65536⟩:InstD)).imm∧((⟨w / 16777216 % 256,w / 1048576 % 16,w / 65536 % 16,0,w % 65536⟩:InstD)).imm≤2147483647:=by simp only [sext];omega
 refine cc (zD7 (⟨w / 16777216 % 256,w / 1048576 % 16,w / 65536 % 16,0,w % 65536⟩:InstD) hi) ?_;cases hv:validD (⟨w / 16777216 % 256,w / 1048576 % 16,w / 65536 % 16,0,w % 65536⟩:InstD) with
 | false =>
  refine au ?_;intros;apply wr;refine gT00 rfl ?_;intros;apply wr;refine zAI ?_;refine zAA ?_;simp [hd,hv,zED]
 | true =>
  refine au ?_;intros;apply wr;refine gF00 rfl ?_;intros;apply wr;refine zAI ?_;refine zAA ?_;simp [hd,hv,zED]
abbrev memO (l:List Int):Ob:=⟨25,1,false,false,ints .u32 l⟩
theorem zIj {nx:Nat} {ob:List (Nat × Option Ob)} (j:Nat) (l:List Int) (a v:Int) (ha:W32 a) (hj:lookO ob j=some (memO l)) (hi:(a / 4).toNat<l.length) :
  InlC Tryz.prog 256 [.own j,uv a,iv 4,uv v] nx ob fun r nx' ob'=>r=.tup []∧nx'=nx∧ob'=(j,some (memO (zBt l a 4 v)))::ob:=by
 have e1:=zKF ha;have e3:=zAN .u32 l;have e7:(0:Int)≤a / 4:=by have:=ha.1;omega
 have e8:a / 4<(l.length:Int):=by omega
 refine InlC.of Tryz.func256 rfl (by kernel_rfl) rfl ?_
 simp only [Tryz.ntmps256,St.startI,argT];refine au1 (kX2 @hj @e1) ?_;intros;apply wr;refine cT0 rfl ?_;have e2:=zBU (k:=.u32) (zD8 hi);have g2:∀ h,(ints .u32 l)[(a / 4).toNat]'h=[uv (wAt l (a / 4))]:=fun h=>by rw [zWa h] at e2;simpa using e2
 refine au1 (kX6 @hj @e1 @e3 @e2 @g2 @ints_set) ?_;intros;apply wr;refine zAA ?_;simp [zBt,ints_set]
theorem zER {nx:Nat} {ob:List (Nat × Option Ob)} (j:Nat) (l:List Int) (a v:Int) (ha:W32 a) (hl:OkW l) (hj:lookO ob j=some (memO l)) (hi:(a / 4).toNat<l.length) :
  InlC Tryz.prog 256 [.own j,uv a,iv 1,uv v] nx ob fun r nx' ob'=>r=.tup []∧nx'=nx∧ob'=(j,some (memO (zBt l a 1 v)))::ob:=by
 have e1:=zKF ha;have e3:=zAN .u32 l;have e4:=zIp ha.1;have e5:IntKind.u32.wrap (8*(a % 4))=8*(a % 4):=u32_in (by omega) (by omega)
 have e7:(0:Int)≤a / 4:=by have:=ha.1;omega
 have e8:a / 4<(l.length:Int):=by omega
 have e9:min (8*(a % 4)).toNat 32=(8*(a % 4)).toNat:=by omega
 obtain ⟨w,hw'⟩:∃ w,w=wAt l (a / 4):=⟨_,rfl⟩;have e2:=zBU (k:=.u32) (zD8 hi);rw [← hw'] at e2;have hw2:=hw'.symm;have hs:=setB w v (a % 4) (by rw [hw'];exact zLO hl _) (by omega)
 have ha4:a % 4=0∨a % 4=1∨a % 4=2∨a % 4=3:=by omega
 have f1:IntKind.u32.wrap (255*2 ^ (8*(a % 4)).toNat)=255*2 ^ (8*(a % 4)).toNat:=by
  rcases ha4 with h|h|h|h<;>rw [h]<;>decide
 have f2:IntKind.u32.wrap (v % 256*2 ^ (8*(a % 4)).toNat)=v % 256*2 ^ (8*(a % 4)).toNat:=by
  rcases ha4 with h|h|h|h<;>rw [h]<;>exact u32_in (by simp;omega) (by simp;omega)
 refine InlC.of Tryz.func256 rfl (by kernel_rfl) rfl ?_
 simp only [Tryz.ntmps256,St.startI,argT];refine au1 (kX4 @hj @e1 @e4 @e5) ?_;intros;apply wr;refine cF0 rfl ?_;have g2:∀ h,(ints .u32 l)[(a / 4).toNat]'h=[uv w]:=fun h=>by rw [zWa h] at e2;simpa using e2
 refine au1 (kX13 @hj @e1 @e2 @e3 @e4 @e5 @e9 @f1 @f2 @hs @g2 @zBw @ints_set) ?_;intros;apply wr;simp [zBt,ints_set,hw2]
theorem walkC (w acc P F:Int) (ha:acc=1∨acc=2∨acc=3):(iand .u32 w 1==0||acc==3&&iand .u32 w 2==0||acc==1&&iand .u32 w 4==0||decide (P≤F))=!decide (zIe w acc=true∧F<P):=by
 have e:decide (P≤F)=!decide (F<P):=by by_cases h:F<P<;>simp [h]<;>omega
 rw [e];unfold zIe;simp only [Bool.decide_and,Bool.decide_eq_true];generalize decide (F<P)=b;by_cases k1:iand .u32 w 1=0<;>by_cases k2:iand .u32 w 2=0<;>by_cases k4:iand .u32 w 4=0<;>cases b<;>rcases ha with rfl|rfl|rfl<;>simp [k1,k2,k4]
def zBm (nx:Nat) (ob:List (Nat × Option Ob)) (j:Nat) (l:List Int) (nx':Nat) (ob':List (Nat × Option Ob)):Prop :=
 nx≤nx'∧lookO ob' j=some (memO l)∧∀ i,i<nx→i≠j→lookO ob' i=lookO ob i
theorem zB1 {nx:Nat} {ob:List (Nat × Option Ob)} (j:Nat) (l:List Int) (hj:lookO ob j=some (memO l)) :
  InlC Tryz.prog 128 [.own j] nx ob fun r nx' ob'=>r=iv (pagesD l)∧nx'=nx∧ob'=ob:=by
 have e3:=zAN .u32 l;refine InlC.of Tryz.func128 rfl (by kernel_rfl) rfl ?_
 simp only [Tryz.ntmps128,St.startI,argT];refine au1 (kX2 @hj @e3) ?_;intros;apply wr;exact wx1 trivial trivial (kX3 @hj @e3 @pagesD.eq_1)
theorem zBg {nx:Nat} {ob:List (Nat × Option Ob)} (j:Nat) (l:List Int) (a s:Int) (hj:lookO ob j=some (memO l)) (hs:s=1∨s=4) (ha:W32 a) :
  InlC Tryz.prog 189 [.own j,uv a,iv s] nx ob fun r nx' ob'=>r=.bool (zAT l a s)∧nx'=nx∧ob'=ob:=by
 have hpg:=zAb l;have e1:IntKind.i64.wrap (128*pagesD l)=128*pagesD l:=zAB (by omega) (by omega)
 have e2:IntKind.u32.wrap (128*pagesD l)=128*pagesD l:=u32_in (by omega) (by omega)
 have e5:=zIp ha.1;rcases hs with rfl|rfl
 ·have e6:zAT l a 1=decide (a<128*pagesD l):=by
   have:(a+1≤pagesD l*128)=(a<128*pagesD l):=by apply propext;omega
   unfold zAT;simp [this]
  refine InlC.of Tryz.func189 rfl (by kernel_rfl) rfl ?_
  simp only [Tryz.ntmps189,St.startI,argT];refine au ?_;intros;apply wr;refine gF01 rfl (kX3 @e5 @u32c @u64c) ?_;intros;apply wr
  first|refine .inr ((zB1 j l hj).mono fun r nx' ob' hp=>?_)|refine (zB1 j l hj).mono fun r nx' ob' hp=>?_|refine ((zB1 j l hj).mono fun r nx' ob' hp=>?_).2
  simp only [aftI];obtain ⟨rfl,rfl,rfl⟩:=hp;simp [e1,e2];refine au ?_;intros;apply wr;refine zAA ?_;simp [e6]
 by_cases h4:a % 4=0
 ·have e6:zAT l a 4=decide (a<128*pagesD l):=by
   unfold zAT;have:(a+4≤pagesD l*128)=(a<128*pagesD l):=by apply propext;omega
   simp [h4,this]
  refine InlC.of Tryz.func189 rfl (by kernel_rfl) rfl ?_
  simp only [Tryz.ntmps189,St.startI,argT];refine au ?_;intros;apply wr;refine gF01 rfl (kX4 @e5 @h4 @u32c @u64c) ?_;intros;apply wr
  first|refine .inr ((zB1 j l hj).mono fun r nx' ob' hp=>?_)|refine (zB1 j l hj).mono fun r nx' ob' hp=>?_|refine ((zB1 j l hj).mono fun r nx' ob' hp=>?_).2
  simp only [aftI];obtain ⟨rfl,rfl,rfl⟩:=hp;simp [e1,e2];refine au ?_;intros;apply wr;refine zAA ?_;simp [e6]
 have e6:zAT l a 4=false:=by
  unfold zAT;simp [h4]
 have hb:(a % 4==0)=false:=by simp [h4]
 refine InlC.of Tryz.func189 rfl (by kernel_rfl) rfl ?_
 simp only [Tryz.ntmps189,St.startI,argT];refine au ?_;intros;apply wr;refine gF01 rfl (kX4 @e5 @hb @u32c @u64c) ?_;intros;apply wr;refine zAA ?_;simp [e6]
theorem zDi {nx:Nat} {ob:List (Nat × Option Ob)} (j:Nat) (l:List Int) (a s:Int) (hj:lookO ob j=some (memO l)) (hs:s=1∨s=4) (ha:W32 a) :
  InlC Tryz.prog 141 [.own j,uv a,iv s] nx ob fun r nx' ob'=>r=.tup [uv (if zAT l a s=true then zBY l a s else 0),.bool (zAT l a s)]∧nx'=nx∧ob'=ob:=by
 have hW:InlC Tryz.prog 189 [.own j,uv a,iv s] nx ob fun r nx' ob'=>r=.bool (zAT l a s)∧nx'=nx∧ob'=ob:=zBg j l a s hj hs ha
 cases hw:zAT l a s with
 | false =>
  rw [hw] at hW;refine InlC.of Tryz.func141 rfl (by kernel_rfl) rfl ?_
  simp only [Tryz.ntmps141,St.startI,argT];refine au ?_;intros;apply wr
  first|refine .inr ((hW).mono fun r nx' ob' hp=>?_)|refine (hW).mono fun r nx' ob' hp=>?_|refine ((hW).mono fun r nx' ob' hp=>?_).2
  simp only [aftI];obtain ⟨rfl,rfl,rfl⟩:=hp;simp;refine au ?_;intros;apply wr;refine gT00 rfl ?_;intros;apply wr;refine zAA ?_;simp
 | true =>
  rw [hw] at hW;have hi:=zBM hw ha.1;have e1:=zKF ha;obtain ⟨w,hw'⟩:∃ w,w=wAt l (a / 4):=⟨_,rfl⟩;have e2:=zBU (k:=.u32) (zD8 hi);rw [← hw'] at e2;have g2:∀ h,(ints .u32 l)[(a / 4).toNat]'h=[uv w]:=fun h=>by rw [zWa h] at e2;simpa using e2
  have hw2:=hw'.symm;have e3:=zAN .u32 l;have e4:=zIp ha.1;have e5:IntKind.u32.wrap (8*(a % 4))=8*(a % 4):=u32_in (by omega) (by omega)
  have e6:w.fdiv (2 ^ min (8*(a % 4)).toNat 32)=w / 2 ^ (8*(a % 4)).toNat:=by
   rw [zWb (by omega),zWZ _ (zWm (zWo (by decide)))]
  have e7:(0:Int)≤a / 4:=by have:=ha.1;omega
  have e8:a / 4<(l.length:Int):=by omega
  have e9:w / 2 ^ (8*(a % 4)).toNat % 256=byteAt w (a % 4):=rfl;rcases hs with rfl|rfl
  ·refine InlC.of Tryz.func141 rfl (by kernel_rfl) rfl ?_
   simp only [Tryz.ntmps141,St.startI,argT];refine au ?_;intros;apply wr
   first|refine .inr ((hW).mono fun r nx' ob' hp=>?_)|refine (hW).mono fun r nx' ob' hp=>?_|refine ((hW).mono fun r nx' ob' hp=>?_).2
   simp only [aftI];obtain ⟨rfl,rfl,rfl⟩:=hp;simp;refine au ?_;intros;apply wr;refine gF01 rfl (kX5 @hj @e1 @e2 @e3 @g2) ?_;intros;apply wr;refine gT01 rfl (kX5 @e4 @e5 @e6 @e9 @zBw) ?_;intros;apply wr;refine zAA ?_;simp [zBY,hw2]
  refine InlC.of Tryz.func141 rfl (by kernel_rfl) rfl ?_
  simp only [Tryz.ntmps141,St.startI,argT];refine au ?_;intros;apply wr
  first|refine .inr ((hW).mono fun r nx' ob' hp=>?_)|refine (hW).mono fun r nx' ob' hp=>?_|refine ((hW).mono fun r nx' ob' hp=>?_).2
  simp only [aftI];obtain ⟨rfl,rfl,rfl⟩:=hp;simp;refine au ?_;intros;apply wr;refine gF01 rfl (kX5 @hj @e1 @e2 @e3 @g2) ?_;intros;apply wr;refine gF00 rfl ?_;intros;apply wr;refine zAA ?_;simp [zBY,hw2]
def RPost (nx:Nat) (ob:List (Nat × Option Ob)) (nx':Nat) (ob':List (Nat × Option Ob)):Prop :=
 nx≤nx'∧∀ i,i<nx→lookO ob' i=lookO ob i
theorem zDj {nx:Nat} {ob:List (Nat × Option Ob)} (j:Nat) (l:List Int) (root va acc:Int) (hr:W32 root) (hv:W32 va) (ha:acc=1∨acc=2∨acc=3) (hj:lookO ob j=some (memO l)) (hjn:j<nx) :
  InlC Tryz.prog 267 [.own j,uv root,uv va,iv acc] nx ob fun r nx' ob'=>r=zB5 l root va acc∧RPost nx ob nx' ob':=by
 have n1:¬ j=nx:=by omega
 have n2:¬ j=nx+1:=by omega
 have n3:¬ j=nx+1+1:=by omega
 have n4:¬ nx=nx+1+1:=by omega
 have n5:¬ nx+1+1=nx:=by omega
 have hjj:lookO ob j=some (memO l):=hj;have hpg:=zAb l;have hc:zAD Tryz.prog 266 [iv acc] (iv (acc+3)):=by
  have:=zJ1 acc;rcases ha with rfl|rfl|rfl<;>simpa using this
 have hk:zAD Tryz.prog 264 [iv acc] (.bool true):=by
  have:=zJ8 acc;rcases ha with rfl|rfl|rfl<;>simpa using this
 have w0:IntKind.u32.wrap (pagesD l)=pagesD l:=u32_in (by omega) (by omega)
 by_cases h1:va<4096
 ·by_cases h2:root<pagesD l
  ·have hi:=zGH h2 hr.1 h1 hv.1;obtain ⟨e,he⟩:∃ e,e=root*128+va / 128*4:=⟨_,rfl⟩;rw [← he] at hi;have w1:IntKind.u32.wrap (va.tdiv 128)=va / 128:=by rw [Int.tdiv_eq_ediv_of_nonneg hv.1];exact u32_in (by omega) (by omega)
   have w2:IntKind.u32.wrap (4*(va / 128))=va / 128*4:=by rw [u32_in (by omega) (by omega)];omega
   have w3:IntKind.u32.wrap (root*128)=root*128:=u32_in (by omega) (by omega)
   have w4:IntKind.u32.wrap (root*128+va / 128*4)=e:=by rw [he];exact u32_in (by omega) (by omega)
   have hx:=zBM hi (by omega)
   have x1:=zKF (a:=e) ⟨by omega,by omega⟩
   have x2:=zBU (k:=.u32) (zD8 hx);have x3:=zAN .u32 l;have x4:(0:Int)≤e / 4:=by omega
   have x5:e / 4<(l.length:Int):=by omega
   obtain ⟨w,hw⟩:∃ w,w=wAt l (e / 4):=⟨_,rfl⟩;rw [← hw] at x2;have x6:iand .u32 (w.fdiv 256) 255=w / 256 % 256:=by rw [zBw,zF5]
   have w5:va.tmod 128=va % 128:=Int.tmod_eq_emod_of_nonneg hv.1;have hE:zB5 l root va acc=if zIe w acc=true∧w / 256 % 256<pagesD l then .st [uv (w / 256 % 256*128+va % 128),uv e,iv 0] else .st [uv 0,uv 0,iv (acc+3)]:=by
    unfold zB5 zD9;rw [← he,← hw];by_cases q:zIe w acc=true∧w / 256 % 256<pagesD l
    ·rw [if_pos ⟨h1,h2,q⟩,if_pos q]
    rw [if_neg (fun h=>q h.2.2),if_neg q]
   have hcond:(iand .u32 w 1==0||acc==3&&iand .u32 w 2==0||acc==1&&iand .u32 w 4==0||decide (pagesD l≤w / 256 % 256))=!decide (zIe w acc=true∧w / 256 % 256<pagesD l):=walkC w acc _ _ ha;rw [hE];refine InlC.of Tryz.func267 rfl (by kernel_rfl) rfl ?_
   simp only [Tryz.ntmps267,St.startI,argT];refine au ?_;intros;apply wr;refine cX (hc) ?_;intros;apply wr
   first|refine .inr ((zB1 j l (by simp [lookO,n1,n2,n3,hj])).mono fun r nx' ob' hp=>?_)|refine (zB1 j l (by simp [lookO,n1,n2,n3,hj])).mono fun r nx' ob' hp=>?_|refine ((zB1 j l (by simp [lookO,n1,n2,n3,hj])).mono fun r nx' ob' hp=>?_).2
   simp only [aftI];obtain ⟨rfl,rfl,rfl⟩:=hp;simp [w0];refine au ?_;intros;apply wr;refine cc1 (hk) @w0 ?_;have m1:¬ 4096≤va:=by omega
   have m2:¬ pagesD l≤root:=by omega
   refine au1 (kX3 @w0 @m1 @m2) ?_;intros;apply wr;refine gF11 (kX2 @m1 @m2) rfl (kX14 @w1 @w2 @w3 @w4 @x1 @x2 @x3 @x6 @hj @n1 @n2 @n3 @n4 @n5) ?_;intros;apply wr;refine zAC rfl (fun hq=>?_) (fun hq=>?_)
   ·rw [hcond] at hq;simp only [Bool.not_eq_true',decide_eq_false_iff_not] at hq;rw [if_neg hq];refine au1 (kX2 @n4 @n5) ?_;intros;apply wr;refine zAA ?_;simp [n4,n5];refine ⟨by omega,fun i hi=>?_⟩
    have r1:¬ i=nx:=by omega
    have r2:¬ i=nx+1+1:=by omega
    simp [lookO,r1,r2]
   rw [hcond] at hq;simp only [Bool.not_eq_false',decide_eq_true_eq] at hq;have w6:IntKind.u32.wrap (w / 256 % 256*128)=w / 256 % 256*128:=u32_in (by omega) (by have:=hq.2;omega)
   have w7:IntKind.u32.wrap (w / 256 % 256*128+va % 128)=w / 256 % 256*128+va % 128:=u32_in (by omega) (by have:=hq.2;omega)
   rw [if_pos hq];refine au1 (kX5 @w5 @w6 @w7 @n4 @n5) ?_;intros;apply wr;refine zAA ?_;simp [n4,n5,hq.1,hq.2];refine ⟨by omega,fun i hi=>?_⟩
   have r1:¬ i=nx:=by omega
   have r2:¬ i=nx+1+1:=by omega
   simp [lookO,r1,r2]
  have hV:zB5 l root va acc=.st [uv 0,uv 0,iv (acc+3)]:=by
   unfold zB5 zD9;rw [if_neg (fun q=>h2 q.2.1)]
  rw [hV];have m1:¬ 4096≤va:=by omega
  have m2:pagesD l≤root:=by omega
  refine InlC.of Tryz.func267 rfl (by kernel_rfl) rfl ?_
  simp only [Tryz.ntmps267,St.startI,argT];refine au ?_;intros;apply wr;refine cX (hc) ?_;intros;apply wr
  first|refine .inr ((zB1 j l (by simp [lookO,n1,n2,n3,hj])).mono fun r nx' ob' hp=>?_)|refine (zB1 j l (by simp [lookO,n1,n2,n3,hj])).mono fun r nx' ob' hp=>?_|refine ((zB1 j l (by simp [lookO,n1,n2,n3,hj])).mono fun r nx' ob' hp=>?_).2
  simp only [aftI];obtain ⟨rfl,rfl,rfl⟩:=hp;simp [w0];refine au ?_;intros;apply wr;refine cZ (hk) @w0 (kX3 @w0 @m1 @m2) ?_;intros;apply wr;refine gT11 (kX2 @m1 @m2) rfl (kX2 @n4 @n5) ?_;intros;apply wr;refine zAA ?_;simp [n4,n5];refine ⟨by omega,fun i hi=>?_⟩
  have r1:¬ i=nx:=by omega
  have r2:¬ i=nx+1+1:=by omega
  simp [lookO,r1,r2]
 have hV:zB5 l root va acc=.st [uv 0,uv 0,iv (acc+3)]:=by
  unfold zB5 zD9;rw [if_neg (fun q=>h1 q.1)]
 rw [hV];have h1':4096≤va:=by omega
 refine InlC.of Tryz.func267 rfl (by kernel_rfl) rfl ?_
 simp only [Tryz.ntmps267,St.startI,argT];refine au ?_;intros;apply wr;refine cX (hc) ?_;intros;apply wr
 first|refine .inr ((zB1 j l (by simp [lookO,n1,n2,n3,hj])).mono fun r nx' ob' hp=>?_)|refine (zB1 j l (by simp [lookO,n1,n2,n3,hj])).mono fun r nx' ob' hp=>?_|refine ((zB1 j l (by simp [lookO,n1,n2,n3,hj])).mono fun r nx' ob' hp=>?_).2
 simp only [aftI];obtain ⟨rfl,rfl,rfl⟩:=hp;simp [w0];refine au ?_;intros;apply wr;refine cZ (hk) @w0 (kX2 @w0 @h1') ?_;intros;apply wr;refine gT11 @h1' rfl (kX2 @n4 @n5) ?_;intros;apply wr;refine zAA ?_;simp [n4,n5];refine ⟨by omega,fun i hi=>?_⟩
 have r1:¬ i=nx:=by omega
 have r2:¬ i=nx+1+1:=by omega
 simp [lookO,r1,r2]
theorem zEQ {nx:Nat} {ob:List (Nat × Option Ob)} (j:Nat) (l:List Int) (e acc:Int) (he:W32 e) (hj:lookO ob j=some (memO l)) (hw:zAT l e 4=true) :
  InlC Tryz.prog 268 [.own j,uv e,iv acc] nx ob fun r nx' ob'=>r=.tup []∧zBm nx ob j (zC8 l e acc) nx' ob':=by
 have hi:=zBM hw he.1;have e1:=zKF he;have e3:=zAN .u32 l;have hW:=zBg (nx:=nx) (ob:=ob) j l e 4 hj (.inr rfl) he;rw [hw] at hW;have e2:=zBU (k:=.u32) (zD8 hi);have g2:∀ h,(ints .u32 l)[(e / 4).toNat]'h=[uv (wAt l (e / 4))]:=fun h=>by rw [zWa h] at e2;simpa using e2
 have e7:(0:Int)≤e / 4:=by have:=he.1;omega
 have e8:e / 4<(l.length:Int):=by omega
 have s1:∀ x,(ints .u32 l).set (e / 4).toNat [uv x]=ints .u32 (l.set (e / 4).toNat x):=fun x=>ints_set .u32 l _ x
 generalize hq:wAt l (e / 4)=w at e2 g2;by_cases ha:acc=3
 ·subst ha;have f1:∀ x,(ints .u32 (l.set (e / 4).toNat x))[(e / 4).toNat]? =some [uv x]:=fun x=>zBU (by rw [List.getElem?_set_self hi])
  have f2:∀ x h,(ints .u32 (l.set (e / 4).toNat x))[(e / 4).toNat]'h=[uv x]:=fun x h=>by have:=f1 x;rw [zWa h] at this;simpa using this
  have f3:∀ x,(ints .u32 (l.set (e / 4).toNat x)).length=l.length:=fun x=>by rw [zAN,List.length_set]
  have f4:∀ x y,(ints .u32 (l.set (e / 4).toNat x)).set (e / 4).toNat [uv y]=ints .u32 (l.set (e / 4).toNat y):=fun x y=>by rw [ints_set,List.set_set]
  refine InlC.of Tryz.func268 rfl (by kernel_rfl) rfl ?_
  simp only [Tryz.ntmps268,St.startI,argT];refine au ?_;intros;apply wr
  first|refine .inr ((hW).mono fun r nx' ob' hp=>?_)|refine (hW).mono fun r nx' ob' hp=>?_|refine ((hW).mono fun r nx' ob' hp=>?_).2
  simp only [aftI];obtain ⟨rfl,rfl,rfl⟩:=hp;simp;refine au ?_;intros;apply wr;refine gF01 rfl (kX6 @hj @e1 @e2 @e3 @g2 @s1) ?_;intros;apply wr;refine gT01 rfl (kX5 @e1 @f1 @f2 @f3 @f4) ?_;intros;apply wr;simp [zC8,zHy,hq,s1,f4];intro i h1 h2;simp [h2]
 refine InlC.of Tryz.func268 rfl (by kernel_rfl) rfl ?_
 simp only [Tryz.ntmps268,St.startI,argT];refine au ?_;intros;apply wr
 first|refine .inr ((hW).mono fun r nx' ob' hp=>?_)|refine (hW).mono fun r nx' ob' hp=>?_|refine ((hW).mono fun r nx' ob' hp=>?_).2
 simp only [aftI];obtain ⟨rfl,rfl,rfl⟩:=hp;simp;refine au ?_;intros;apply wr;refine gF01 rfl (kX6 @hj @e1 @e2 @e3 @g2 @s1) ?_;intros;apply wr;refine gF10 @ha rfl ?_;intros;apply wr;simp [zC8,zHy,hq,ha,s1];intro i h1 h2 h3;exact absurd h3 h2
theorem zKL {l:List Int} {root va acc a e:Int} (hr:W32 root) (hv:W32 va) (h:zD9 l root va acc=some (a,e)):zAT l e 4=true∧W32 e∧W32 a:=by
 unfold zD9 at h;split at h
 ·rename_i hq;have hpg:=zAb l;simp only [zWY,Prod.mk.injEq] at h;obtain ⟨rfl,rfl⟩:=h;obtain ⟨h1,h2,h3,h4⟩:=hq;refine ⟨zGH h2 hr.1 h1 hv.1,?_,?_⟩
  ·have:=hr.1;have:=hv.1;omega
  generalize wAt l ((root*128+va / 128*4) / 4)=w at h4 ⊢;have:=hv.1;omega
 cases h
theorem zDL {nx:Nat} {ob:List (Nat × Option Ob)} (j:Nat) (c:CpuD) (l:List Int) (va size acc:Int) (hC:OkC c) (hv:W32 va) (hs:size=1∨size=4) (ha:acc=1∨acc=2∨acc=3) (hj:lookO ob j=some (memO l)) (hjn:j<nx) :
  InlC Tryz.prog 190 [.st c.row,.own j,uv va,iv size,iv acc] nx ob fun r nx' ob'=>r=.tup [uv (zAF c l va size acc).1,iv (zAF c l va size acc).2.2]∧zBm nx ob j (zAF c l va size acc).2.1 nx' ob':=by
 have n1:¬ j=nx:=by omega
 have n2:¬ nx=j:=by omega
 have hc:zAD Tryz.prog 266 [iv acc] (iv (acc+3)):=by
  have:=zJ1 acc;rcases ha with rfl|rfl|rfl<;>simpa using this
 have hk:zAD Tryz.prog 264 [iv acc] (.bool true):=by
  have:=zJ8 acc;rcases ha with rfl|rfl|rfl<;>simpa using this
 have hpa:=zQR c hC;have e4:=zIp hv.1;have e1:va % 1=0:=by omega
 by_cases hm:va % size=0
 ·cases hp0:zD4 c with
  | false =>
   rw [hp0] at hpa;rcases hs with rfl|rfl
   ·cases hwi:zAT l va 1 with
    | true =>
     have hE:zAF c l va 1 acc=(va,l,0):=by unfold zAF;rw [if_neg (by omega),if_neg (by simp [hp0]),if_pos hwi]
     rw [hE];refine InlC.of Tryz.func190 rfl (by kernel_rfl) rfl ?_
     simp only [Tryz.ntmps190,St.startI,argT];refine au ?_;intros;apply wr;refine cX (hk) ?_;intros;apply wr;refine gF01 rfl (kX3 @u32c @e4 @hm) ?_;intros;apply wr;refine gF00 rfl ?_;intros;apply wr;refine cX (hpa) ?_;intros;apply wr;refine gT00 rfl ?_;intros;apply wr
     first|refine .inr ((zBg j l va 1 (by simp [lookO,n1,hj]) (by omega) hv).mono fun r nx' ob' hp=>?_)|refine (zBg j l va 1 (by simp [lookO,n1,hj]) (by omega) hv).mono fun r nx' ob' hp=>?_|refine ((zBg j l va 1 (by simp [lookO,n1,hj]) (by omega) hv).mono fun r nx' ob' hp=>?_).2
     simp only [aftI];obtain ⟨rfl,rfl,rfl⟩:=hp;simp [hwi];refine au ?_;intros;apply wr;refine gF00 rfl ?_;intros;apply wr;refine zAA ?_;simp [zBm,lookO,n1,hj];refine ⟨by omega,fun i h1 h2=>?_⟩
     first|(intro h3;omega)|(have r1:¬ i=nx:=by omega;simp [r1])
    | false =>
     have hE:zAF c l va 1 acc=(0,l,acc+3):=by unfold zAF;rw [if_neg (by omega),if_neg (by simp [hp0]),if_neg (by simp [hwi])]
     rw [hE];refine InlC.of Tryz.func190 rfl (by kernel_rfl) rfl ?_
     simp only [Tryz.ntmps190,St.startI,argT];refine au ?_;intros;apply wr;refine cX (hk) ?_;intros;apply wr;refine gF01 rfl (kX3 @u32c @e4 @hm) ?_;intros;apply wr;refine gF00 rfl ?_;intros;apply wr;refine cX (hpa) ?_;intros;apply wr;refine gT00 rfl ?_;intros;apply wr
     first|refine .inr ((zBg j l va 1 (by simp [lookO,n1,hj]) (by omega) hv).mono fun r nx' ob' hp=>?_)|refine (zBg j l va 1 (by simp [lookO,n1,hj]) (by omega) hv).mono fun r nx' ob' hp=>?_|refine ((zBg j l va 1 (by simp [lookO,n1,hj]) (by omega) hv).mono fun r nx' ob' hp=>?_).2
     simp only [aftI];obtain ⟨rfl,rfl,rfl⟩:=hp;simp [hwi];refine au ?_;intros;apply wr;refine gT00 rfl ?_;intros;apply wr;refine cX (hc) ?_;intros;apply wr;refine zAA ?_;simp [zBm,lookO,n1,hj];refine ⟨by omega,fun i h1 h2=>?_⟩
     first|(intro h3;omega)|(have r1:¬ i=nx:=by omega;simp [r1])
   cases hwi:zAT l va 4 with
   | true =>
    have hE:zAF c l va 4 acc=(va,l,0):=by unfold zAF;rw [if_neg (by omega),if_neg (by simp [hp0]),if_pos hwi]
    rw [hE];refine InlC.of Tryz.func190 rfl (by kernel_rfl) rfl ?_
    simp only [Tryz.ntmps190,St.startI,argT];refine au ?_;intros;apply wr;refine cX (hk) ?_;intros;apply wr;refine gF01 rfl (kX3 @u32c @e4 @hm) ?_;intros;apply wr;refine gF10 @hm rfl ?_;intros;apply wr;refine cX (hpa) ?_;intros;apply wr;refine gT00 rfl ?_;intros;apply wr
    first|refine .inr ((zBg j l va 4 (by simp [lookO,n1,hj]) (by omega) hv).mono fun r nx' ob' hp=>?_)|refine (zBg j l va 4 (by simp [lookO,n1,hj]) (by omega) hv).mono fun r nx' ob' hp=>?_|refine ((zBg j l va 4 (by simp [lookO,n1,hj]) (by omega) hv).mono fun r nx' ob' hp=>?_).2
    simp only [aftI];obtain ⟨rfl,rfl,rfl⟩:=hp;simp [hwi];refine au ?_;intros;apply wr;refine gF00 rfl ?_;intros;apply wr;refine zAA ?_;simp [zBm,lookO,n1,hj];refine ⟨by omega,fun i h1 h2=>?_⟩
    first|(intro h3;omega)|(have r1:¬ i=nx:=by omega;simp [r1])
   | false =>
    have hE:zAF c l va 4 acc=(0,l,acc+3):=by unfold zAF;rw [if_neg (by omega),if_neg (by simp [hp0]),if_neg (by simp [hwi])]
    rw [hE];refine InlC.of Tryz.func190 rfl (by kernel_rfl) rfl ?_
    simp only [Tryz.ntmps190,St.startI,argT];refine au ?_;intros;apply wr;refine cX (hk) ?_;intros;apply wr;refine gF01 rfl (kX3 @u32c @e4 @hm) ?_;intros;apply wr;refine gF10 @hm rfl ?_;intros;apply wr;refine cX (hpa) ?_;intros;apply wr;refine gT00 rfl ?_;intros;apply wr
    first|refine .inr ((zBg j l va 4 (by simp [lookO,n1,hj]) (by omega) hv).mono fun r nx' ob' hp=>?_)|refine (zBg j l va 4 (by simp [lookO,n1,hj]) (by omega) hv).mono fun r nx' ob' hp=>?_|refine ((zBg j l va 4 (by simp [lookO,n1,hj]) (by omega) hv).mono fun r nx' ob' hp=>?_).2
    simp only [aftI];obtain ⟨rfl,rfl,rfl⟩:=hp;simp [hwi];refine au ?_;intros;apply wr;refine gT00 rfl ?_;intros;apply wr;refine cX (hc) ?_;intros;apply wr;refine zAA ?_;simp [zBm,lookO,n1,hj];refine ⟨by omega,fun i h1 h2=>?_⟩
    first|(intro h3;omega)|(have r1:¬ i=nx:=by omega;simp [r1])
  | true =>
   rw [hp0] at hpa;rcases hs with rfl|rfl
   ·cases hwk:zD9 l (c.csr 6) va acc with
    | none =>
     have hE:zAF c l va 1 acc=(0,l,acc+3):=by unfold zAF;rw [if_neg (by omega),if_pos hp0,hwk]
     have hV:zB5 l (c.csr 6) va acc=.st [uv 0,uv 0,iv (acc+3)]:=by unfold zB5;rw [hwk]
     have hne:¬ acc+3=0:=by omega
     rw [hE];refine InlC.of Tryz.func190 rfl (by kernel_rfl) rfl ?_
     simp only [Tryz.ntmps190,St.startI,argT];refine au ?_;intros;apply wr;refine cX (hk) ?_;intros;apply wr;refine gF01 rfl (kX3 @u32c @e4 @hm) ?_;intros;apply wr;refine gF00 rfl ?_;intros;apply wr;refine cX (hpa) ?_;intros;apply wr;refine gF00 rfl ?_;intros;apply wr
     first|refine .inr ((zDj j l (c.csr 6) va acc (hC.csr 6) hv ha (by simp [lookO,n1,hj]) (by omega)).mono fun r nx' ob' hp=>?_)|refine (zDj j l (c.csr 6) va acc (hC.csr 6) hv ha (by simp [lookO,n1,hj]) (by omega)).mono fun r nx' ob' hp=>?_|refine ((zDj j l (c.csr 6) va acc (hC.csr 6) hv ha (by simp [lookO,n1,hj]) (by omega)).mono fun r nx' ob' hp=>?_).2
     simp only [aftI];obtain ⟨rfl,g1,g2⟩:=hp;have c1:=g2 nx (by omega)
     have c2:=g2 j (by omega)
     simp [lookO] at c1;simp [lookO,n1,hj] at c2;have m1:¬ j=nx':=by omega
     have m2:¬ nx=nx':=by omega
     have m3:¬ nx'=nx:=by omega
     have m4:¬ nx'=j:=by omega
     simp [hV];refine au ?_;intros;apply wr;refine gT10 @hne rfl ?_;intros;apply wr;refine zAG 4 [0,1,0,7] [(3,([[],[0],[]],[])),(1,([],[]))] ?_;refine af ?_;intros;apply wr;refine af ?_;intros;apply wr;refine zAA ?_;simp [zBm];exact ⟨by omega,by simp [lookO,m1,c2],fun i h1 h2=>by
      have r1:¬ i=nx':=by omega
      have r2:¬ i=nx:=by omega
      simp [lookO,r1,g2 i (by omega),r2]⟩
    | some p =>
     obtain ⟨a,e⟩:=p;have hE:zAF c l va 1 acc=(a,zC8 l e acc,0):=by unfold zAF;rw [if_neg (by omega),if_pos hp0,hwk]
     have hV:zB5 l (c.csr 6) va acc=.st [uv a,uv e,iv 0]:=by unfold zB5;rw [hwk]
     obtain ⟨q1,q2,q3⟩:=zKL (hC.csr 6) hv hwk;rw [hE];refine InlC.of Tryz.func190 rfl (by kernel_rfl) rfl ?_
     simp only [Tryz.ntmps190,St.startI,argT];refine af ?_;intros;apply wr;refine cXf (hk) ?_;intros;apply wr;refine zIG rfl (kX3 @u32c @e4 @hm) ?_;intros;apply wr;refine zBE rfl ?_;intros;apply wr;refine cXf (hpa) ?_;intros;apply wr;refine zBE rfl ?_;intros;apply wr
     first|refine .inr ((zDj j l (c.csr 6) va acc (hC.csr 6) hv ha (by simp [lookO,n1,hj]) (by omega)).mono fun r nx' ob' hp=>?_)|refine (zDj j l (c.csr 6) va acc (hC.csr 6) hv ha (by simp [lookO,n1,hj]) (by omega)).mono fun r nx' ob' hp=>?_|refine ((zDj j l (c.csr 6) va acc (hC.csr 6) hv ha (by simp [lookO,n1,hj]) (by omega)).mono fun r nx' ob' hp=>?_).2
     simp only [aftI];obtain ⟨rfl,g1,g2⟩:=hp;have c1:=g2 nx (by omega)
     have c2:=g2 j (by omega)
     simp [lookO] at c1;simp [lookO,n1,hj] at c2;have m1:¬ j=nx':=by omega
     have m2:¬ nx=nx':=by omega
     have m3:¬ nx'=nx:=by omega
     have m4:¬ nx'=j:=by omega
     simp [hV];refine af ?_;intros;apply wr;refine zBE rfl ?_;intros;apply wr;obtain ⟨na,rfl⟩:∃ na,na=nx':=⟨_,rfl⟩;obtain ⟨oa,rfl⟩:∃ oa,oa=ob':=⟨_,rfl⟩
     first|refine .inr ((zEQ j l e acc q2 (by simp [lookO,m1,c2]) q1).mono fun r nx' ob' hp=>?_)|refine (zEQ j l e acc q2 (by simp [lookO,m1,c2]) q1).mono fun r nx' ob' hp=>?_|refine ((zEQ j l e acc q2 (by simp [lookO,m1,c2]) q1).mono fun r nx' ob' hp=>?_).2
     simp only [aftI];obtain ⟨rfl,k1,k2,k3⟩:=hp;have c3:=k3 na (by omega) (fun h=>m4 h)
     simp [lookO] at c3;simp [c3];refine af1 @c3 ?_;intros;apply wr;refine zAA ?_;simp [zBm];exact ⟨by omega,k2,fun i h1 h2=>by
      have r1:¬ i=na:=by omega
      have r2:¬ i=nx:=by omega
      rw [k3 i (by omega) h2]
      simp [lookO,r1,g2 i (by omega),r2]⟩
   cases hwk:zD9 l (c.csr 6) va acc with
   | none =>
    have hE:zAF c l va 4 acc=(0,l,acc+3):=by unfold zAF;rw [if_neg (by omega),if_pos hp0,hwk]
    have hV:zB5 l (c.csr 6) va acc=.st [uv 0,uv 0,iv (acc+3)]:=by unfold zB5;rw [hwk]
    have hne:¬ acc+3=0:=by omega
    rw [hE];refine InlC.of Tryz.func190 rfl (by kernel_rfl) rfl ?_
    simp only [Tryz.ntmps190,St.startI,argT];refine af ?_;intros;apply wr;refine cXf (hk) ?_;intros;apply wr;refine zIG rfl (kX3 @u32c @e4 @hm) ?_;intros;apply wr;refine zAi @hm rfl ?_;intros;apply wr;refine cXf (hpa) ?_;intros;apply wr;refine zBE rfl ?_;intros;apply wr
    first|refine .inr ((zDj j l (c.csr 6) va acc (hC.csr 6) hv ha (by simp [lookO,n1,hj]) (by omega)).mono fun r nx' ob' hp=>?_)|refine (zDj j l (c.csr 6) va acc (hC.csr 6) hv ha (by simp [lookO,n1,hj]) (by omega)).mono fun r nx' ob' hp=>?_|refine ((zDj j l (c.csr 6) va acc (hC.csr 6) hv ha (by simp [lookO,n1,hj]) (by omega)).mono fun r nx' ob' hp=>?_).2
    simp only [aftI];obtain ⟨rfl,g1,g2⟩:=hp;have c1:=g2 nx (by omega)
    have c2:=g2 j (by omega)
    simp [lookO] at c1;simp [lookO,n1,hj] at c2;have m1:¬ j=nx':=by omega
    have m2:¬ nx=nx':=by omega
    have m3:¬ nx'=nx:=by omega
    have m4:¬ nx'=j:=by omega
    simp [hV];refine af ?_;intros;apply wr;refine zDl @hne rfl ?_;intros;apply wr;refine zAG 4 [0,1,0,7] [(3,([[],[0],[]],[])),(1,([],[]))] ?_;refine af ?_;intros;apply wr;refine af ?_;intros;apply wr;refine zAA ?_;simp [zBm];exact ⟨by omega,by simp [lookO,m1,c2],fun i h1 h2=>by
     have r1:¬ i=nx':=by omega
     have r2:¬ i=nx:=by omega
     simp [lookO,r1,g2 i (by omega),r2]⟩
   | some p =>
    obtain ⟨a,e⟩:=p;have hE:zAF c l va 4 acc=(a,zC8 l e acc,0):=by unfold zAF;rw [if_neg (by omega),if_pos hp0,hwk]
    have hV:zB5 l (c.csr 6) va acc=.st [uv a,uv e,iv 0]:=by unfold zB5;rw [hwk]
    obtain ⟨q1,q2,q3⟩:=zKL (hC.csr 6) hv hwk;rw [hE];refine InlC.of Tryz.func190 rfl (by kernel_rfl) rfl ?_
    simp only [Tryz.ntmps190,St.startI,argT];refine af ?_;intros;apply wr;refine cXf (hk) ?_;intros;apply wr;refine zIG rfl (kX3 @u32c @e4 @hm) ?_;intros;apply wr;refine zAi @hm rfl ?_;intros;apply wr;refine cXf (hpa) ?_;intros;apply wr;refine zBE rfl ?_;intros;apply wr
    first|refine .inr ((zDj j l (c.csr 6) va acc (hC.csr 6) hv ha (by simp [lookO,n1,hj]) (by omega)).mono fun r nx' ob' hp=>?_)|refine (zDj j l (c.csr 6) va acc (hC.csr 6) hv ha (by simp [lookO,n1,hj]) (by omega)).mono fun r nx' ob' hp=>?_|refine ((zDj j l (c.csr 6) va acc (hC.csr 6) hv ha (by simp [lookO,n1,hj]) (by omega)).mono fun r nx' ob' hp=>?_).2
    simp only [aftI];obtain ⟨rfl,g1,g2⟩:=hp;have c1:=g2 nx (by omega)
    have c2:=g2 j (by omega)
    simp [lookO] at c1;simp [lookO,n1,hj] at c2;have m1:¬ j=nx':=by omega
    have m2:¬ nx=nx':=by omega
    have m3:¬ nx'=nx:=by omega
    have m4:¬ nx'=j:=by omega
    simp [hV];refine af ?_;intros;apply wr;refine zBE rfl ?_;intros;apply wr;obtain ⟨na,rfl⟩:∃ na,na=nx':=⟨_,rfl⟩;obtain ⟨oa,rfl⟩:∃ oa,oa=ob':=⟨_,rfl⟩
    first|refine .inr ((zEQ j l e acc q2 (by simp [lookO,m1,c2]) q1).mono fun r nx' ob' hp=>?_)|refine (zEQ j l e acc q2 (by simp [lookO,m1,c2]) q1).mono fun r nx' ob' hp=>?_|refine ((zEQ j l e acc q2 (by simp [lookO,m1,c2]) q1).mono fun r nx' ob' hp=>?_).2
    simp only [aftI];obtain ⟨rfl,k1,k2,k3⟩:=hp;have c3:=k3 na (by omega) (fun h=>m4 h)
    simp [lookO] at c3;simp [c3];refine af1 @c3 ?_;intros;apply wr;refine zAA ?_;simp [zBm];exact ⟨by omega,k2,fun i h1 h2=>by
     have r1:¬ i=na:=by omega
     have r2:¬ i=nx:=by omega
     rw [k3 i (by omega) h2]
     simp [lookO,r1,g2 i (by omega),r2]⟩
 have hE:zAF c l va size acc=(0,l,3):=by unfold zAF;rw [if_pos hm]
 have h4:size=4:=by rcases hs with rfl|rfl<;>omega
 subst h4;rw [hE];refine InlC.of Tryz.func190 rfl (by kernel_rfl) rfl ?_
 simp only [Tryz.ntmps190,St.startI,argT];refine af ?_;intros;apply wr;refine cXf (hk) ?_;intros;apply wr;refine zIG rfl (kX2 @u32c @e4) ?_;intros;apply wr;refine zDl @hm rfl ?_;intros;apply wr;refine zAA ?_;simp [zBm,lookO,n1,hj];refine ⟨by omega,fun i h1 h2=>?_⟩
 first|(intro h3;omega)|(have r1:¬ i=nx:=by omega;simp [r1])
end Go.Proofs.YtoondlebmacanaaGreat
end
