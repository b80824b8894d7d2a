/- A part of the proof of ReplicaHalts. -/
import Derived.Test.YthjpcmecgjfilaaGreatH06
import Derived.Test.YthjpcmecgjfilaaGreatH17
import Derived.Test.YthjpcmecgjfilaaGreatH18
import Derived.Test.YthjpcmecgjfilaaGreatH21
set_option linter.unusedSimpArgs false
set_option linter.unusedVariables false
set_option maxHeartbeats 16000000
set_option maxRecDepth 100000
section
namespace Go.Proofs.YthjpcmecgjfilaaGreat
open Go.Ab Go.RowKit Tryz
theorem zIv (b:Bool):zAD prog 272 [.bool b] (uv (b2w b)):=by
 refine sZ func272 ntmps272 ?_;exact wx1 trivial trivial @b2w.eq_1
theorem zPx (a:Int):zAD prog 273 [iv a] (.bool (decide (1<=a)&&decide (a<=3))):=by
 refine sZ func273 ntmps273 ?_;exact wx trivial trivial
theorem zPn (a:Int):zAD prog 275 [iv a] (iv (if a=1 then 4 else if a=3 then 6 else 5)):=by
 refine sZ func275 ntmps275 ?_;exact wx trivial trivial
theorem iand5 {x:Int} (h:0<=x/\x<=31):decide (iand .u32 x 5=4)=(decide (x % 2=0)&&decide (x / 4 % 2=1)):=by
 have e:∀ k:Fin 32,decide (iand .u32 (k.val:Int) 5=4)=(decide ((k.val:Int) % 2=0)&&decide ((k.val:Int) / 4 % 2=1)):=by decide
 have:=e ⟨x.toNat,by omega⟩
 rwa [show ((⟨x.toNat,by omega⟩:Fin 32).val:Int)=x by simp;omega] at this
theorem zP2 (c:CpuD) (h:OkC c):zAD prog 274 [.st c.row] (.bool (zDU c)):=by
 have e:=iand5 ⟨(h.csr 0).1,h.s⟩;refine sZ func274 ntmps274 ?_;exact wx1 trivial trivial (kX2 @e @zDU.eq_1)
theorem zP6 (op a b:Int):zAD prog 280 [iv op,uv a,uv b] (.bool (zEw op a b)):=by
 refine sZ func280 ntmps280 ?_;exact wx1 trivial trivial @zEw.eq_1
theorem zSX (op:Int):zAD prog 214 [iv op] (.bool (zLK op)):=by
 refine sZ func214 ntmps214 ?_;exact wx1 trivial trivial @zLK.eq_1
def zIB (op:Int):Int:=if op=16 then 1 else if op=17 then 3 else if op=18 then 4 else if op=19 then 5 else if op=20 then 6 else if op=21 then 7 else if op=22 then 8 else if op=23 then 12 else op
theorem zEs (op:Int):zAD prog 282 [iv op] (iv (zIB op)):=by
 refine sZ func282 ntmps282 ?_;exact wx1 trivial trivial @zIB.eq_1
theorem zFV (c:CpuD) (r v:Int) (h0:0<=r) (h1:r<=15):zAD prog 171 [.st c.row,iv r,uv v] (.st (c.setR r v).row):=by
 have e:=zPr c v h0 h1;by_cases hr:r=0
 ·subst hr;refine sZ func171 ntmps171 ?_;exact wx1 trivial trivial @CpuD.setR.eq_1
 refine sZ func171 ntmps171 ?_;exact wx1 trivial trivial (kX3 @e @CpuD.setR.eq_1 @hr)
theorem zQD (c:CpuD) (k v:Int) (h0:0<=k) (h1:k<=7):zAD prog 279 [.st c.row,iv k,uv v] (.st (zBG c k v).row):=by
 have hk:k=0\/k=1\/k=2\/k=3\/k=4\/k=5\/k=6\/k=7:=by omega
 rcases hk with rfl|rfl|rfl|rfl|rfl|rfl|rfl|rfl
 ·refine sZ func279 ntmps279 ?_;exact wx1 trivial trivial (kX2 @zBG.eq_1 @CpuD.setS.eq_1)
 ·refine sZ func279 ntmps279 ?_;exact wx1 trivial trivial (kX2 @zBG.eq_1 @CpuD.setS.eq_1)
 ·refine sZ func279 ntmps279 ?_;exact wx1 trivial trivial (kX2 @zBG.eq_1 @CpuD.setS.eq_1)
 ·refine sZ func279 ntmps279 ?_;exact wx1 trivial trivial (kX2 @zBG.eq_1 @CpuD.setS.eq_1)
 ·refine sZ func279 ntmps279 ?_;exact wx1 trivial trivial (kX2 @zBG.eq_1 @CpuD.setS.eq_1)
 ·refine sZ func279 ntmps279 ?_;exact wx1 trivial trivial (kX2 @zBG.eq_1 @CpuD.setS.eq_1)
 ·refine sZ func279 ntmps279 ?_;exact wx1 trivial trivial (kX2 @zBG.eq_1 @CpuD.setS.eq_1)
 refine sZ func279 ntmps279 ?_;exact wx1 trivial trivial (kX2 @zBG.eq_1 @CpuD.setS.eq_1)
theorem zVR {s:Int} (h0:0<=s) (h1:s<=31):ior .u32 (zCi .u32 (ior .u32 (ior .u32 (zCi .u32 s 24) (IntKind.u32.wrap (8*b2w (!decide (iand .u32 s 1=0))))) (IntKind.u32.wrap (16*b2w (!decide (iand .u32 s 2=0))))) 2) 1=zKU s:=by
 have e:∀ k:Fin 32,ior .u32 (zCi .u32 (ior .u32 (ior .u32 (zCi .u32 (k.val:Int) 24) (IntKind.u32.wrap (8*b2w (!decide (iand .u32 (k.val:Int) 1=0))))) (IntKind.u32.wrap (16*b2w (!decide (iand .u32 (k.val:Int) 2=0))))) 2) 1=zKU (k.val:Int):=by decide
 have:=e ⟨s.toNat,by omega⟩
 rwa [show ((⟨s.toNat,by omega⟩:Fin 32).val:Int)=s by simp;omega] at this
theorem rret_s {s:Int} (h0:0<=s) (h1:s<=31):ior .u32 (ior .u32 (zCi .u32 s 3) (IntKind.u32.wrap (1*b2w (!decide (iand .u32 s 8=0))))) (IntKind.u32.wrap (2*b2w (!decide (iand .u32 s 16=0))))=retS s:=by
 have e:∀ k:Fin 32,ior .u32 (ior .u32 (zCi .u32 (k.val:Int) 3) (IntKind.u32.wrap (1*b2w (!decide (iand .u32 (k.val:Int) 8=0))))) (IntKind.u32.wrap (2*b2w (!decide (iand .u32 (k.val:Int) 16=0))))=retS (k.val:Int):=by decide
 have:=e ⟨s.toNat,by omega⟩
 rwa [show ((⟨s.toNat,by omega⟩:Fin 32).val:Int)=s by simp;omega] at this
theorem zCQ (c:CpuD) (cause bad:Int) (h:OkC c):zAD prog 211 [.st c.row,iv cause,uv bad] (.st (zBF c cause bad).row):=by
 have e:=zVR (h.csr 0).1 h.s;refine sZ func211 ntmps211 ?_;exact wx1 (qX2 (zIv (!decide (iand .u32 (c.csr 0) 1=0))) (zIv (!decide (iand .u32 (c.csr 0) 2=0)))) trivial (kX2 @e @zBF.eq_1)
theorem zNp (c:CpuD) (h:OkC c):zAD prog 278 [.st c.row] (.st (retD c).row):=by
 have e:=rret_s (h.csr 0).1 h.s;refine sZ func278 ntmps278 ?_;exact wx1 (qX2 (zIv (!decide (iand .u32 (c.csr 0) 8=0))) (zIv (!decide (iand .u32 (c.csr 0) 16=0)))) trivial (kX2 @e @retD.eq_1)
@[simp] theorem shl8:IntKind.u32.wrap (4294967295*2 ^ (min (8:Int).toNat 32))=4294967040:=by decide
theorem zNs (l:List Int) (a s:Int) (hs:s=1\/s=4) (ha:W32 a):zAD prog 212 [memV l,uv a,iv s] (.bool (zAR l a s)):=by
 have hp:=zAf l;have e1:IntKind.i64.wrap (128*pagesD l)=128*pagesD l:=zAA (by omega) (by omega)
 have e2:IntKind.u32.wrap (128*pagesD l)=128*pagesD l:=u32_in (by omega) (by omega)
 have e5:=zKS ha.1;rcases hs with rfl|rfl
 ·have e6:zAR l a 1=decide (a<128*pagesD l):=by
   have:(a+1<=pagesD l*128)=(a<128*pagesD l):=by apply propext;omega
   unfold zAR;simp [this]
  refine sZ func212 ntmps212 ?_;exact wx1 (qX1 (zDp l)) trivial (kX6 @e1 @e2 @e5 @e6 @u32c @u64c)
 have e6:zAR l a 4=(decide (a % 4=0)&&decide (a<128*pagesD l)):=by
  unfold zAR;by_cases h4:a % 4=0
  ·have:(a+4<=pagesD l*128)=(a<128*pagesD l):=by apply propext;omega
   simp [h4,this]
  simp [h4]
 refine sX func212 ntmps212 ?_;intros;apply wr;refine gF01 rfl (kX6 @e1 @e2 @e5 @e6 @u32c @u64c) ?_;intros;apply wr
 first|refine zA9 (zDp l) rfl (fun hgd=>?_) (by simp [obsL]) ?_|refine zAq (zDp l) rfl (by simp) (fun hgd=>?_) (by simp [obsL]) ?_
 all_goals simp
 all_goals (try (first|exact hgd|(simp at hgd;first|done|assumption|grind)))
 refine au1 (kX6 @e1 @e2 @e5 @e6 @u32c @u64c) ?_;intros;apply wr;refine zAB ?_;simp [e1,e2,e5,e6];rfl
theorem zSR (l:List Int) (a s:Int) (hs:s=1\/s=4) (ha:W32 a):zAD prog 167 [memV l,uv a,iv s] (.tup [uv (if zAR l a s=true then zBl l a s else 0),.bool (zAR l a s)]):=by
 have hW:=zNs l a s hs ha;cases hw:zAR l a s with
 | false =>
  rw [hw] at hW;refine sZ func167 ntmps167 ?_;exact wx (qX1 (hW)) trivial
 | true =>
  rw [hw] at hW;have hi:=zCZ hw ha.1;have e1:=zQQ ha;obtain ⟨w,hw'⟩:∃ w,w=wAt l (a / 4):=⟨_,rfl⟩;have e2:=zCt (k:=.u32) (zHO hi);rw [<- hw'] at e2;have hw2:=hw'.symm;have e3:=zAN .u32 l;have e4:=zKS ha.1;have e5:IntKind.u32.wrap (8*(a % 4))=8*(a % 4):=u32_in (by omega) (by omega)
  have e6:w.fdiv (2 ^ min (8*(a % 4)).toNat 32)=w / 2 ^ (8*(a % 4)).toNat:=by
   rw [Nat.min_eq_left (by omega),zWC _ (Int.le_of_lt (Int.pow_pos (by decide)))]
  have e7:(0:Int)<=a / 4:=by have:=ha.1;omega
  have e8:a / 4<(l.length:Int):=by omega
  have e9:w / 2 ^ (8*(a % 4)).toNat % 256=byteAt w (a % 4):=rfl;rcases hs with rfl|rfl
  ·refine sZ func167 ntmps167 ?_;exact wx1 (qX1 (hW)) trivial (kX10 @e1 @e2 @e3 @e4 @e5 @e6 @e9 @zBz @zBl.eq_1 @hw2)
  refine sZ func167 ntmps167 ?_;exact wx1 (qX1 (hW)) trivial (kX6 @e1 @e2 @e3 @e4 @zBl.eq_1 @hw2)
theorem zSI (a b:Int) (ha:W32 a) (hb:W32 b):zAD prog 218 [iv 1,uv a,uv b] (.tup [uv (uw (a+b)),.bool true]):=by
 obtain ⟨e0,e1,e2,e3,e4,e5⟩:=alF a b;have hpl:zAD prog 282 [iv 1] (iv 1):=by have:=zEs 1;simpa [zIB] using this
 refine sZ func218 ntmps218 ?_;exact wx1 (qX1 (hpl)) trivial (kX2 @e0 @e0)
theorem zPk (a b:Int) (ha:W32 a) (hb:W32 b):zAD prog 218 [iv 16,uv a,uv b] (.tup [uv (uw (a+b)),.bool true]):=by
 obtain ⟨e0,e1,e2,e3,e4,e5⟩:=alF a b;have hpl:zAD prog 282 [iv 16] (iv 1):=by have:=zEs 16;simpa [zIB] using this
 refine sZ func218 ntmps218 ?_;exact wx1 (qX1 (hpl)) trivial (kX2 @e0 @e0)
theorem zPl (a b:Int) (ha:W32 a) (hb:W32 b):zAD prog 218 [iv 18,uv a,uv b] (.tup [uv (ior .u32 a b),.bool true]):=by
 obtain ⟨e0,e1,e2,e3,e4,e5⟩:=alF a b;have hpl:zAD prog 282 [iv 18] (iv 4):=by have:=zEs 18;simpa [zIB] using this
 refine sZ func218 ntmps218 ?_;exact wx1 (qX1 (hpl)) trivial (kX2 @e0 @e0)
theorem zPm (a b:Int) (ha:W32 a) (hb:W32 b):zAD prog 218 [iv 20,uv a,uv b] (.tup [uv (uw (a*2 ^ (b % 32).toNat)),.bool true]):=by
 obtain ⟨e0,e1,e2,e3,e4,e5⟩:=alF a b;have hpl:zAD prog 282 [iv 20] (iv 6):=by have:=zEs 20;simpa [zIB] using this
 refine sZ func218 ntmps218 ?_;exact wx1 (qX1 (hpl)) trivial (kX3 @e0 @e0 @e3)
theorem zIu (op a b:Int) (ha:W32 a) (hb:W32 b) (h:op=1\/op=16\/op=18\/op=20):zAD prog 218 [iv op,uv a,uv b] (.tup [uv ((aluD op a b).getD 0),.bool true]):=by
 rcases h with rfl|rfl|rfl|rfl
 ·exact zSI a b ha hb
 ·exact zPk a b ha hb
 ·exact zPl a b ha hb
 exact zPm a b ha hb
theorem zSu (n:Int):IntKind.i16.wrap n=(n+32768) % 65536-32768:=by
 simp only [IntKind.wrap,IntKind.bits,IntKind.signed];have e1:(2:Int) ^ 16=65536:=by decide
 have e2:(2:Int) ^ (16-1)=32768:=by decide
 simp only [e1,e2,Bool.true_and,decide_eq_true_eq];split<;>omega
theorem zD8 (w:Int) (hw:W32 w):zAD prog 168 [uv w] (decV w):=by
 have e1:w.fdiv 16777216=w / 16777216 % 256:=by rw [zBx];have:=hw.1;have:=hw.2;omega
 have e2:iand .u32 (w.fdiv 1048576) 15=w / 1048576 % 16:=by
  rw [zWC _ (by decide)];exact zBJ (w / 1048576) 4 16 (by omega) (by decide)
 have e3:iand .u32 (w.fdiv 65536) 15=w / 65536 % 16:=by
  rw [zWC _ (by decide)];exact zBJ (w / 65536) 4 16 (by omega) (by decide)
 have e4:iand .u32 w 65535=w % 65536:=zBJ w 16 65536 (by omega) (by decide)
 have c1:IntKind.i64.wrap (w / 16777216 % 256)=w / 16777216 % 256:=zAA (by omega) (by omega)
 have c2:IntKind.i64.wrap (w / 1048576 % 16)=w / 1048576 % 16:=zAA (by omega) (by omega)
 have c3:IntKind.i64.wrap (w / 65536 % 16)=w / 65536 % 16:=zAA (by omega) (by omega)
 have c4:IntKind.i64.wrap (w % 65536)=w % 65536:=zAA (by omega) (by omega)
 have c5:IntKind.i32.wrap (w % 65536)=w % 65536:=by rw [IntKind.wrap_i32];omega
 have c6:IntKind.i16.wrap (w % 65536)=sext (w % 65536):=by rw [zSu];unfold sext;split<;>omega
 have c7:IntKind.i32.wrap (sext (w % 65536))=sext (w % 65536):=by rw [IntKind.wrap_i32];unfold sext;split<;>omega
 refine sY func168 ntmps168 (kX6 @e1 @e2 @e3 @c1 @c2 @c3) ?_;intros;apply wr;refine cX (zGf (w / 16777216 % 256)) ?_;intros;apply wr;by_cases e0:zAH (w / 16777216 % 256)=0
 ·have hv:validD (decI w)=false:=by simp [validD,decI,e0]
  refine gT10 @e0 rfl ?_;intros;apply wr;refine zAI ?_;refine zAB ?_;simp [hv,zDv]
 refine gF10 @e0 rfl ?_;intros;apply wr;by_cases e2:zAH (w / 16777216 % 256)=2
 ·have hd:decI w=⟨w / 16777216 % 256,w / 1048576 % 16,w / 65536 % 16,w % 65536,0⟩:=by simp [decI,e2]
  refine gT11 @e2 rfl (kX2 @e4 @c4) ?_;intros;apply wr;have hi:-2147483648<=((⟨w / 16777216 % 256,w / 1048576 % 16,w / 65536 % 16,w % 65536,0⟩:InstD)).imm/\((⟨w / 16777216 % 256,w / 1048576 % 16,w / 65536 % 16,w % 65536,0⟩:InstD)).imm<=2147483647:=by simp only [sext];omega
  refine cc (zDt (⟨w / 16777216 % 256,w / 1048576 % 16,w / 65536 % 16,w % 65536,0⟩:InstD) hi) ?_;cases hv:validD (⟨w / 16777216 % 256,w / 1048576 % 16,w / 65536 % 16,w % 65536,0⟩:InstD) with
  | false =>
   refine au ?_;intros;apply wr;refine gT00 rfl ?_;intros;apply wr;refine zAI ?_;refine zAB ?_;simp [hd,hv,zDv]
  | true =>
   refine au ?_;intros;apply wr;refine gF00 rfl ?_;intros;apply wr;refine zAI ?_;refine zAB ?_;simp [hd,hv,zDv]
 refine gF10 @e2 rfl ?_;intros;apply wr;by_cases e3:zAH (w / 16777216 % 256)=3
 ·have hd:decI w=⟨w / 16777216 % 256,w / 1048576 % 16,w / 65536 % 16,0,sext (w % 65536)⟩:=by simp [decI,e3]
  refine gT10 @e3 rfl ?_;intros;apply wr;refine gT11 @e3 rfl (kX3 @e4 @c6 @c7) ?_;intros;apply wr;have hi:-2147483648<=((⟨w / 16777216 % 256,w / 1048576 % 16,w / 65536 % 16,0,sext (w % 65536)⟩:InstD)).imm/\((⟨w / 16777216 % 256,w / 1048576 % 16,w / 65536 % 16,0,sext (w % 65536)⟩:InstD)).imm<=2147483647:=by simp only [sext];omega
  refine cc (zDt (⟨w / 16777216 % 256,w / 1048576 % 16,w / 65536 % 16,0,sext (w % 65536)⟩:InstD) hi) ?_;cases hv:validD (⟨w / 16777216 % 256,w / 1048576 % 16,w / 65536 % 16,0,sext (w % 65536)⟩:InstD) with
  | false =>
   refine au ?_;intros;apply wr;refine gT00 rfl ?_;intros;apply wr;refine zAI ?_;refine zAB ?_;simp [hd,hv,zDv]
  | true =>
   refine au ?_;intros;apply wr;refine gF00 rfl ?_;intros;apply wr;refine zAI ?_;refine zAB ?_;simp [hd,hv,zDv]
 refine gF10 @e3 rfl ?_;intros;apply wr;by_cases e7:zAH (w / 16777216 % 256)=7
 ·have hd:decI w=⟨w / 16777216 % 256,w / 1048576 % 16,w / 65536 % 16,0,sext (w % 65536)⟩:=by simp [decI,e7]
  refine gT11 @e7 rfl (kX3 @e4 @c6 @c7) ?_;intros;apply wr;have hi:-2147483648<=((⟨w / 16777216 % 256,w / 1048576 % 16,w / 65536 % 16,0,sext (w % 65536)⟩:InstD)).imm/\((⟨w / 16777216 % 256,w / 1048576 % 16,w / 65536 % 16,0,sext (w % 65536)⟩:InstD)).imm<=2147483647:=by simp only [sext];omega
  refine cc (zDt (⟨w / 16777216 % 256,w / 1048576 % 16,w / 65536 % 16,0,sext (w % 65536)⟩:InstD) hi) ?_;cases hv:validD (⟨w / 16777216 % 256,w / 1048576 % 16,w / 65536 % 16,0,sext (w % 65536)⟩:InstD) with
  | false =>
   refine au ?_;intros;apply wr;refine gT00 rfl ?_;intros;apply wr;refine zAI ?_;refine zAB ?_;simp [hd,hv,zDv]
  | true =>
   refine au ?_;intros;apply wr;refine gF00 rfl ?_;intros;apply wr;refine zAI ?_;refine zAB ?_;simp [hd,hv,zDv]
 refine cF1 @e7 rfl ?_;have hd:decI w=⟨w / 16777216 % 256,w / 1048576 % 16,w / 65536 % 16,0,w % 65536⟩:=by simp [decI,e2,e3,e7]
 refine au1 (kX2 @e4 @c5) ?_;intros;apply wr;have hi:-2147483648<=((⟨w / 16777216 % 256,w / 1048576 % 16,w / 65536 % 16,0,w % 65536⟩:InstD)).imm/\((⟨w / 16777216 % 256,w / 1048576 % 16,w / 65536 % 16,0,w % 65536⟩:InstD)).imm<=2147483647:=by simp only [sext];omega
 refine cc (zDt (⟨w / 16777216 % 256,w / 1048576 % 16,w / 65536 % 16,0,w % 65536⟩:InstD) hi) ?_;cases hv:validD (⟨w / 16777216 % 256,w / 1048576 % 16,w / 65536 % 16,0,w % 65536⟩:InstD) with
 | false =>
  refine au ?_;intros;apply wr;refine gT00 rfl ?_;intros;apply wr;refine zAI ?_;refine zAB ?_;simp [hd,hv,zDv]
 | true =>
  refine au ?_;intros;apply wr;refine gF00 rfl ?_;intros;apply wr;refine zAI ?_;refine zAB ?_;simp [hd,hv,zDv]
abbrev memO (l:List Int):Ob:=⟨25,1,false,false,ints .u32 l⟩
theorem zI1 {nx:Nat} {ob:List (Nat × Option Ob)} (j:Nat) (l:List Int) (a v:Int) (ha:W32 a) (hj:lookO ob j=some (memO l)) (hi:(a / 4).toNat<l.length) :
  InlC prog 198 [.own j,uv a,iv 4,uv v] nx ob fun r nx' ob'=>r=.tup []/\nx'=nx/\ob'=(j,some (memO (zCp l a 4 v)))::ob:=by
 have e1:=zQQ ha;have e3:=zAN .u32 l;have e7:(0:Int)<=a / 4:=by have:=ha.1;omega
 have e8:a / 4<(l.length:Int):=by omega
 refine InlC.of func198 rfl (by kernel_rfl) rfl ?_
 simp only [ntmps198,St.startI,argT];refine au1 (kX2 @hj @e1) ?_;intros;apply wr;refine cT0 rfl ?_;have e2:=zCt (k:=.u32) (zHO hi);have g2:∀ h,(ints .u32 l)[(a / 4).toNat]'h=[uv (wAt l (a / 4))]:=fun h=>by rw [zV3 h] at e2;simpa using e2
 refine au1 (kX6 @hj @e1 @e3 @e2 @g2 @ints_set) ?_;intros;apply wr;refine zAB ?_;simp [zCp,ints_set]
def zFq (nx:Nat) (ob:List (Nat × Option Ob)) (j:Nat) (l:List Int) (nx':Nat) (ob':List (Nat × Option Ob)):Prop :=
 nx<=nx'/\lookO ob' j=some (memO l)/\∀ i,i<nx->i≠j->lookO ob' i=lookO ob i
theorem zFU {nx:Nat} {ob:List (Nat × Option Ob)} (j:Nat) (l:List Int) (hj:lookO ob j=some (memO l)) :
  InlC prog 93 [.own j] nx ob fun r nx' ob'=>r=iv (pagesD l)/\nx'=nx/\ob'=ob:=by
 have e3:=zAN .u32 l;refine InlC.of func93 rfl (by kernel_rfl) rfl ?_
 simp only [ntmps93,St.startI,argT];refine au1 (kX2 @hj @e3) ?_;intros;apply wr;exact wx1 trivial trivial (kX3 @hj @e3 @pagesD.eq_1)
theorem zDK {nx:Nat} {ob:List (Nat × Option Ob)} (j:Nat) (l:List Int) (a s:Int) (hj:lookO ob j=some (memO l)) (hs:s=1\/s=4) (ha:W32 a) :
  InlC prog 212 [.own j,uv a,iv s] nx ob fun r nx' ob'=>r=.bool (zAR l a s)/\nx'=nx/\ob'=ob:=by
 have hpg:=zAf l;have e1:IntKind.i64.wrap (128*pagesD l)=128*pagesD l:=zAA (by omega) (by omega)
 have e2:IntKind.u32.wrap (128*pagesD l)=128*pagesD l:=u32_in (by omega) (by omega)
 have e5:=zKS ha.1;rcases hs with rfl|rfl
 ·have e6:zAR l a 1=decide (a<128*pagesD l):=by
   have:(a+1<=pagesD l*128)=(a<128*pagesD l):=by apply propext;omega
   unfold zAR;simp [this]
  refine InlC.of func212 rfl (by kernel_rfl) rfl ?_
  simp only [ntmps212,St.startI,argT];refine au ?_;intros;apply wr;refine gF01 rfl (kX3 @e5 @u32c @u64c) ?_;intros;apply wr
  first|refine .inr ((zFU j l hj).mono fun r nx' ob' hp=>?_)|refine (zFU j l hj).mono fun r nx' ob' hp=>?_|refine ((zFU j l hj).mono fun r nx' ob' hp=>?_).2
  simp only [aftI];obtain ⟨rfl,rfl,rfl⟩:=hp;simp [e1,e2];refine au ?_;intros;apply wr;refine zAB ?_;simp [e6]
 by_cases h4:a % 4=0
 ·have e6:zAR l a 4=decide (a<128*pagesD l):=by
   unfold zAR;have:(a+4<=pagesD l*128)=(a<128*pagesD l):=by apply propext;omega
   simp [h4,this]
  refine InlC.of func212 rfl (by kernel_rfl) rfl ?_
  simp only [ntmps212,St.startI,argT];refine au ?_;intros;apply wr;refine gF01 rfl (kX4 @e5 @h4 @u32c @u64c) ?_;intros;apply wr
  first|refine .inr ((zFU j l hj).mono fun r nx' ob' hp=>?_)|refine (zFU j l hj).mono fun r nx' ob' hp=>?_|refine ((zFU j l hj).mono fun r nx' ob' hp=>?_).2
  simp only [aftI];obtain ⟨rfl,rfl,rfl⟩:=hp;simp [e1,e2];refine au ?_;intros;apply wr;refine zAB ?_;simp [e6]
 have e6:zAR l a 4=false:=by
  unfold zAR;simp [h4]
 have hb:(a % 4==0)=false:=by simp [h4]
 refine InlC.of func212 rfl (by kernel_rfl) rfl ?_
 simp only [ntmps212,St.startI,argT];refine au ?_;intros;apply wr;refine gF01 rfl (kX4 @e5 @hb @u32c @u64c) ?_;intros;apply wr;refine zAB ?_;simp [e6]
theorem zPz {nx:Nat} {ob:List (Nat × Option Ob)} (j:Nat) (l:List Int) (a s:Int) (hj:lookO ob j=some (memO l)) (hs:s=1\/s=4) (ha:W32 a) :
  InlC prog 167 [.own j,uv a,iv s] nx ob fun r nx' ob'=>r=.tup [uv (if zAR l a s=true then zBl l a s else 0),.bool (zAR l a s)]/\nx'=nx/\ob'=ob:=by
 have hW:InlC prog 212 [.own j,uv a,iv s] nx ob fun r nx' ob'=>r=.bool (zAR l a s)/\nx'=nx/\ob'=ob:=zDK j l a s hj hs ha
 cases hw:zAR l a s with
 | false =>
  rw [hw] at hW;refine InlC.of func167 rfl (by kernel_rfl) rfl ?_
  simp only [ntmps167,St.startI,argT];refine au ?_;intros;apply wr
  first|refine .inr ((hW).mono fun r nx' ob' hp=>?_)|refine (hW).mono fun r nx' ob' hp=>?_|refine ((hW).mono fun r nx' ob' hp=>?_).2
  simp only [aftI];obtain ⟨rfl,rfl,rfl⟩:=hp;simp;refine au ?_;intros;apply wr;refine gT00 rfl ?_;intros;apply wr;refine zAB ?_;simp
 | true =>
  rw [hw] at hW;have hi:=zCZ hw ha.1;have e1:=zQQ ha;obtain ⟨w,hw'⟩:∃ w,w=wAt l (a / 4):=⟨_,rfl⟩;have e2:=zCt (k:=.u32) (zHO hi);rw [<- hw'] at e2;have g2:∀ h,(ints .u32 l)[(a / 4).toNat]'h=[uv w]:=fun h=>by rw [zV3 h] at e2;simpa using e2
  have hw2:=hw'.symm;have e3:=zAN .u32 l;have e4:=zKS ha.1;have e5:IntKind.u32.wrap (8*(a % 4))=8*(a % 4):=u32_in (by omega) (by omega)
  have e6:w.fdiv (2 ^ min (8*(a % 4)).toNat 32)=w / 2 ^ (8*(a % 4)).toNat:=by
   rw [Nat.min_eq_left (by omega),zWC _ (Int.le_of_lt (Int.pow_pos (by decide)))]
  have e7:(0:Int)<=a / 4:=by have:=ha.1;omega
  have e8:a / 4<(l.length:Int):=by omega
  have e9:w / 2 ^ (8*(a % 4)).toNat % 256=byteAt w (a % 4):=rfl;rcases hs with rfl|rfl
  ·refine InlC.of func167 rfl (by kernel_rfl) rfl ?_
   simp only [ntmps167,St.startI,argT];refine au ?_;intros;apply wr
   first|refine .inr ((hW).mono fun r nx' ob' hp=>?_)|refine (hW).mono fun r nx' ob' hp=>?_|refine ((hW).mono fun r nx' ob' hp=>?_).2
   simp only [aftI];obtain ⟨rfl,rfl,rfl⟩:=hp;simp;refine au ?_;intros;apply wr;refine gF01 rfl (kX5 @hj @e1 @e2 @e3 @g2) ?_;intros;apply wr;refine gT01 rfl (kX5 @e4 @e5 @e6 @e9 @zBz) ?_;intros;apply wr;refine zAB ?_;simp [zBl,hw2]
  refine InlC.of func167 rfl (by kernel_rfl) rfl ?_
  simp only [ntmps167,St.startI,argT];refine au ?_;intros;apply wr
  first|refine .inr ((hW).mono fun r nx' ob' hp=>?_)|refine (hW).mono fun r nx' ob' hp=>?_|refine ((hW).mono fun r nx' ob' hp=>?_).2
  simp only [aftI];obtain ⟨rfl,rfl,rfl⟩:=hp;simp;refine au ?_;intros;apply wr;refine gF01 rfl (kX5 @hj @e1 @e2 @e3 @g2) ?_;intros;apply wr;refine gF00 rfl ?_;intros;apply wr;refine zAB ?_;simp [zBl,hw2]
theorem zKL {nx:Nat} {ob:List (Nat × Option Ob)} (j:Nat) (c:CpuD) (l:List Int) (va acc:Int) (hC:OkC c) (hv:W32 va) (ha:acc=1\/acc=3) (hp0:zDU c=false) (hj:lookO ob j=some (memO l)) (hjn:j<nx) :
  InlC prog 213 [.st c.row,.own j,uv va,iv 4,iv acc] nx ob fun r nx' ob'=>r=.tup [uv (zAF c l va 4 acc).1,iv (zAF c l va 4 acc).2.2]/\zFq nx ob j (zAF c l va 4 acc).2.1 nx' ob':=by
 have n1:¬ j=nx:=by omega
 have n2:¬ nx=j:=by omega
 have hc:zAD prog 275 [iv acc] (iv (acc+3)):=by
  have:=zPn acc;rcases ha with rfl|rfl<;>simpa using this
 have hk:zAD prog 273 [iv acc] (.bool true):=by
  have:=zPx acc;rcases ha with rfl|rfl<;>simpa using this
 have hpa:=zP2 c hC;have e4:=zKS hv.1;by_cases hm:va % 4=0
 ·rw [hp0] at hpa;cases hwi:zAR l va 4 with
  | true =>
   have hE:zAF c l va 4 acc=(va,l,0):=by unfold zAF;rw [if_neg (by omega),if_neg (by simp [hp0]),if_pos hwi]
   rw [hE];refine InlC.of func213 rfl (by kernel_rfl) rfl ?_
   simp only [ntmps213,St.startI,argT];refine au ?_;intros;apply wr;refine cX (hk) ?_;intros;apply wr;refine gF01 rfl (kX3 @u32c @e4 @hm) ?_;intros;apply wr;refine gF10 @hm rfl ?_;intros;apply wr;refine cX (hpa) ?_;intros;apply wr;refine gT00 rfl ?_;intros;apply wr
   first|refine .inr ((zDK j l va 4 (by simp [lookO,n1,hj]) (by omega) hv).mono fun r nx' ob' hp=>?_)|refine (zDK j l va 4 (by simp [lookO,n1,hj]) (by omega) hv).mono fun r nx' ob' hp=>?_|refine ((zDK j l va 4 (by simp [lookO,n1,hj]) (by omega) hv).mono fun r nx' ob' hp=>?_).2
   simp only [aftI];obtain ⟨rfl,rfl,rfl⟩:=hp;simp [hwi];refine au ?_;intros;apply wr;refine gF00 rfl ?_;intros;apply wr;refine zAB ?_;simp [zFq,lookO,n1,hj];refine ⟨by omega,fun i h1 h2=>?_⟩
   first|(intro h3;omega)|(have r1:¬ i=nx:=by omega;simp [r1])
  | false =>
   have hE:zAF c l va 4 acc=(0,l,acc+3):=by unfold zAF;rw [if_neg (by omega),if_neg (by simp [hp0]),if_neg (by simp [hwi])]
   rw [hE];refine InlC.of func213 rfl (by kernel_rfl) rfl ?_
   simp only [ntmps213,St.startI,argT];refine au ?_;intros;apply wr;refine cX (hk) ?_;intros;apply wr;refine gF01 rfl (kX3 @u32c @e4 @hm) ?_;intros;apply wr;refine gF10 @hm rfl ?_;intros;apply wr;refine cX (hpa) ?_;intros;apply wr;refine gT00 rfl ?_;intros;apply wr
   first|refine .inr ((zDK j l va 4 (by simp [lookO,n1,hj]) (by omega) hv).mono fun r nx' ob' hp=>?_)|refine (zDK j l va 4 (by simp [lookO,n1,hj]) (by omega) hv).mono fun r nx' ob' hp=>?_|refine ((zDK j l va 4 (by simp [lookO,n1,hj]) (by omega) hv).mono fun r nx' ob' hp=>?_).2
   simp only [aftI];obtain ⟨rfl,rfl,rfl⟩:=hp;simp [hwi];refine au ?_;intros;apply wr;refine gT00 rfl ?_;intros;apply wr;refine cX (hc) ?_;intros;apply wr;refine zAB ?_;simp [zFq,lookO,n1,hj];refine ⟨by omega,fun i h1 h2=>?_⟩
   first|(intro h3;omega)|(have r1:¬ i=nx:=by omega;simp [r1])
 have hE:zAF c l va 4 acc=(0,l,3):=by unfold zAF;rw [if_pos hm]
 rw [hE];refine InlC.of func213 rfl (by kernel_rfl) rfl ?_
 simp only [ntmps213,St.startI,argT];refine au ?_;intros;apply wr;refine cX (hk) ?_;intros;apply wr;refine gF01 rfl (kX2 @u32c @e4) ?_;intros;apply wr;refine gT10 @hm rfl ?_;intros;apply wr;refine zAB ?_;simp [zFq,lookO,n1,hj];refine ⟨by omega,fun i h1 h2=>?_⟩
 first|(intro h3;omega)|(have r1:¬ i=nx:=by omega;simp [r1])
theorem zJD {C D E G:Prop} (c:C) (d:D) (e:E) (t:C->D->E->G:=by intro c d e;(refine af1 e ?_;intros;apply wr);repeat' ((first|(refine zAC rfl (fun h=>?_) (fun h=>?_)<;>(first|(simp [e] at h;done)|(simp [e] at h)|skip)<;>(first|(exfalso;omega)|skip))|((first|refine .inl ⟨1,_,d.1,?_⟩|refine ⟨1,_,d.1,?_⟩);simp [aftC,aftE,noX,noXc,noX1,e];first|refine And.intro zAM ?_|skip)|((first|refine .inl ⟨1,_,d.2.1,?_⟩|refine ⟨1,_,d.2.1,?_⟩);simp [aftC,aftE,noX,noXc,noX1,e];first|refine And.intro zAM ?_|skip)|refine cc1 c.1 e ?_|refine cc1 c.2.1 e ?_|refine cc1 c.2.2.1 e ?_|refine cc1 c.2.2.2.1 e ?_|refine cc1 c.2.2.2.2.1 e ?_|refine cc1 c.2.2.2.2.2.1 e ?_|(refine zAE (rid:=4) 5 [0,1,0,3,15] [(4,([[],[0],[],[0,1]],[(2,1),(2,3)])),(1,([],[]))] ?_)|(refine zAE (rid:=6) 5 [0,1,0,3,15] [(4,([[],[0],[],[0,1]],[(2,1),(2,3)])),(1,([],[]))] ?_)|(refine zAE (rid:=8) 10 [0,0,2,0,8,0,56,120,255,511] [(8,([[],[],[1],[],[3],[],[3,4,5],[3,4,5,6]],[])),(1,([],[])),(1,([],[]))] ?_)|(refine zAE (rid:=10) 11 [0,0,2,6,0,16,0,112,240,511,1023] [(9,([[],[],[1],[1,2],[],[4],[],[4,5,6],[4,5,6,7]],[])),(1,([],[])),(1,([],[]))] ?_)|(refine zAE (rid:=14) 10 [0,1,3,0,8,0,56,120,255,511] [(8,([[],[0],[0,1],[],[3],[],[3,4,5],[3,4,5,6]],[])),(1,([],[])),(1,([],[]))] ?_)|(refine zAE (rid:=22) 4 [0,0,1,7] [(3,([[],[],[0]],[(1,2)])),(1,([],[]))] ?_)|exact rt1 e|fail)<;>(refine af1 e ?_;intros;apply wr))):G:=t c d e
theorem zMy {C D E G:Prop} (c:C) (d:D) (e:E) (t:C->D->E->G:=by intro c d e;(refine af1 e ?_;intros;apply wr);repeat' ((first|(refine zAC rfl (fun h=>?_) (fun h=>?_)<;>(first|(simp [e] at h;done)|(simp [e] at h)|skip)<;>(first|(exfalso;omega)|skip))|((first|refine .inl ⟨1,_,d.1,?_⟩|refine ⟨1,_,d.1,?_⟩);simp [aftC,aftE,noX,noXc,noX1,e];first|refine And.intro zAM ?_|skip)|((first|refine .inl ⟨1,_,d.2.1,?_⟩|refine ⟨1,_,d.2.1,?_⟩);simp [aftC,aftE,noX,noXc,noX1,e];first|refine And.intro zAM ?_|skip)|refine cc1 c.1 e ?_|refine cc1 c.2.1 e ?_|refine cc1 c.2.2.1 e ?_|refine cc1 c.2.2.2.1 e ?_|refine cc1 c.2.2.2.2.1 e ?_|refine cc1 c.2.2.2.2.2.1 e ?_|(refine zAE (rid:=11) 10 [0,1,0,7,15,0,32,96,255,511] [(8,([[],[0],[],[0,1,2],[0,1,2,3],[],[5],[5,6]],[])),(1,([],[])),(1,([],[]))] ?_)|(refine zAE (rid:=3) 13 [0,1,0,4,0,28,60,0,128,0,896,1920,4095] [(12,([[],[0],[],[2],[],[2,3,4],[2,3,4,5],[],[7],[],[7,8,9],[7,8,9,10]],[])),(1,([],[]))] ?_)|exact rt1 e|fail)<;>(refine af1 e ?_;intros;apply wr))):G:=t c d e
abbrev SyOk (c:CpuD) (i:InstD):Prop:=zAD prog 215 [.st c.row,.st i.row] (.tup [.st (zAG c i).1.row,.st (zAG c i).2.row])
abbrev JuOk (c:CpuD) (i:InstD):Prop:=zAD prog 216 [.st c.row,.st i.row] (.st (zAG c i).1.row)
theorem zVU (c:CpuD) (i:InstD) (hc:OkC c) (hi:OkI i) (hop:i.op=57):SyOk c i:=by
 obtain ⟨a0,a1,b0,b1,c0,c1⟩:=hi;have g:=zAU c b0 b1;have ga:=zAU c a0 a1;have hE:zAG c i=(retD c,zEff):=by unfold zAG;simp [hop]
 unfold SyOk;rw [hE];refine sZ func215 ntmps215 ?_;exact zJD (qX1 (zNp c hc)) trivial (kX6 @g @ga @hop @zA2 @CpuD.setP.eq_1 @zEff.eq_1)
theorem zVV (c:CpuD) (i:InstD) (hc:OkC c) (hi:OkI i) (hop:i.op=59)(k0:0<=i.imm) (k1:i.imm<=7):SyOk c i:=by
 obtain ⟨a0,a1,b0,b1,c0,c1⟩:=hi;have g:=zAU c b0 b1;have ga:=zAU c a0 a1;have hE:zAG c i=((zBG c i.imm (c.x i.a.toNat)).setP (uw (c.pc+4)),zEff):=by unfold zAG;simp [hop]
 unfold SyOk;rw [hE];refine sZ func215 ntmps215 ?_;exact zJD (qX1 (zQD c i.imm (c.x i.a.toNat) k0 k1)) trivial (kX8 @g @ga @hop @zA2 @CpuD.setP.eq_1 @zEff.eq_1 @zKc (zGi k0 k1))
theorem zVW (c:CpuD) (i:InstD) (hc:OkC c) (hi:OkI i) (hop:i.op=61)(k0:0<=i.imm) (k1:i.imm<=11):SyOk c i:=by
 obtain ⟨a0,a1,b0,b1,c0,c1⟩:=hi;have g:=zAU c b0 b1;have ga:=zAU c a0 a1;have hE:zAG c i=(c.setP (uw (c.pc+4)),⟨2,i.imm,0,c.x i.a.toNat⟩):=by unfold zAG;simp [hop]
 unfold SyOk;rw [hE];refine sZ func215 ntmps215 ?_;exact zJD trivial trivial (kX7 @g @ga @hop @zA2 @CpuD.setP.eq_1 @zEff.eq_1 (zGi k0 k1))
theorem zTa (c:CpuD) (i:InstD) (hc:OkC c) (hi:OkI i) (hh:i.op=40\/i.op=41\/i.op=42\/i.op=43\/i.op=44\/i.op=45):JuOk c i:=by
 obtain ⟨a0,a1,b0,b1,c0,c1⟩:=hi;have g:=zAU c b0 b1;have ga:=zAU c a0 a1;have hE:zAG c i=(c.setP (if zEw i.op (c.x i.a.toNat) (c.x i.b.toNat)=true then uw (c.pc+uw (4*uw i.imm)) else uw (c.pc+4)),zEff):=by unfold zAG;rw [if_neg (by omega),if_pos (by omega)]
 have ht:=zP6 i.op (c.x i.a.toNat) (c.x i.b.toNat);have d1:¬ i.op=48:=by omega
 have d2:¬ i.op=49:=by omega
 unfold JuOk;rw [hE];generalize zEw i.op (c.x i.a.toNat) (c.x i.b.toNat)=t at *
 cases t
 ·refine sZ func216 ntmps216 ?_;exact zMy (qX1 (ht)) trivial (kX6 @g @ga @d1 @d2 @CpuD.setP.eq_1 @zEff.eq_1)
 refine sZ func216 ntmps216 ?_;exact zMy (qX1 (ht)) trivial (kX6 @g @ga @d1 @d2 @CpuD.setP.eq_1 @zEff.eq_1)
@[simp] theorem nn1 (n:Nat):(n=n+1)=False:=by simp
@[simp] theorem nn2 (n:Nat):(n+1=n)=False:=by simp
@[simp] theorem nn3 (n:Nat):(n=n+1+1)=False:=by apply eq_false;omega
@[simp] theorem nn4 (n:Nat):(n+1+1=n)=False:=by apply eq_false;omega
@[simp] theorem nn5 (n:Nat):(n=n+1+1+1)=False:=by apply eq_false;omega
@[simp] theorem nn6 (n:Nat):(n+1+1+1=n)=False:=by apply eq_false;omega
theorem zMf {nx:Nat} {ob:List (Nat × Option Ob)} (j:Nat) (c:CpuD) (l:List Int) (i:InstD) (hc:OkC c) (hl:OkW l) (hi:OkI i) (hop:i.op=35) (hp0:zDU c=false) (hj:lookO ob j=some (memO l)) (hjn:j<nx) :
  InlC prog 217 [.st c.row,.own j,.st i.row] nx ob fun r nx' ob'=>r=.st (zAP c l i).1.row/\zFq nx ob j (zAP c l i).2 nx' ob':=by
 obtain ⟨a0,a1,b0,b1,c0,c1⟩:=hi;have g:=zAU c b0 b1;have ga:=zAU c a0 a1;obtain ⟨va,hva⟩:∃ va,va=uw (c.x i.b.toNat+uw i.imm):=⟨_,rfl⟩;have hv:W32 va:=by rw [hva];exact uw_w _
 have va':IntKind.u32.wrap (c.x i.b.toNat+IntKind.u32.wrap i.imm)=va:=hva.symm;have n1:¬ j=nx:=by omega
 have n2:¬ j=nx+1:=by omega
 have n3:¬ j=nx+1+1:=by omega
 have o1:¬ nx=j:=by omega
 have o2:¬ nx+1=j:=by omega
 have o3:¬ nx+1+1=j:=by omega
 obtain ⟨R,hR⟩:∃ R,R=zAF c l va 4 3:=⟨_,rfl⟩;have hin:=zC7 (c:=c) (l:=l) (va:=va) (s:=4) (acc:=3) (by omega) (by decide) hc hv
 have hn:=zBM c l va 4 3;have hw:=zCB (c:=c) (va:=va) (s:=4) (acc:=3) hl;have hE:zAP c l i=(if R.2.2≠0 then (zBF c R.2.2 va,R.2.1) else (c.setP (uw (c.pc+4)),zCp R.2.1 R.1 4 (c.x i.a.toNat))):=by
  rw [hR,hva];simp only [zAP,zAW,hop];rfl
 have hr:∀ {nx:Nat} {ob:List (Nat × Option Ob)},lookO ob j=some (memO l)->j<nx->InlC prog 213 [.st c.row,.own j,uv va,iv 4,iv 3] nx ob fun r nx' ob'=>r=.tup [uv R.1,iv R.2.2]/\zFq nx ob j R.2.1 nx' ob':=fun h1 h2=>by
  rw [hR];exact zKL j c l va 3 hc hv (by omega) hp0 h1 h2
 rw [<- hR] at hin hn hw;obtain ⟨a,m,k⟩:=R;simp only at hin hn hw hr hE;refine InlC.of func217 rfl (by kernel_rfl) rfl ?_
 simp only [ntmps217,St.startI,argT];refine au1 (kX2 @g @hop) ?_;intros;apply wr;refine zAE 10 [0,1,0,7,15,0,32,96,255,511] [(8,([[],[0],[],[0,1,2],[0,1,2,3],[],[5],[5,6]],[])),(1,([],[])),(1,([],[]))] ?_;refine af1 (kX3 @g @hop @va') ?_;intros;apply wr;refine af1 (kX3 @g @hop @va') ?_;intros;apply wr;refine zCw @hop rfl @hop ?_;intros;apply wr;refine zCw @hop rfl @hop ?_;intros;apply wr
 first|refine .inr ((hr (by simp [lookO,n1,n2,n3,hj]) (by omega)).mono fun r nx' ob' hp=>?_)|refine (hr (by simp [lookO,n1,n2,n3,hj]) (by omega)).mono fun r nx' ob' hp=>?_|refine ((hr (by simp [lookO,n1,n2,n3,hj]) (by omega)).mono fun r nx' ob' hp=>?_).2
 simp only [aftI];obtain ⟨rfl,g1,g2,g3⟩:=hp;have y1:=g3 nx (by omega) (by omega)
 have y2:=g3 (nx+1) (by omega) (by omega)
 have y3:=g3 (nx+1+1) (by omega) (by omega)
 simp [lookO] at y1 y2 y3;simp;refine af ?_;intros;apply wr;by_cases hk:k=0
 ·obtain ⟨i1,i2⟩:=hin hk;have hx:=zCZ i1 i2.1;rw [<- hn] at hx;have i3:zAR m a 4=true:=by rw [zBr hn];exact i1
  refine zBO @hk rfl ?_;intros;apply wr;refine gT01f rfl (kX4 @y1 @y2 @ga @hop) ?_;intros;apply wr;have e1:zAP c l i=(c.setP (uw (c.pc+4)),zCp m a 4 (c.x i.a.toNat)):=by rw [hE,if_neg (by simp [hk])]
  first|refine .inr ((zI1 j m a (c.x i.a.toNat) i2 g2 hx).mono fun r nx' ob' hp=>?_)|refine (zI1 j m a (c.x i.a.toNat) i2 g2 hx).mono fun r nx' ob' hp=>?_|refine ((zI1 j m a (c.x i.a.toNat) i2 g2 hx).mono fun r nx' ob' hp=>?_).2
  simp only [aftI];obtain ⟨rfl,rfl,rfl⟩:=hp;simp;refine af1 (kX6 @y1 @y2 @y3 @o1 @o2 @o3) ?_;intros;apply wr;refine zAB ?_;simp [CpuD.setP,e1];refine ⟨by omega,by simp [lookO,n1,n2,n3,g2],fun i h1 h2=>?_⟩
  have r1:¬ i=nx:=by omega
  have r2:¬ i=nx+1:=by omega
  have r3:¬ i=nx+1+1:=by omega
  have e:=g3 i (by omega) h2
  simp [lookO,r1,r2,r3] at e;simp [lookO,r1,r2,r3,h2,e]
 have e1:zAP c l i=(zBF c k va,m):=by rw [hE,if_pos hk]
 refine zCw @hk rfl @y1 ?_;intros;apply wr;refine cZf (zCQ c k va hc) @y3 @y3 ?_;intros;apply wr;refine zAB ?_;simp [e1];refine ⟨by omega,by simp [lookO,n1,n2,n3,g2],fun i h1 h2=>?_⟩
 have r1:¬ i=nx:=by omega
 have r2:¬ i=nx+1:=by omega
 have r3:¬ i=nx+1+1:=by omega
 have e:=g3 i (by omega) h2
 simp [lookO,r1,r2,r3] at e;simp [lookO,r1,r2,r3,h2,e]
theorem zTd (c:CpuD) (i:InstD) (hc:OkC c) (hv:validD i=true) (h:i.op=57\/i.op=59\/i.op=61):SyOk c i:=by
 have hi:=zBE hv;have hm:=zKY hv;rcases h with h|h|h
 ·exact zVU c i hc hi h
 ·rw [h] at hm;exact zVV c i hc hi h (by have:=hm.1;simp [lowD,zAH] at this;omega) (by have:=hm.2;simp [zAd,zAH] at this;omega)
 rw [h] at hm;exact zVW c i hc hi h (by have:=hm.1;simp [lowD,zAH] at this;omega) (by have:=hm.2;simp [zAd,zAH] at this;omega)
theorem zTE (c:CpuD) (i:InstD) (h:i.op<56):(zAG c i).2=zEff:=by
 unfold zAG;by_cases e1:i.op=24
 ·rw [if_pos e1]
 rw [if_neg e1];by_cases e2:40<=i.op/\i.op<=45
 ·rw [if_pos e2]
 rw [if_neg e2];by_cases e3:i.op=48
 ·rw [if_pos e3]
 rw [if_neg e3];by_cases e4:i.op=49
 ·rw [if_pos e4]
 rw [if_neg e4]
 iterate 9 rw [if_neg (by omega)]
def sOp (op:Int):Prop:=op=1\/op=16\/op=18\/op=20\/op=24\/op=35\/op=42\/op=57\/op=59\/op=61
theorem rdo_ok {nx:Nat} {ob:List (Nat × Option Ob)} (j:Nat) (c:CpuD) (l:List Int) (hc:OkC c) (hl:OkW l) (hp0:zDU c=false) (ho:sOp (decI (wAt (zAF c l c.pc 4 1).2.1 ((zAF c l c.pc 4 1).1 / 4))).op) (hj:lookO ob j=some (memO l)) (hjn:j<nx) :
  InlC prog 169 [.st c.row,.own j] nx ob fun r nx' ob'=>r=.tup [.st (zAo c l).1.row,.st (zAo c l).2.2.row]/\zFq nx ob j (zAo c l).2.1 nx' ob':=by
 have n1:¬ j=nx:=by omega
 have n2:¬ j=nx+1:=by omega
 have n3:¬ j=nx+1+1:=by omega
 have o1:¬ nx=j:=by omega
 have o2:¬ nx+1=j:=by omega
 have o3:¬ nx+1+1=j:=by omega
 obtain ⟨R,hR⟩:∃ R,R=zAF c l c.pc 4 1:=⟨_,rfl⟩;have hin:=zC7 (c:=c) (l:=l) (va:=c.pc) (s:=4) (acc:=1) (by omega) (by decide) hc hc.pc
 have hn:=zBM c l c.pc 4 1;have hw:=zCB (c:=c) (va:=c.pc) (s:=4) (acc:=1) hl;have hE:zAo c l=(if R.2.2≠0 then (zBF c R.2.2 c.pc,R.2.1,zEff) else zBh c R.2.1 (wAt R.2.1 (R.1 / 4))):=by rw [hR];rfl
 have hr:∀ {nx:Nat} {ob:List (Nat × Option Ob)},lookO ob j=some (memO l)->j<nx->InlC prog 213 [.st c.row,.own j,uv c.pc,iv 4,iv 1] nx ob fun r nx' ob'=>r=.tup [uv R.1,iv R.2.2]/\zFq nx ob j R.2.1 nx' ob':=fun h1 h2=>by
  rw [hR];exact zKL j c l c.pc 1 hc hc.pc (by omega) hp0 h1 h2
 rw [<- hR] at hin hn hw ho;obtain ⟨a,m,k⟩:=R;simp only at hin hn hw hr hE ho;refine InlC.of func169 rfl (by kernel_rfl) rfl ?_
 simp only [ntmps169,St.startI,argT];refine au ?_;intros;apply wr
 first|refine .inr ((hr (by simp [lookO,n1,n2,n3,hj]) (by omega)).mono fun r nx' ob' hp=>?_)|refine (hr (by simp [lookO,n1,n2,n3,hj]) (by omega)).mono fun r nx' ob' hp=>?_|refine ((hr (by simp [lookO,n1,n2,n3,hj]) (by omega)).mono fun r nx' ob' hp=>?_).2
 simp only [aftI];obtain ⟨rfl,g1,g2,g3⟩:=hp;have y1:=g3 nx (by omega) (by omega)
 have y2:=g3 (nx+1) (by omega) (by omega)
 have y3:=g3 (nx+1+1) (by omega) (by omega)
 simp [lookO] at y1 y2 y3;simp;refine au ?_;intros;apply wr;by_cases hk:k=0
 ·obtain ⟨i1,i2⟩:=hin hk;have hx:=zCZ i1 i2.1;rw [<- hn] at hx;have i3:zAR m a 4=true:=by rw [zBr hn];exact i1
  have hE1:zAo c l=zBh c m (wAt m (a / 4)):=by rw [hE,if_neg (by simp [hk])]
  have hld:zBl m a 4=wAt m (a / 4):=by simp [zBl]
  have hww:W32 (wAt m (a / 4)):=zNx hw _;generalize wAt m (a / 4)=w at hE1 hld hww ho;refine gF10 @hk rfl ?_;intros;apply wr
  first|refine .inr ((zPz j m a 4 g2 (by omega) i2).mono fun r nx' ob' hp=>?_)|refine (zPz j m a 4 g2 (by omega) i2).mono fun r nx' ob' hp=>?_|refine ((zPz j m a 4 g2 (by omega) i2).mono fun r nx' ob' hp=>?_).2
  simp only [aftI];obtain ⟨rfl,rfl,rfl⟩:=hp;simp [i3,hld];refine au ?_;intros;apply wr;have p1:¬ nx=nx'+6:=by omega
  have p2:¬ nx=nx'+5:=by omega
  have p3:¬ nx=nx'+4:=by omega
  have p4:¬ j=nx'+6:=by omega
  have q1:¬ nx'+6=nx:=by omega
  have q2:¬ nx'+5=nx:=by omega
  have q3:¬ nx'+4=nx:=by omega
  have q4:¬ nx'+6=j:=by omega
  cases hv:validD (decI w) with
  | false =>
   have e1:zAo c l=(zBF c 1 w,m,zEff):=by rw [hE1];unfold zBh;rw [if_pos hv]
   have hd:=zD8 w hww;unfold decV at hd;rw [hv,if_neg (by simp)] at hd
   refine cX (hd) ?_;intros;apply wr;refine gT01 rfl (kX11 @y1 @y2 @y3 @p1 @p2 @p3 @p4 @q1 @q2 @q3 @q4) ?_;intros;apply wr;refine cZ (zCQ c 1 w hc) (kX5 @y2 @y3 @p1 @p2 @p3) (kX5 @y2 @y3 @p1 @p2 @p3) ?_;intros;apply wr;refine zAB ?_;simp [e1,zEff];refine ⟨by omega,by simp [lookO,n1,n2,n3,p4,g2],fun i h1 h2=>?_⟩
   have r1:¬ i=nx:=by omega
   have r2:¬ i=nx+1:=by omega
   have r3:¬ i=nx+1+1:=by omega
   have r4:¬ i=nx'+6:=by omega
   have e:=g3 i (by omega) h2
   simp [lookO,r1,r2,r3,r4] at e;simp [lookO,r1,r2,r3,r4,h2,e]
  | true =>
   have hd:=zD8 w hww;unfold decV at hd;rw [hv,if_pos rfl] at hd;generalize hi:decI w=i at hd hv hE1 ho;unfold sOp at ho;refine cX (hd) ?_;intros;apply wr;refine gF01 rfl (kX8 @p1 @p2 @p3 @p4 @q1 @q2 @q3 @q4) ?_;intros;apply wr;have hpr:=zSX i.op;have hk1:=zO9 (hc.csr 0);cases hpv:zLK i.op with
   | true =>
    rw [hpv] at hpr;by_cases hm:c.csr 0 % 2=0
    ·have e1:zAo c l=(zBF c 2 w,m,zEff):=by rw [hE1];unfold zBh;rw [hi,if_neg (by simp [hv]),if_pos ⟨hpv,hm⟩]
     refine cZ (hpr) (kX3 @y1 @p1 @hk1) (kX5 @y1 @p1 @p2 @p3 @hk1) ?_;intros;apply wr;refine gT11 @hm rfl (kX4 @y1 @p1 @p2 @p3) ?_;intros;apply wr;refine cZ (zCQ c 2 w hc) (kX5 @y2 @y3 @p1 @p2 @p3) (kX5 @y2 @y3 @p1 @p2 @p3) ?_;intros;apply wr;refine zAB ?_;simp [e1,zEff];refine ⟨by omega,by simp [lookO,n1,n2,n3,p4,g2],fun i h1 h2=>?_⟩
     have r1:¬ i=nx:=by omega
     have r2:¬ i=nx+1:=by omega
     have r3:¬ i=nx+1+1:=by omega
     have r4:¬ i=nx'+6:=by omega
     have e:=g3 i (by omega) h2
     simp [lookO,r1,r2,r3,r4] at e;simp [lookO,r1,r2,r3,r4,h2,e]
    have e2:zAo c l=if 32<=i.op/\i.op<=34 then ((zA4 c m i).1,(zA4 c m i).2,zEff) else if 35<=i.op/\i.op<=36 then ((zAP c m i).1,(zAP c m i).2,zEff) else ((zAG c i).1,m,(zAG c i).2):=by
     rw [hE1];unfold zBh;rw [hi,if_neg (by simp [hv]),if_neg (fun q=>hm q.2)]
    refine cZ (hpr) (kX3 @y1 @p1 @hk1) (kX5 @y1 @p1 @p2 @p3 @hk1) ?_;intros;apply wr;refine gF11 @hm rfl @p1 ?_;intros;apply wr;by_cases h56:56<=i.op
    ·have e0:zAo c l=((zAG c i).1,m,(zAG c i).2):=by rw [e2,if_neg (by omega),if_neg (by omega)]
     have hs:=zTd c i hc hv (by omega)
     unfold SyOk at hs;generalize zAG c i=Z at hs e0;refine gT11 @h56 rfl (kX2 @y1 @p1) ?_;intros;apply wr;refine cZ (hs) (kX5 @y2 @y3 @p1 @p2 @p3) (kX5 @y2 @y3 @p1 @p2 @p3) ?_;intros;apply wr;refine zAB ?_;simp [e0];refine ⟨by omega,by simp [lookO,n1,n2,n3,p4,g2],fun i h1 h2=>?_⟩
     have r1:¬ i=nx:=by omega
     have r2:¬ i=nx+1:=by omega
     have r3:¬ i=nx+1+1:=by omega
     have r4:¬ i=nx'+6:=by omega
     have e:=g3 i (by omega) h2
     simp [lookO,r1,r2,r3,r4] at e;simp [lookO,r1,r2,r3,r4,h2,e]
    refine gF11 @h56 rfl @p1 ?_;intros;apply wr;by_cases h40:40<=i.op
    ·have e0:zAo c l=((zAG c i).1,m,zEff):=by rw [e2,if_neg (by omega),if_neg (by omega),zTE c i (by omega)]
     have hs:=zTa c i hc (zBE hv) (by omega)
     unfold JuOk at hs;generalize zAG c i=Z at hs e0;refine gT11 @h40 rfl (kX2 @y1 @p1) ?_;intros;apply wr;refine cZ (hs) (kX5 @y2 @y3 @p1 @p2 @p3) (kX5 @y2 @y3 @p1 @p2 @p3) ?_;intros;apply wr;refine zAB ?_;simp [e0,zEff];refine ⟨by omega,by simp [lookO,n1,n2,n3,p4,g2],fun i h1 h2=>?_⟩
     have r1:¬ i=nx:=by omega
     have r2:¬ i=nx+1:=by omega
     have r3:¬ i=nx+1+1:=by omega
     have r4:¬ i=nx'+6:=by omega
     have e:=g3 i (by omega) h2
     simp [lookO,r1,r2,r3,r4] at e;simp [lookO,r1,r2,r3,r4,h2,e]
    refine gF11 @h40 rfl @p1 ?_;intros;apply wr;by_cases h32:32<=i.op
    ·have h35:i.op=35:=by omega
     have e0:zAo c l=((zAP c m i).1,(zAP c m i).2,zEff):=by rw [e2,if_neg (by omega),if_pos (by omega)]
     have ht:∀ {nx:Nat} {ob:List (Nat × Option Ob)},lookO ob j=some (memO m)->j<nx->InlC prog 217 [.st c.row,.own j,.st i.row] nx ob fun r nx' ob'=>r=.st (zAP c m i).1.row/\zFq nx ob j (zAP c m i).2 nx' ob':=fun h1 h2=>zMf j c m i hc hw (zBE hv) h35 hp0 h1 h2
     generalize zAP c m i=Z at ht e0;refine gT11 @h32 rfl (kX2 @y1 @p1) ?_;intros;apply wr;obtain ⟨na,rfl⟩:∃ na,na=nx':=⟨_,rfl⟩;obtain ⟨oa,rfl⟩:∃ oa,oa=ob':=⟨_,rfl⟩
     first|refine .inr ((ht (by simp [lookO,p4,g2]) (by omega)).mono fun r nx' ob' hp=>?_)|refine (ht (by simp [lookO,p4,g2]) (by omega)).mono fun r nx' ob' hp=>?_|refine ((ht (by simp [lookO,p4,g2]) (by omega)).mono fun r nx' ob' hp=>?_).2
     simp only [aftI];obtain ⟨rfl,k1,k2,k3⟩:=hp;have z2:=k3 (nx+1) (by omega) (by omega)
     have z3:=k3 (nx+1+1) (by omega) (by omega)
     simp [lookO,p1,p2,p3,y2] at z2;simp [lookO,p1,p2,p3,y3] at z3;simp [z2,z3];refine au1 (kX2 @z2 @z3) ?_;intros;apply wr;refine zAB ?_;simp [e0,zEff];refine ⟨by omega,by simp [lookO,n2,n3,k2],fun v h1 h2=>?_⟩
     have r1:¬ v=nx:=by omega
     have r2:¬ v=nx+1:=by omega
     have r3:¬ v=nx+1+1:=by omega
     have r4:¬ v=na+6:=by omega
     have e:=g3 v (by omega) h2
     have e':=k3 v (by omega) h2
     simp [lookO,r1,r2,r3,r4] at e e';simp [lookO,r1,r2,r3,r4,h2,e,e']
    refine gF11 @h32 rfl @p1 ?_;intros;apply wr;obtain ⟨a0,a1,b0,b1,c0,c1⟩:=zBE hv;by_cases h24:i.op=24
    ·have e0:zAo c l=((c.setR i.a (uw (uw i.imm*65536))).setP (uw (c.pc+4)),m,zEff):=by
      rw [e2,if_neg (by omega),if_neg (by omega)];unfold zAG;simp [h24]
     refine gT11 @h24 rfl (kX2 @y1 @p1) ?_;intros;apply wr;refine cZ (zFV c i.a (uw (uw i.imm*65536)) a0 a1) (kX6 @y1 @y2 @y3 @p1 @p2 @p3) (kX6 @y1 @y2 @y3 @p1 @p2 @p3) ?_;intros;apply wr;refine zAB ?_;simp [e0,zEff,CpuD.setP,zA2];refine ⟨by omega,by simp [lookO,n1,n2,n3,p4,g2],fun i h1 h2=>?_⟩
     have r1:¬ i=nx:=by omega
     have r2:¬ i=nx+1:=by omega
     have r3:¬ i=nx+1+1:=by omega
     have r4:¬ i=nx'+6:=by omega
     have e:=g3 i (by omega) h2
     simp [lookO,r1,r2,r3,r4] at e;simp [lookO,r1,r2,r3,r4,h2,e]
    refine gF11 @h24 rfl @p1 ?_;intros;apply wr;have hop:i.op=1\/i.op=16\/i.op=18\/i.op=20:=by omega
    have g:=zAU c b0 b1;have gc:=zAU c c0 c1;have e0:zAo c l=((c.setR i.a ((aluD i.op (c.x i.b.toNat) (if 16<=i.op then uw i.imm else c.x i.c.toNat)).getD 0)).setP (uw (c.pc+4)),m,zEff):=by
     rw [e2,if_neg (by omega),if_neg (by omega)];unfold zAG
     iterate 13 rw [if_neg (by omega)]
    by_cases h13:i.op<=13
    ·rw [if_neg (by omega)] at e0
     refine gT11 @h13 rfl (kX3 @gc @y1 @p1) ?_;intros;apply wr;refine zAE 14 [0,1,0,4,0,28,60,0,255,511,1023,1023,2047,8191] [(8,([[],[0],[],[2],[],[2,3,4],[2,3,4,5],[]],[])),(1,([],[])),(1,([],[])),(3,([[],[],[0]],[])),(1,([],[]))] ?_;refine af1 (kX3 @g @y1 @p1) ?_;intros;apply wr;refine cYf (zIu i.op (c.x i.b.toNat) (c.x i.c.toNat) (hc.x _) (hc.x _) hop) (kX2 @y1 @p1) ?_;intros;apply wr;refine cZf (zFV c i.a ((aluD i.op (c.x i.b.toNat) (c.x i.c.toNat)).getD 0) a0 a1) (kX6 @y1 @y2 @y3 @p1 @p2 @p3) (kX6 @y1 @y2 @y3 @p1 @p2 @p3) ?_;intros;apply wr;refine zAB ?_;simp [e0,zEff,CpuD.setP,zA2];refine ⟨by omega,by simp [lookO,n1,n2,n3,p4,g2],fun i h1 h2=>?_⟩
     have r1:¬ i=nx:=by omega
     have r2:¬ i=nx+1:=by omega
     have r3:¬ i=nx+1+1:=by omega
     have r4:¬ i=nx'+6:=by omega
     have e:=g3 i (by omega) h2
     simp [lookO,r1,r2,r3,r4] at e;simp [lookO,r1,r2,r3,r4,h2,e]
    rw [if_pos (by omega)] at e0
    refine zEH @h13 rfl @p1 ?_;intros;apply wr;refine zAE 14 [0,1,0,4,0,28,60,0,255,511,1023,1023,2047,8191] [(8,([[],[0],[],[2],[],[2,3,4],[2,3,4,5],[]],[])),(1,([],[])),(1,([],[])),(3,([[],[],[0]],[])),(1,([],[]))] ?_;refine af1 (kX3 @g @y1 @p1) ?_;intros;apply wr;refine cYf (zIu i.op (c.x i.b.toNat) (uw i.imm) (hc.x _) (uw_w _) hop) (kX2 @y1 @p1) ?_;intros;apply wr;refine cZf (zFV c i.a ((aluD i.op (c.x i.b.toNat) (uw i.imm)).getD 0) a0 a1) (kX6 @y1 @y2 @y3 @p1 @p2 @p3) (kX6 @y1 @y2 @y3 @p1 @p2 @p3) ?_;intros;apply wr;refine zAB ?_;simp [e0,zEff,CpuD.setP,zA2];refine ⟨by omega,by simp [lookO,n1,n2,n3,p4,g2],fun i h1 h2=>?_⟩
    have r1:¬ i=nx:=by omega
    have r2:¬ i=nx+1:=by omega
    have r3:¬ i=nx+1+1:=by omega
    have r4:¬ i=nx'+6:=by omega
    have e:=g3 i (by omega) h2
    simp [lookO,r1,r2,r3,r4] at e;simp [lookO,r1,r2,r3,r4,h2,e]
   | false =>
    rw [hpv] at hpr;have e2:zAo c l=if 32<=i.op/\i.op<=34 then ((zA4 c m i).1,(zA4 c m i).2,zEff) else if 35<=i.op/\i.op<=36 then ((zAP c m i).1,(zAP c m i).2,zEff) else ((zAG c i).1,m,(zAG c i).2):=by
     rw [hE1];unfold zBh;rw [hi,if_neg (by simp [hv]),if_neg (fun q=>by rw [hpv] at q;simp at q)]
    refine cZf (hpr) (kX3 @y1 @p1 @hk1) (kX5 @y1 @p1 @p2 @p3 @hk1) ?_;intros;apply wr;refine gF01f rfl @p1 ?_;intros;apply wr;by_cases h56:56<=i.op
    ·have e0:zAo c l=((zAG c i).1,m,(zAG c i).2):=by rw [e2,if_neg (by omega),if_neg (by omega)]
     have hs:=zTd c i hc hv (by omega)
     unfold SyOk at hs;generalize zAG c i=Z at hs e0;refine zCw @h56 rfl (kX2 @y1 @p1) ?_;intros;apply wr;refine cZf (hs) (kX5 @y2 @y3 @p1 @p2 @p3) (kX5 @y2 @y3 @p1 @p2 @p3) ?_;intros;apply wr;refine zAB ?_;simp [e0];refine ⟨by omega,by simp [lookO,n1,n2,n3,p4,g2],fun i h1 h2=>?_⟩
     have r1:¬ i=nx:=by omega
     have r2:¬ i=nx+1:=by omega
     have r3:¬ i=nx+1+1:=by omega
     have r4:¬ i=nx'+6:=by omega
     have e:=g3 i (by omega) h2
     simp [lookO,r1,r2,r3,r4] at e;simp [lookO,r1,r2,r3,r4,h2,e]
    refine zEH @h56 rfl @p1 ?_;intros;apply wr;by_cases h40:40<=i.op
    ·have e0:zAo c l=((zAG c i).1,m,zEff):=by rw [e2,if_neg (by omega),if_neg (by omega),zTE c i (by omega)]
     have hs:=zTa c i hc (zBE hv) (by omega)
     unfold JuOk at hs;generalize zAG c i=Z at hs e0;refine zCw @h40 rfl (kX2 @y1 @p1) ?_;intros;apply wr;refine cZf (hs) (kX5 @y2 @y3 @p1 @p2 @p3) (kX5 @y2 @y3 @p1 @p2 @p3) ?_;intros;apply wr;refine zAB ?_;simp [e0,zEff];refine ⟨by omega,by simp [lookO,n1,n2,n3,p4,g2],fun i h1 h2=>?_⟩
     have r1:¬ i=nx:=by omega
     have r2:¬ i=nx+1:=by omega
     have r3:¬ i=nx+1+1:=by omega
     have r4:¬ i=nx'+6:=by omega
     have e:=g3 i (by omega) h2
     simp [lookO,r1,r2,r3,r4] at e;simp [lookO,r1,r2,r3,r4,h2,e]
    refine zEH @h40 rfl @p1 ?_;intros;apply wr;by_cases h32:32<=i.op
    ·have h35:i.op=35:=by omega
     have e0:zAo c l=((zAP c m i).1,(zAP c m i).2,zEff):=by rw [e2,if_neg (by omega),if_pos (by omega)]
     have ht:∀ {nx:Nat} {ob:List (Nat × Option Ob)},lookO ob j=some (memO m)->j<nx->InlC prog 217 [.st c.row,.own j,.st i.row] nx ob fun r nx' ob'=>r=.st (zAP c m i).1.row/\zFq nx ob j (zAP c m i).2 nx' ob':=fun h1 h2=>zMf j c m i hc hw (zBE hv) h35 hp0 h1 h2
     generalize zAP c m i=Z at ht e0;refine zCw @h32 rfl (kX2 @y1 @p1) ?_;intros;apply wr;obtain ⟨na,rfl⟩:∃ na,na=nx':=⟨_,rfl⟩;obtain ⟨oa,rfl⟩:∃ oa,oa=ob':=⟨_,rfl⟩
     first|refine .inr ((ht (by simp [lookO,p4,g2]) (by omega)).mono fun r nx' ob' hp=>?_)|refine (ht (by simp [lookO,p4,g2]) (by omega)).mono fun r nx' ob' hp=>?_|refine ((ht (by simp [lookO,p4,g2]) (by omega)).mono fun r nx' ob' hp=>?_).2
     simp only [aftI];obtain ⟨rfl,k1,k2,k3⟩:=hp;have z2:=k3 (nx+1) (by omega) (by omega)
     have z3:=k3 (nx+1+1) (by omega) (by omega)
     simp [lookO,p1,p2,p3,y2] at z2;simp [lookO,p1,p2,p3,y3] at z3;simp [z2,z3];refine af1 (kX2 @z2 @z3) ?_;intros;apply wr;refine zAB ?_;simp [e0,zEff];refine ⟨by omega,by simp [lookO,n2,n3,k2],fun v h1 h2=>?_⟩
     have r1:¬ v=nx:=by omega
     have r2:¬ v=nx+1:=by omega
     have r3:¬ v=nx+1+1:=by omega
     have r4:¬ v=na+6:=by omega
     have e:=g3 v (by omega) h2
     have e':=k3 v (by omega) h2
     simp [lookO,r1,r2,r3,r4] at e e';simp [lookO,r1,r2,r3,r4,h2,e,e']
    refine zEH @h32 rfl @p1 ?_;intros;apply wr;obtain ⟨a0,a1,b0,b1,c0,c1⟩:=zBE hv;by_cases h24:i.op=24
    ·have e0:zAo c l=((c.setR i.a (uw (uw i.imm*65536))).setP (uw (c.pc+4)),m,zEff):=by
      rw [e2,if_neg (by omega),if_neg (by omega)];unfold zAG;simp [h24]
     refine zCw @h24 rfl (kX2 @y1 @p1) ?_;intros;apply wr;refine cZf (zFV c i.a (uw (uw i.imm*65536)) a0 a1) (kX6 @y1 @y2 @y3 @p1 @p2 @p3) (kX6 @y1 @y2 @y3 @p1 @p2 @p3) ?_;intros;apply wr;refine zAB ?_;simp [e0,zEff,CpuD.setP,zA2];refine ⟨by omega,by simp [lookO,n1,n2,n3,p4,g2],fun i h1 h2=>?_⟩
     have r1:¬ i=nx:=by omega
     have r2:¬ i=nx+1:=by omega
     have r3:¬ i=nx+1+1:=by omega
     have r4:¬ i=nx'+6:=by omega
     have e:=g3 i (by omega) h2
     simp [lookO,r1,r2,r3,r4] at e;simp [lookO,r1,r2,r3,r4,h2,e]
    refine zEH @h24 rfl @p1 ?_;intros;apply wr;have hop:i.op=1\/i.op=16\/i.op=18\/i.op=20:=by omega
    have g:=zAU c b0 b1;have gc:=zAU c c0 c1;have e0:zAo c l=((c.setR i.a ((aluD i.op (c.x i.b.toNat) (if 16<=i.op then uw i.imm else c.x i.c.toNat)).getD 0)).setP (uw (c.pc+4)),m,zEff):=by
     rw [e2,if_neg (by omega),if_neg (by omega)];unfold zAG
     iterate 13 rw [if_neg (by omega)]
    by_cases h13:i.op<=13
    ·rw [if_neg (by omega)] at e0
     refine zCw @h13 rfl (kX3 @gc @y1 @p1) ?_;intros;apply wr;refine zAE 14 [0,1,0,4,0,28,60,0,255,511,1023,1023,2047,8191] [(8,([[],[0],[],[2],[],[2,3,4],[2,3,4,5],[]],[])),(1,([],[])),(1,([],[])),(3,([[],[],[0]],[])),(1,([],[]))] ?_;refine af1 (kX3 @g @y1 @p1) ?_;intros;apply wr;refine cYf (zIu i.op (c.x i.b.toNat) (c.x i.c.toNat) (hc.x _) (hc.x _) hop) (kX2 @y1 @p1) ?_;intros;apply wr;refine cZf (zFV c i.a ((aluD i.op (c.x i.b.toNat) (c.x i.c.toNat)).getD 0) a0 a1) (kX6 @y1 @y2 @y3 @p1 @p2 @p3) (kX6 @y1 @y2 @y3 @p1 @p2 @p3) ?_;intros;apply wr;refine zAB ?_;simp [e0,zEff,CpuD.setP,zA2];refine ⟨by omega,by simp [lookO,n1,n2,n3,p4,g2],fun i h1 h2=>?_⟩
     have r1:¬ i=nx:=by omega
     have r2:¬ i=nx+1:=by omega
     have r3:¬ i=nx+1+1:=by omega
     have r4:¬ i=nx'+6:=by omega
     have e:=g3 i (by omega) h2
     simp [lookO,r1,r2,r3,r4] at e;simp [lookO,r1,r2,r3,r4,h2,e]
    rw [if_pos (by omega)] at e0
    refine zEH @h13 rfl @p1 ?_;intros;apply wr;refine zAE 14 [0,1,0,4,0,28,60,0,255,511,1023,1023,2047,8191] [(8,([[],[0],[],[2],[],[2,3,4],[2,3,4,5],[]],[])),(1,([],[])),(1,([],[])),(3,([[],[],[0]],[])),(1,([],[]))] ?_;refine af1 (kX3 @g @y1 @p1) ?_;intros;apply wr;refine cYf (zIu i.op (c.x i.b.toNat) (uw i.imm) (hc.x _) (uw_w _) hop) (kX2 @y1 @p1) ?_;intros;apply wr;refine cZf (zFV c i.a ((aluD i.op (c.x i.b.toNat) (uw i.imm)).getD 0) a0 a1) (kX6 @y1 @y2 @y3 @p1 @p2 @p3) (kX6 @y1 @y2 @y3 @p1 @p2 @p3) ?_;intros;apply wr;refine zAB ?_;simp [e0,zEff,CpuD.setP,zA2];refine ⟨by omega,by simp [lookO,n1,n2,n3,p4,g2],fun i h1 h2=>?_⟩
    have r1:¬ i=nx:=by omega
    have r2:¬ i=nx+1:=by omega
    have r3:¬ i=nx+1+1:=by omega
    have r4:¬ i=nx'+6:=by omega
    have e:=g3 i (by omega) h2
    simp [lookO,r1,r2,r3,r4] at e;simp [lookO,r1,r2,r3,r4,h2,e]
 have e1:zAo c l=(zBF c k c.pc,m,zEff):=by rw [hE,if_pos hk]
 refine zCw @hk rfl @y1 ?_;intros;apply wr;refine cZf (zCQ c k c.pc hc) (kX2 @y2 @y3) (kX2 @y2 @y3) ?_;intros;apply wr;refine zAB ?_;simp [e1,zEff];refine ⟨by omega,by simp [lookO,n1,n2,n3,g2],fun i h1 h2=>?_⟩
 have r1:¬ i=nx:=by omega
 have r2:¬ i=nx+1:=by omega
 have r3:¬ i=nx+1+1:=by omega
 have e:=g3 i (by omega) h2
 simp [lookO,r1,r2,r3] at e;simp [lookO,r1,r2,r3,h2,e]
end Go.Proofs.YthjpcmecgjfilaaGreat
end
