/- A part of the proof of ReplicaFollows. -/
import Derived.Test.YthjpcmecgjfilaaGreatB08
import Derived.Test.YthjpcmecgjfilaaGreatB21
set_option linter.unusedSimpArgs false
set_option linter.unusedVariables false
set_option maxHeartbeats 16000000
set_option maxRecDepth 100000
section
namespace Go.Proofs.YthjpcmecgjfilaaGreat
open Go.Ab Go.RowKit Tryz
@[simp] theorem shl8:IntKind.u32.wrap (4294967295*2 ^ (min (8:Int).toNat 32))=4294967040:=by decide
theorem zN9 (l:List Int) (a s:Int) (hs:s=1\/s=4) (ha:W32 a):zAD prog 212 [memV l,uv a,iv s] (.bool (zAR l a s)):=by
 have hp:=zAc l;have e1:IntKind.i64.wrap (128*pagesD l)=128*pagesD l:=zAA (by omega) (by omega)
 have e2:IntKind.u32.wrap (128*pagesD l)=128*pagesD l:=u32_in (by omega) (by omega)
 have e5:=zJG ha.1;rcases hs with rfl|rfl
 ·have e6:zAR l a 1=decide (a<128*pagesD l):=by
   have:(a+1<=pagesD l*128)=(a<128*pagesD l):=by apply propext;omega
   unfold zAR;simp [this]
  refine sZ func212 ntmps212 ?_;exact wx1 (qX1 (zDr l)) trivial (kX6 @e1 @e2 @e5 @e6 @u32c @u64c)
 have e6:zAR l a 4=(decide (a % 4=0)&&decide (a<128*pagesD l)):=by
  unfold zAR;by_cases h4:a % 4=0
  ·have:(a+4<=pagesD l*128)=(a<128*pagesD l):=by apply propext;omega
   simp [h4,this]
  simp [h4]
 refine sX func212 ntmps212 ?_;intros;apply wr;refine gF01 rfl (kX6 @e1 @e2 @e5 @e6 @u32c @u64c) ?_;intros;apply wr
 first|refine zBA (zDr l) rfl (fun hgd=>?_) (by simp [obsL]) ?_|refine zAr (zDr l) rfl (by simp) (fun hgd=>?_) (by simp [obsL]) ?_
 all_goals simp
 all_goals (try (first|exact hgd|(simp at hgd;first|done|assumption|grind)))
 refine au1 (kX6 @e1 @e2 @e5 @e6 @u32c @u64c) ?_;intros;apply wr;refine zAB ?_;simp [e1,e2,e5,e6];rfl
theorem zSd (l:List Int) (a s:Int) (hs:s=1\/s=4) (ha:W32 a):zAD prog 167 [memV l,uv a,iv s] (.tup [uv (if zAR l a s=true then zBs l a s else 0),.bool (zAR l a s)]):=by
 have hW:=zN9 l a s hs ha;cases hw:zAR l a s with
 | false =>
  rw [hw] at hW;refine sZ func167 ntmps167 ?_;exact wx (qX1 (hW)) trivial
 | true =>
  rw [hw] at hW;have hi:=zCe hw ha.1;have e1:=zOA ha;obtain ⟨w,hw'⟩:∃ w,w=wAt l (a / 4):=⟨_,rfl⟩;have e2:=zBp (k:=.u32) (zFk hi);rw [<- hw'] at e2;have hw2:=hw'.symm;have e3:=zAM .u32 l;have e4:=zJG ha.1;have e5:IntKind.u32.wrap (8*(a % 4))=8*(a % 4):=u32_in (by omega) (by omega)
  have e6:w.fdiv (2 ^ min (8*(a % 4)).toNat 32)=w / 2 ^ (8*(a % 4)).toNat:=by
   rw [Nat.min_eq_left (by omega),zWQ _ (Int.le_of_lt (Int.pow_pos (by decide)))]
  have e7:(0:Int)<=a / 4:=by have:=ha.1;omega
  have e8:a / 4<(l.length:Int):=by omega
  have e9:w / 2 ^ (8*(a % 4)).toNat % 256=byteAt w (a % 4):=rfl;rcases hs with rfl|rfl
  ·refine sZ func167 ntmps167 ?_;exact wx1 (qX1 (hW)) trivial (kX10 @e1 @e2 @e3 @e4 @e5 @e6 @e9 @zBo @zBs.eq_1 @hw2)
  refine sZ func167 ntmps167 ?_;exact wx1 (qX1 (hW)) trivial (kX6 @e1 @e2 @e3 @e4 @zBs.eq_1 @hw2)
theorem zSU (a b:Int) (ha:W32 a) (hb:W32 b):zAD prog 218 [iv 1,uv a,uv b] (.tup [uv (uw (a+b)),.bool true]):=by
 obtain ⟨e0,e1,e2,e3,e4,e5⟩:=alF a b;have hpl:zAD prog 282 [iv 1] (iv 1):=by have:=zE2 1;simpa [zIG] using this
 refine sZ func218 ntmps218 ?_;exact wx1 (qX1 (hpl)) trivial (kX2 @e0 @e0)
theorem zPz (a b:Int) (ha:W32 a) (hb:W32 b):zAD prog 218 [iv 16,uv a,uv b] (.tup [uv (uw (a+b)),.bool true]):=by
 obtain ⟨e0,e1,e2,e3,e4,e5⟩:=alF a b;have hpl:zAD prog 282 [iv 16] (iv 1):=by have:=zE2 16;simpa [zIG] using this
 refine sZ func218 ntmps218 ?_;exact wx1 (qX1 (hpl)) trivial (kX2 @e0 @e0)
theorem zP0 (a b:Int) (ha:W32 a) (hb:W32 b):zAD prog 218 [iv 18,uv a,uv b] (.tup [uv (ior .u32 a b),.bool true]):=by
 obtain ⟨e0,e1,e2,e3,e4,e5⟩:=alF a b;have hpl:zAD prog 282 [iv 18] (iv 4):=by have:=zE2 18;simpa [zIG] using this
 refine sZ func218 ntmps218 ?_;exact wx1 (qX1 (hpl)) trivial (kX2 @e0 @e0)
theorem zP1 (a b:Int) (ha:W32 a) (hb:W32 b):zAD prog 218 [iv 20,uv a,uv b] (.tup [uv (uw (a*2 ^ (b % 32).toNat)),.bool true]):=by
 obtain ⟨e0,e1,e2,e3,e4,e5⟩:=alF a b;have hpl:zAD prog 282 [iv 20] (iv 6):=by have:=zE2 20;simpa [zIG] using this
 refine sZ func218 ntmps218 ?_;exact wx1 (qX1 (hpl)) trivial (kX3 @e0 @e0 @e3)
theorem zI3 (op a b:Int) (ha:W32 a) (hb:W32 b) (h:op=1\/op=16\/op=18\/op=20):zAD prog 218 [iv op,uv a,uv b] (.tup [uv ((aluD op a b).getD 0),.bool true]):=by
 rcases h with rfl|rfl|rfl|rfl
 ·exact zSU a b ha hb
 ·exact zPz a b ha hb
 ·exact zP0 a b ha hb
 exact zP1 a b ha hb
theorem zS7 (n:Int):IntKind.i16.wrap n=(n+32768) % 65536-32768:=by
 simp only [IntKind.wrap,IntKind.bits,IntKind.signed];have e1:(2:Int) ^ 16=65536:=by decide
 have e2:(2:Int) ^ (16-1)=32768:=by decide
 simp only [e1,e2,Bool.true_and,decide_eq_true_eq];split<;>omega
theorem zEE (w:Int) (hw:W32 w):zAD prog 168 [uv w] (decV w):=by
 have e1:w.fdiv 16777216=w / 16777216 % 256:=by rw [zB5];have:=hw.1;have:=hw.2;omega
 have e2:iand .u32 (w.fdiv 1048576) 15=w / 1048576 % 16:=by
  rw [zWQ _ (by decide)];exact zBJ (w / 1048576) 4 16 (by omega) (by decide)
 have e3:iand .u32 (w.fdiv 65536) 15=w / 65536 % 16:=by
  rw [zWQ _ (by decide)];exact zBJ (w / 65536) 4 16 (by omega) (by decide)
 have e4:iand .u32 w 65535=w % 65536:=zBJ w 16 65536 (by omega) (by decide)
 have c1:IntKind.i64.wrap (w / 16777216 % 256)=w / 16777216 % 256:=zAA (by omega) (by omega)
 have c2:IntKind.i64.wrap (w / 1048576 % 16)=w / 1048576 % 16:=zAA (by omega) (by omega)
 have c3:IntKind.i64.wrap (w / 65536 % 16)=w / 65536 % 16:=zAA (by omega) (by omega)
 have c4:IntKind.i64.wrap (w % 65536)=w % 65536:=zAA (by omega) (by omega)
 have c5:IntKind.i32.wrap (w % 65536)=w % 65536:=by rw [IntKind.wrap_i32];omega
 have c6:IntKind.i16.wrap (w % 65536)=sext (w % 65536):=by rw [zS7];unfold sext;split<;>omega
 have c7:IntKind.i32.wrap (sext (w % 65536))=sext (w % 65536):=by rw [IntKind.wrap_i32];unfold sext;split<;>omega
 refine sY func168 ntmps168 (kX6 @e1 @e2 @e3 @c1 @c2 @c3) ?_;intros;apply wr;refine cX (zGn (w / 16777216 % 256)) ?_;intros;apply wr;by_cases e0:zAH (w / 16777216 % 256)=0
 ·have hv:validD (decI w)=false:=by simp [validD,decI,e0]
  refine gT10 @e0 rfl ?_;intros;apply wr;refine zAI ?_;refine zAB ?_;simp [hv,zDx]
 refine gF10 @e0 rfl ?_;intros;apply wr;by_cases e2:zAH (w / 16777216 % 256)=2
 ·have hd:decI w=⟨w / 16777216 % 256,w / 1048576 % 16,w / 65536 % 16,w % 65536,0⟩:=by simp [decI,e2]
  refine gT11 @e2 rfl (kX2 @e4 @c4) ?_;intros;apply wr;have hi:-2147483648<=((⟨w / 16777216 % 256,w / 1048576 % 16,w / 65536 % 16,w % 65536,0⟩:InstD)).imm/\((⟨w / 16777216 % 256,w / 1048576 % 16,w / 65536 % 16,w % 65536,0⟩:InstD)).imm<=2147483647:=by simp only [sext];omega
  refine cc (zDw (⟨w / 16777216 % 256,w / 1048576 % 16,w / 65536 % 16,w % 65536,0⟩:InstD) hi) ?_;cases hv:validD (⟨w / 16777216 % 256,w / 1048576 % 16,w / 65536 % 16,w % 65536,0⟩:InstD) with
  | false =>
   refine au ?_;intros;apply wr;refine gT00 rfl ?_;intros;apply wr;refine zAI ?_;refine zAB ?_;simp [hd,hv,zDx]
  | true =>
   refine au ?_;intros;apply wr;refine gF00 rfl ?_;intros;apply wr;refine zAI ?_;refine zAB ?_;simp [hd,hv,zDx]
 refine gF10 @e2 rfl ?_;intros;apply wr;by_cases e3:zAH (w / 16777216 % 256)=3
 ·have hd:decI w=⟨w / 16777216 % 256,w / 1048576 % 16,w / 65536 % 16,0,sext (w % 65536)⟩:=by simp [decI,e3]
  refine gT10 @e3 rfl ?_;intros;apply wr;refine gT11 @e3 rfl (kX3 @e4 @c6 @c7) ?_;intros;apply wr;have hi:-2147483648<=((⟨w / 16777216 % 256,w / 1048576 % 16,w / 65536 % 16,0,sext (w % 65536)⟩:InstD)).imm/\((⟨w / 16777216 % 256,w / 1048576 % 16,w / 65536 % 16,0,sext (w % 65536)⟩:InstD)).imm<=2147483647:=by simp only [sext];omega
  refine cc (zDw (⟨w / 16777216 % 256,w / 1048576 % 16,w / 65536 % 16,0,sext (w % 65536)⟩:InstD) hi) ?_;cases hv:validD (⟨w / 16777216 % 256,w / 1048576 % 16,w / 65536 % 16,0,sext (w % 65536)⟩:InstD) with
  | false =>
   refine au ?_;intros;apply wr;refine gT00 rfl ?_;intros;apply wr;refine zAI ?_;refine zAB ?_;simp [hd,hv,zDx]
  | true =>
   refine au ?_;intros;apply wr;refine gF00 rfl ?_;intros;apply wr;refine zAI ?_;refine zAB ?_;simp [hd,hv,zDx]
 refine gF10 @e3 rfl ?_;intros;apply wr;by_cases e7:zAH (w / 16777216 % 256)=7
 ·have hd:decI w=⟨w / 16777216 % 256,w / 1048576 % 16,w / 65536 % 16,0,sext (w % 65536)⟩:=by simp [decI,e7]
  refine gT11 @e7 rfl (kX3 @e4 @c6 @c7) ?_;intros;apply wr;have hi:-2147483648<=((⟨w / 16777216 % 256,w / 1048576 % 16,w / 65536 % 16,0,sext (w % 65536)⟩:InstD)).imm/\((⟨w / 16777216 % 256,w / 1048576 % 16,w / 65536 % 16,0,sext (w % 65536)⟩:InstD)).imm<=2147483647:=by simp only [sext];omega
  refine cc (zDw (⟨w / 16777216 % 256,w / 1048576 % 16,w / 65536 % 16,0,sext (w % 65536)⟩:InstD) hi) ?_;cases hv:validD (⟨w / 16777216 % 256,w / 1048576 % 16,w / 65536 % 16,0,sext (w % 65536)⟩:InstD) with
  | false =>
   refine au ?_;intros;apply wr;refine gT00 rfl ?_;intros;apply wr;refine zAI ?_;refine zAB ?_;simp [hd,hv,zDx]
  | true =>
   refine au ?_;intros;apply wr;refine gF00 rfl ?_;intros;apply wr;refine zAI ?_;refine zAB ?_;simp [hd,hv,zDx]
 refine cF1 @e7 rfl ?_;have hd:decI w=⟨w / 16777216 % 256,w / 1048576 % 16,w / 65536 % 16,0,w % 65536⟩:=by simp [decI,e2,e3,e7]
 refine au1 (kX2 @e4 @c5) ?_;intros;apply wr;have hi:-2147483648<=((⟨w / 16777216 % 256,w / 1048576 % 16,w / 65536 % 16,0,w % 65536⟩:InstD)).imm/\((⟨w / 16777216 % 256,w / 1048576 % 16,w / 65536 % 16,0,w % 65536⟩:InstD)).imm<=2147483647:=by simp only [sext];omega
 refine cc (zDw (⟨w / 16777216 % 256,w / 1048576 % 16,w / 65536 % 16,0,w % 65536⟩:InstD) hi) ?_;cases hv:validD (⟨w / 16777216 % 256,w / 1048576 % 16,w / 65536 % 16,0,w % 65536⟩:InstD) with
 | false =>
  refine au ?_;intros;apply wr;refine gT00 rfl ?_;intros;apply wr;refine zAI ?_;refine zAB ?_;simp [hd,hv,zDx]
 | true =>
  refine au ?_;intros;apply wr;refine gF00 rfl ?_;intros;apply wr;refine zAI ?_;refine zAB ?_;simp [hd,hv,zDx]
end Go.Proofs.YthjpcmecgjfilaaGreat
end
