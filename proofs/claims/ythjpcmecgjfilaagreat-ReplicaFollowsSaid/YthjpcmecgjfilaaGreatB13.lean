/- A part of the proof of ReplicaFollows. -/
import Derived.Test.YthjpcmecgjfilaaGreatB06
import Derived.Test.YthjpcmecgjfilaaGreatB12
set_option linter.unusedSimpArgs false
set_option linter.unusedVariables false
set_option maxHeartbeats 16000000
set_option maxRecDepth 100000
section
namespace Go.Proofs.YthjpcmecgjfilaaGreat
open Go.Ab Tryz
@[simp] theorem wl0:IntKind.u64.wrap 0=0:=by decide
@[simp] theorem wl4:IntKind.u64.wrap 4=4:=by decide
@[simp] theorem wl8:IntKind.u64.wrap 8=8:=by decide
@[simp] theorem wl16:IntKind.u64.wrap 16=16:=by decide
@[simp] theorem wl20:IntKind.u64.wrap 20=20:=by decide
@[simp] theorem wl24:IntKind.u64.wrap 24=24:=by decide
@[simp] theorem wi16:IntKind.i64.wrap 16=16:=by decide
@[simp] theorem b32:IntKind.u32.bits=32:=rfl
@[simp] theorem bi32:IntKind.i32.bits=32:=rfl
theorem zEA:zAD prog 324 [.int .i64 8] (.int .u32 255):=by
 refine sX func324 ntmps324 ?_;intros;apply wr;refine gF00 rfl ?_;intros;apply wr;refine zAB ?_;simp
 try decide
theorem zMS:zAD prog 324 [.int .i64 4] (.int .u32 15):=by
 refine sX func324 ntmps324 ?_;intros;apply wr;refine gF00 rfl ?_;intros;apply wr;refine zAB ?_;simp
 try decide
theorem zPa:zAD prog 324 [.int .i64 16] (.int .u32 65535):=by
 refine sX func324 ntmps324 ?_;intros;apply wr;refine gF00 rfl ?_;intros;apply wr;refine zAB ?_;simp
 try decide
theorem zLg (n:Nat) (h:n<4294967296):IntKind.u32.wrap (n:Int)=n:=by rw [IntKind.wrap_u32];omega
theorem zCr (x:Int):(BitVec.ofInt 32 x).toNat=(x % 4294967296).toNat:=by
 rw [BitVec.toNat_ofInt];rfl
theorem zBJ (x:Int) (k B:Nat) (hk:k<=32) (hB:B=2 ^ k):IntKind.u32.wrap ((BitVec.ofInt 32 x &&& BitVec.ofNat 32 (B-1)).toNat:Int)=x % (B:Int):=by
 have hle:B<=4294967296:=by rw [hB];exact Nat.pow_le_pow_right (by omega) hk
 have hpos:0<B:=by rw [hB];exact Nat.two_pow_pos k
 have e:(BitVec.ofInt 32 x &&& BitVec.ofNat 32 (B-1)).toNat=(x % (B:Int)).toNat:=by
  rw [BitVec.toNat_and,zCr,BitVec.toNat_ofNat,Nat.mod_eq_of_lt (show B-1<2 ^ 32 by omega),hB,Nat.and_two_pow_sub_one_eq_mod,<- hB]
  have hd:(B:Int) ∣ 4294967296:=by
   have:B ∣ 4294967296:=by rw [hB];exact Nat.pow_dvd_pow 2 hk
   exact Int.ofNat_dvd.2 this
  have h1:=Int.emod_emod_of_dvd x hd;have h2:=Int.emod_nonneg x (show (4294967296:Int)≠0 by omega)
  have:((x % 4294967296).toNat % B:Nat)=((x % 4294967296) % (B:Int)).toNat:=by
   have:((x % 4294967296).toNat:Int)=x % 4294967296:=by omega
   rw [<- this];rfl
  rw [this,h1]
 have h3:=Int.emod_nonneg x (show (B:Int)≠0 by omega)
 have h4:=Int.emod_lt_of_pos x (show (0:Int)<B by omega)
 rw [e,zLg _ (by omega)];omega
theorem zO5 (w:Int):zAD prog 297 [.int .u32 w,.int .i64 24,.int .i64 8] (.int .u32 (w / 16777216 % 256)):=by
 refine sX func297 ntmps297 ?_;intros;apply wr;refine gF00 rfl ?_;intros;apply wr;refine cX (zEA) ?_;intros;apply wr;refine zAB ?_;simp;rw [zWQ _ (by omega)]
 exact zBJ (w / 16777216) 8 256 (by omega) (by decide)
theorem zO4 (w:Int):zAD prog 297 [.int .u32 w,.int .i64 20,.int .i64 4] (.int .u32 (w / 1048576 % 16)):=by
 refine sX func297 ntmps297 ?_;intros;apply wr;refine gF00 rfl ?_;intros;apply wr;refine cX (zMS) ?_;intros;apply wr;refine zAB ?_;simp;rw [zWQ _ (by omega)]
 exact zBJ (w / 1048576) 4 16 (by omega) (by decide)
theorem zNc (w:Int):zAD prog 297 [.int .u32 w,.int .i64 16,.int .i64 4] (.int .u32 (w / 65536 % 16)):=by
 refine sX func297 ntmps297 ?_;intros;apply wr;refine gF00 rfl ?_;intros;apply wr;refine cX (zMS) ?_;intros;apply wr;refine zAB ?_;simp;rw [zWQ _ (by omega)]
 exact zBJ (w / 65536) 4 16 (by omega) (by decide)
theorem zNb (w:Int):zAD prog 297 [.int .u32 w,.int .i64 0,.int .i64 16] (.int .u32 (w % 65536)):=by
 refine sX func297 ntmps297 ?_;intros;apply wr;refine gF00 rfl ?_;intros;apply wr;refine cX (zPa) ?_;intros;apply wr;refine zAB ?_;simp
 try rw [zWQ _ (by omega),Int.ediv_one]
 exact zBJ w 16 65536 (by omega) (by decide)
theorem ext_ok (x:Int) (h0:0<=x) (h1:x<65536):zAD prog 299 [.int .u32 x,.int .i64 16] (.int .u32 (if x<32768 then x else x+4294901760)):=by
 refine sX func299 ntmps299 ?_;intros;apply wr;refine gF00 rfl ?_;intros;apply wr;refine gF00 rfl ?_;intros;apply wr;refine zAB ?_;simp;simp only [IntKind.wrap_u32,IntKind.wrap_i32];rw [zWQ _ (by omega)]
 split<;>omega
theorem zRi {op:Int} (h:zAH op≠0):1<=op/\op<=64:=by
 apply Classical.byContradiction;intro hn;apply h;unfold zAH
 repeat rw [if_neg (by omega)]
theorem zEW {i:InstD} (h:validD i=true):(1<=i.op/\i.op<=64)/\(0<=i.a/\i.a<=15)/\(0<=i.b/\i.b<=15)/\(0<=i.c/\i.c<=15)/\(-32768<=i.imm/\i.imm<=65535)/\(i.c=0\/i.imm=0):=by
 have h0:zAH i.op≠0:=by
  unfold validD at h;simp only [zWJ,decide_eq_true_eq] at h;exact h.1.1.1.1.1
 refine ⟨zRi h0,?_⟩;rcases zDI i.op with q|q|q|q|q|q|q|q|q|q<;>simp [validD,regB,uA,uB,uC,lowD,zAe,q] at h<;>omega
def encW (i:InstD):Int:=i.op*16777216+i.a*1048576+i.b*65536+(i.c+i.imm) % 65536
def sext (x:Int):Int:=if x<32768 then x else x-65536
def decI (w:Int):InstD:=⟨w / 16777216 % 256,w / 1048576 % 16,w / 65536 % 16,if zAH (w / 16777216 % 256)=2 then w % 65536 else 0,
 if zAH (w / 16777216 % 256)=2 then 0 else if zAH (w / 16777216 % 256)=3\/zAH (w / 16777216 % 256)=7 then sext (w % 65536) else w % 65536⟩
def zDx:InstD:=⟨0,0,0,0,0⟩
abbrev decV (w:Int):V:=.tup [.st (if validD (decI w) then decI w else zDx).row,.bool (validD (decI w))]
set_option maxHeartbeats 16000000 in
theorem decode_ok (w:Int):zAD prog 235 [.int .u32 w] (decV w):=by
 have c1:IntKind.i64.wrap (w / 16777216 % 256)=w / 16777216 % 256:=zAA (by omega) (by omega)
 have c2:IntKind.i64.wrap (w / 1048576 % 16)=w / 1048576 % 16:=zAA (by omega) (by omega)
 have c3:IntKind.i64.wrap (w / 65536 % 16)=w / 65536 % 16:=zAA (by omega) (by omega)
 have c4:IntKind.i64.wrap (w % 65536)=w % 65536:=zAA (by omega) (by omega)
 have c5:IntKind.i32.wrap (w % 65536)=w % 65536:=by rw [IntKind.wrap_i32];omega
 have c6:IntKind.i32.wrap (if w % 65536<32768 then w % 65536 else w % 65536+4294901760)=sext (w % 65536):=by rw [IntKind.wrap_i32];unfold sext;split<;>omega
 refine sX func235 ntmps235 ?_;intros;apply wr;refine cZ (zO5 w) @c1 @c1 ?_;intros;apply wr;refine cZ (zO4 w) @c2 @c2 ?_;intros;apply wr;refine cZ (zNc w) @c3 @c3 ?_;intros;apply wr;refine cX (zTt (w / 16777216 % 256)) ?_;intros;apply wr;refine zAC rfl (fun hf=>?_) (fun hf=>?_)
 ·simp at hf;have hv:validD (decI w)=false:=by simp [validD,decI,hf]
  refine au ?_;intros;apply wr;refine zAI ?_;refine zAB ?_;simp [hv,zDx]
 simp at hf;refine au ?_;intros;apply wr;refine cX (zNb w) ?_;intros;apply wr;by_cases e2:zAH (w / 16777216 % 256)=2
 ·have hd:decI w=⟨w / 16777216 % 256,w / 1048576 % 16,w / 65536 % 16,w % 65536,0⟩:=by simp [decI,e2]
  refine zAC rfl (fun _=>?_) (fun h=>by simp [uC,e2] at h)
  refine au1 @c4 ?_;intros;apply wr;refine cc (zJM (⟨w / 16777216 % 256,w / 1048576 % 16,w / 65536 % 16,w % 65536,0⟩:InstD)) ?_;cases hv:validD (⟨w / 16777216 % 256,w / 1048576 % 16,w / 65536 % 16,w % 65536,0⟩:InstD) with
  | false =>
   refine au ?_;intros;apply wr;refine gT00 rfl ?_;intros;apply wr;refine zAI ?_;refine zAB ?_;simp [hd,hv,zDx]
  | true =>
   refine au ?_;intros;apply wr;refine gF00 rfl ?_;intros;apply wr;refine zAI ?_;refine zAB ?_;simp [hd,hv,zDx]
 refine zAC rfl (fun h=>by simp [uC,e2] at h) (fun _=>?_)
 refine au ?_;intros;apply wr;by_cases e3:zAH (w / 16777216 % 256)=3\/zAH (w / 16777216 % 256)=7
 ·have hd:decI w=⟨w / 16777216 % 256,w / 1048576 % 16,w / 65536 % 16,0,sext (w % 65536)⟩:=by simp [decI,e2,e3]
  have hl:lowD (zAH (w / 16777216 % 256))=-32768:=by simp [lowD,e3]
  refine zAC rfl (fun _=>?_) (fun h=>by simp [hl] at h)
  refine au ?_;intros;apply wr;refine cZ (ext_ok (w % 65536) (by omega) (by omega)) @c6 @c6 ?_;intros;apply wr
  refine cc (zJM (⟨w / 16777216 % 256,w / 1048576 % 16,w / 65536 % 16,0,sext (w % 65536)⟩:InstD)) ?_;cases hv:validD (⟨w / 16777216 % 256,w / 1048576 % 16,w / 65536 % 16,0,sext (w % 65536)⟩:InstD) with
  | false =>
   refine au ?_;intros;apply wr;refine gT00 rfl ?_;intros;apply wr;refine zAI ?_;refine zAB ?_;simp [hd,hv,zDx]
  | true =>
   refine au ?_;intros;apply wr;refine gF00 rfl ?_;intros;apply wr;refine zAI ?_;refine zAB ?_;simp [hd,hv,zDx]
 have hd:decI w=⟨w / 16777216 % 256,w / 1048576 % 16,w / 65536 % 16,0,w % 65536⟩:=by simp [decI,e2,e3]
 have hl:lowD (zAH (w / 16777216 % 256))=0:=by simp [lowD,e3]
 refine zAC rfl (fun h=>by simp [hl] at h) (fun _=>?_)
 refine au1 @c5 ?_;intros;apply wr;refine cc (zJM (⟨w / 16777216 % 256,w / 1048576 % 16,w / 65536 % 16,0,w % 65536⟩:InstD)) ?_;cases hv:validD (⟨w / 16777216 % 256,w / 1048576 % 16,w / 65536 % 16,0,w % 65536⟩:InstD) with
 | false =>
  refine au ?_;intros;apply wr;refine gT00 rfl ?_;intros;apply wr;refine zAI ?_;refine zAB ?_;simp [hd,hv,zDx]
 | true =>
  refine au ?_;intros;apply wr;refine gF00 rfl ?_;intros;apply wr;refine zAI ?_;refine zAB ?_;simp [hd,hv,zDx]
theorem or32 (x y:Int) (t:Nat) (h0:0<=x) (h1:x<4294967296) (hx:x.toNat % 2 ^ t=0) (y0:0<=y) (y1:y.toNat<2 ^ t) (hs:x+y<4294967296):IntKind.u32.wrap (((x % 4294967296).toNat ||| (y % 4294967296).toNat:Nat):Int)=x+y:=by
 have e1:x % 4294967296=x:=by omega
 have e2:y % 4294967296=y:=by omega
 rw [e1,e2];have hWd:x.toNat=(x.toNat / 2 ^ t) <<< t:=by
  rw [Nat.shiftLeft_eq,Nat.mul_comm];have:=Nat.div_add_mod x.toNat (2 ^ t);omega
 have hor:x.toNat ||| y.toNat=x.toNat+y.toNat:=by
  rw [hWd,<- Nat.shiftLeft_add_eq_or_of_lt y1]
 rw [hor,zLg _ (by omega)];omega
theorem zLR (x y:Int) (t:Nat) (h0:0<=x) (h1:x<4294967296) (hx:x.toNat % 2 ^ t=0) (y0:0<=y) (y1:y.toNat<2 ^ t) (hs:x+y<4294967296):IntKind.u32.wrap ((BitVec.ofInt 32 x ||| BitVec.ofInt 32 y).toNat:Int)=x+y:=by
 rw [BitVec.toNat_or,zCr,zCr];exact or32 x y t h0 h1 hx y0 y1 hs
set_option maxHeartbeats 8000000 in
theorem zD6 (i:InstD) (hi:-2147483648<=i.imm/\i.imm<=2147483647):zAD prog 115 [.st i.row] (.tup [.int .u32 (if validD i then encW i else 0),.bool (validD i)]):=by
 refine sX func115 ntmps115 ?_;intros;apply wr;refine cc (zDw i hi) ?_;cases hv:validD i with
 | false =>
  refine au ?_;intros;apply wr;refine gT00 rfl ?_;intros;apply wr;refine zAB ?_;simp [hv]
 | true =>
  obtain ⟨f1,f2,f3,f4,f5,f6⟩:=zEW hv;have w1:IntKind.u32.wrap i.op=i.op:=by rw [IntKind.wrap_u32];omega
  have w2:IntKind.u32.wrap i.a=i.a:=by rw [IntKind.wrap_u32];omega
  have w3:IntKind.u32.wrap i.b=i.b:=by rw [IntKind.wrap_u32];omega
  have w4:IntKind.u32.wrap i.c=i.c:=by rw [IntKind.wrap_u32];omega
  have s1:IntKind.u32.wrap (i.op*16777216)=i.op*16777216:=by rw [IntKind.wrap_u32];omega
  have s2:IntKind.u32.wrap (i.a*1048576)=i.a*1048576:=by rw [IntKind.wrap_u32];omega
  have s3:IntKind.u32.wrap (i.b*65536)=i.b*65536:=by rw [IntKind.wrap_u32];omega
  refine au ?_;intros;apply wr;refine gF01 rfl (kX7 @w1 @w2 @w3 @w4 @s1 @s2 @s3) ?_;intros;apply wr;refine zAB ?_;simp [encW,hv,w1,w2,w3,w4,s1,s2,s3];have m1:=zBJ (IntKind.u32.wrap i.imm) 16 65536 (by omega) (by decide)
  rw [show (65536-1:Nat)=65535 from rfl,IntKind.wrap_u32 i.imm] at m1
  have m2:i.imm % 4294967296 % ((65536:Nat):Int)=i.imm % 65536:=by omega
  rw [m2,<- IntKind.wrap_u32 i.imm] at m1
  change IntKind.u32.wrap ((BitVec.ofInt 32 (IntKind.u32.wrap ((BitVec.ofInt 32 (IntKind.u32.wrap ((BitVec.ofInt 32 (IntKind.u32.wrap ((BitVec.ofInt 32 (i.op*16777216) ||| BitVec.ofInt 32 (i.a*1048576)).toNat:Int)) ||| BitVec.ofInt 32 (i.b*65536)).toNat:Int)) ||| BitVec.ofInt 32 (IntKind.u32.wrap ((BitVec.ofInt 32 (IntKind.u32.wrap i.imm) &&& 65535#32).toNat:Int))).toNat:Int)) ||| BitVec.ofInt 32 i.c).toNat:Int)=_
  rw [m1,zLR (i.op*16777216) (i.a*1048576) 24 (by omega) (by omega) (by omega) (by omega) (by omega) (by omega),
   zLR (i.op*16777216+i.a*1048576) (i.b*65536) 20 (by omega) (by omega) (by omega) (by omega) (by omega) (by omega),
   zLR (i.op*16777216+i.a*1048576+i.b*65536) (i.imm % 65536) 16 (by omega) (by omega) (by omega) (by omega) (by omega) (by omega)]
  rcases f6 with h|h
  ·rw [h,show BitVec.ofInt 32 0=0#32 by decide,BitVec.or_zero,zCr,zLg _ (by omega)];omega
  rw [h,zLR (i.op*16777216+i.a*1048576+i.b*65536+0 % 65536) i.c 16 (by omega) (by omega) (by omega) (by omega) (by omega) (by omega)];omega
end Go.Proofs.YthjpcmecgjfilaaGreat
end
section
namespace Go.Proofs.YthjpcmecgjfilaaGreat
open Go.Ab Go.RowKit Tryz
abbrev W32 (n:Int):Prop:=0<=n/\n<4294967296
abbrev uw (n:Int):Int:=IntKind.u32.wrap n
abbrev sw (n:Int):Int:=IntKind.i32.wrap n
def divQ (a b:Int):Int:=if b=0 then 4294967295 else uw ((sw a).tdiv (sw b))
def divR (a b:Int):Int:=if b=0 then a else uw ((sw a).tmod (sw b))
def b2w (b:Bool):Int:=if b then 1 else 0
def aluD (op a b:Int):Option Int :=
 if op=1\/op=16 then some (uw (a+b))
 else if op=2 then some (uw (a-b))
 else if op=3\/op=17 then some (iand .u32 a b)
 else if op=4\/op=18 then some (ior .u32 a b)
 else if op=5\/op=19 then some (ixor .u32 a b)
 else if op=6\/op=20 then some (uw (a*2 ^ (b % 32).toNat))
 else if op=7\/op=21 then some (a / 2 ^ (b % 32).toNat)
 else if op=8\/op=22 then some (uw (sw a / 2 ^ (b % 32).toNat))
 else if op=9 then some (uw (a*b))
 else if op=10 then some (divQ a b)
 else if op=11 then some (divR a b)
 else if op=12\/op=23 then some (b2w (decide (sw a<sw b)))
 else if op=13 then some (b2w (decide (a<b)))
 else none
def CpuD.setX (c:CpuD) (r:Int) (v:Int):CpuD:=⟨fun i=>if (i:Int)=r then v else c.x i,c.pc,c.csr⟩
def CpuD.setR (c:CpuD) (r:Int) (v:Int):CpuD:=if r=0 then c else c.setX r v
def CpuD.setS (c:CpuD) (r:Int) (v:Int):CpuD:=⟨c.x,c.pc,fun i=>if (i:Int)=r then v else c.csr i⟩
def CpuD.setP (c:CpuD) (p:Int):CpuD:=⟨c.x,p,c.csr⟩
def zKe (s:Int):Int:=1+s / 4 % 2*4+s % 2*8+s / 2 % 2*16
def retS (s:Int):Int:=s / 8 % 2+s / 16 % 2*2+s / 4 % 2*4+s / 8 % 2*8+s / 16 % 2*16
def zBE (c:CpuD) (cause bad:Int):CpuD :=
 ⟨c.x,c.csr 1,fun i=>if i=0 then zKe (c.csr 0) else if i=2 then c.pc else if i=3 then uw cause else if i=4 then bad else c.csr i⟩
def retD (c:CpuD):CpuD:=⟨c.x,c.csr 2,fun i=>if i=0 then retS (c.csr 0) else c.csr i⟩
def zBG (c:CpuD) (k v:Int):CpuD :=
 if k=0\/k=7 then c.setS k (iand .u32 v 31)
 else if k=6 then c.setS k (iand .u32 v 255)
 else if k=1\/k=2 then c.setS k (zCn .u32 v 3)
 else if k=3\/k=4\/k=5 then c.setS k v
 else c
def wAt (mem:List Int) (a:Int):Int:=mem.getD a.toNat 0
def zAR (mem:List Int) (a size:Int):Bool:=(decide (size=1)||(decide (size=4)&&decide (a % 4=0)))&&decide (a+size<=pagesD mem*128)
def byteAt (w k:Int):Int:=w / 2 ^ (8*k).toNat % 256
def putB (w k v:Int):Int:=w-byteAt w k*2 ^ (8*k).toNat+v % 256*2 ^ (8*k).toNat
def zBs (mem:List Int) (a size:Int):Int:=if size=1 then byteAt (wAt mem (a / 4)) (a % 4) else wAt mem (a / 4)
def zBi (mem:List Int) (a size v:Int):List Int:=mem.set (a / 4).toNat (if size=1 then putB (wAt mem (a / 4)) (a % 4) v else v)
def zSL (w access:Int):Bool :=
 !decide (iand .u32 w 1=0)&&(if access=3 then !decide (iand .u32 w 2=0) else if access=1 then !decide (iand .u32 w 4=0) else true)
def zHl (mem:List Int) (root va access:Int):Option (Int × Int) :=
 if va<4096/\root<pagesD mem/\zSL (wAt mem ((root*128+va / 128*4) / 4)) access=true/\wAt mem ((root*128+va / 128*4) / 4) / 256 % 256<pagesD mem then
  some (wAt mem ((root*128+va / 128*4) / 4) / 256 % 256*128+va % 128,root*128+va / 128*4)
 else none
def zM9 (w access:Int):Int:=if access=3 then ior .u32 (ior .u32 w 8) 16 else ior .u32 w 8
def zE8 (mem:List Int) (entry access:Int):List Int:=mem.set (entry / 4).toNat (zM9 (wAt mem (entry / 4)) access)
def zDX (c:CpuD):Bool:=decide (c.csr 0 % 2=0)&&decide (c.csr 0 / 4 % 2=1)
def zAE (c:CpuD) (mem:List Int) (va size access:Int):Int × List Int × Int :=
 if va % size≠0 then (0,mem,3)
 else if zDX c=true then match zHl mem (c.csr 6) va access with
  | none=>(0,mem,access+3)
  | some (a,e)=>(a,zE8 mem e access,0)
 else if zAR mem va size=true then (va,mem,0)
 else (0,mem,access+3)
def zE7 (op a b:Int):Bool :=
 if op=40 then decide (a=b) else if op=41 then !decide (a=b) else if op=42 then decide (sw a<sw b) else if op=43 then !decide (sw a<sw b) else if op=44 then decide (a<b) else !decide (a<b)
structure EffD where
 kind:Int
 port:Int
 reg:Int
 val:Int
abbrev EffD.row (e:EffD):List V:=[iv e.kind,iv e.port,iv e.reg,uv e.val]
def zEff:EffD:=⟨0,0,0,0⟩
def zAX (op:Int):Int:=if op=32\/op=35 then 4 else 1
def zAF (c:CpuD) (i:InstD):CpuD × EffD :=
 if i.op=24 then ((c.setR i.a (uw (uw i.imm*65536))).setP (uw (c.pc+4)),zEff)
 else if 40<=i.op/\i.op<=45 then (c.setP (if zE7 i.op (c.x i.a.toNat) (c.x i.b.toNat)=true then uw (c.pc+uw (4*uw i.imm)) else uw (c.pc+4)),zEff)
 else if i.op=48 then ((c.setR i.a (uw (c.pc+4))).setP (uw (c.pc+uw (4*uw i.imm))),zEff)
 else if i.op=49 then ((c.setR i.a (uw (c.pc+4))).setP (uw (c.x i.b.toNat+uw i.imm)),zEff)
 else if i.op=56 then (zBE c 7 0,zEff)
 else if i.op=57 then (retD c,zEff)
 else if i.op=58 then ((c.setR i.a (c.csr i.imm.toNat)).setP (uw (c.pc+4)),zEff)
 else if i.op=59 then ((zBG c i.imm (c.x i.a.toNat)).setP (uw (c.pc+4)),zEff)
 else if i.op=60 then (c.setP (uw (c.pc+4)),⟨1,i.imm,i.a,0⟩)
 else if i.op=61 then (c.setP (uw (c.pc+4)),⟨2,i.imm,0,c.x i.a.toNat⟩)
 else if i.op=62 then (c.setP (uw (c.pc+4)),⟨3,0,0,0⟩)
 else if i.op=63 then (c.setP (uw (c.pc+4)),⟨5,0,0,0⟩)
 else if i.op=64 then (c.setP (uw (c.pc+4)),⟨4,0,0,0⟩)
 else ((c.setR i.a ((aluD i.op (c.x i.b.toNat) (if 16<=i.op then uw i.imm else c.x i.c.toNat)).getD 0)).setP (uw (c.pc+4)),zEff)
def zJD (v:Int):Int:=if v<128 then v else v+4294967040
def zA6 (c:CpuD) (mem:List Int) (i:InstD):CpuD × List Int :=
 match zAE c mem (uw (c.x i.b.toNat+uw i.imm)) (zAX i.op) 2 with
 | (a,m,cause)=>if cause≠0 then (zBE c cause (uw (c.x i.b.toNat+uw i.imm)),m) else
  ((c.setR i.a (if i.op=33 then zJD (zBs m a (zAX i.op)) else zBs m a (zAX i.op))).setP (uw (c.pc+4)),m)
def zAP (c:CpuD) (mem:List Int) (i:InstD):CpuD × List Int :=
 match zAE c mem (uw (c.x i.b.toNat+uw i.imm)) (zAX i.op) 3 with
 | (a,m,cause)=>if cause≠0 then (zBE c cause (uw (c.x i.b.toNat+uw i.imm)),m) else
  (c.setP (uw (c.pc+4)),zBi m a (zAX i.op) (c.x i.a.toNat))
def zLU (op:Int):Bool:=decide (57<=op)&&decide (op<=64)
def zBk (c:CpuD) (mem:List Int) (w:Int):CpuD × List Int × EffD :=
 if validD (decI w)=false then (zBE c 1 w,mem,zEff)
 else if zLU (decI w).op=true/\c.csr 0 % 2=0 then (zBE c 2 w,mem,zEff)
 else if 32<=(decI w).op/\(decI w).op<=34 then ((zA6 c mem (decI w)).1,(zA6 c mem (decI w)).2,zEff)
 else if 35<=(decI w).op/\(decI w).op<=36 then ((zAP c mem (decI w)).1,(zAP c mem (decI w)).2,zEff)
 else ((zAF c (decI w)).1,mem,(zAF c (decI w)).2)
def zAl (c:CpuD) (mem:List Int):CpuD × List Int × EffD :=
 match zAE c mem c.pc 4 1 with
 | (a,m,cause)=>if cause≠0 then (zBE c cause c.pc,m,zEff) else zBk c m (wAt m (a / 4))
end Go.Proofs.YthjpcmecgjfilaaGreat
end
