/- A part of the proof of ReplicaHalts. -/
import Derived.Test.YthjpcmecgjfilaaGreatH04
import Derived.Test.YthjpcmecgjfilaaGreatH07
set_option linter.unusedSimpArgs false
set_option linter.unusedVariables false
set_option maxHeartbeats 16000000
set_option maxRecDepth 100000
section
namespace Go.Proofs.YthjpcmecgjfilaaGreat
open Go.Ab Tryz
@[simp] theorem wl0:IntKind.u64.wrap 0=0:=by decide
@[simp] theorem wl4:IntKind.u64.wrap 4=4:=by decide
@[simp] theorem wl8:IntKind.u64.wrap 8=8:=by decide
@[simp] theorem wl16:IntKind.u64.wrap 16=16:=by decide
@[simp] theorem wl20:IntKind.u64.wrap 20=20:=by decide
@[simp] theorem wl24:IntKind.u64.wrap 24=24:=by decide
@[simp] theorem wi16:IntKind.i64.wrap 16=16:=by decide
@[simp] theorem b32:IntKind.u32.bits=32:=rfl
@[simp] theorem bi32:IntKind.i32.bits=32:=rfl
theorem zD5:zAD prog 324 [.int .i64 8] (.int .u32 255):=by
 refine sX func324 ntmps324 ?_;intros;apply wr;refine gF00 rfl ?_;intros;apply wr;refine zAB ?_;simp
 try decide
theorem zMD:zAD prog 324 [.int .i64 4] (.int .u32 15):=by
 refine sX func324 ntmps324 ?_;intros;apply wr;refine gF00 rfl ?_;intros;apply wr;refine zAB ?_;simp
 try decide
theorem zPN:zAD prog 324 [.int .i64 16] (.int .u32 65535):=by
 refine sX func324 ntmps324 ?_;intros;apply wr;refine gF00 rfl ?_;intros;apply wr;refine zAB ?_;simp
 try decide
theorem zLW (n:Nat) (h:n<4294967296):IntKind.u32.wrap (n:Int)=n:=by rw [IntKind.wrap_u32];omega
theorem zCm (x:Int):(BitVec.ofInt 32 x).toNat=(x % 4294967296).toNat:=by
 rw [BitVec.toNat_ofInt];rfl
theorem zBJ (x:Int) (k B:Nat) (hk:k<=32) (hB:B=2 ^ k):IntKind.u32.wrap ((BitVec.ofInt 32 x &&& BitVec.ofNat 32 (B-1)).toNat:Int)=x % (B:Int):=by
 have hle:B<=4294967296:=by rw [hB];exact Nat.pow_le_pow_right (by omega) hk
 have hpos:0<B:=by rw [hB];exact Nat.two_pow_pos k
 have e:(BitVec.ofInt 32 x &&& BitVec.ofNat 32 (B-1)).toNat=(x % (B:Int)).toNat:=by
  rw [BitVec.toNat_and,zCm,BitVec.toNat_ofNat,Nat.mod_eq_of_lt (show B-1<2 ^ 32 by omega),hB,Nat.and_two_pow_sub_one_eq_mod,<- hB]
  have hd:(B:Int) ∣ 4294967296:=by
   have:B ∣ 4294967296:=by rw [hB];exact Nat.pow_dvd_pow 2 hk
   exact Int.ofNat_dvd.2 this
  have h1:=Int.emod_emod_of_dvd x hd;have h2:=Int.emod_nonneg x (show (4294967296:Int)≠0 by omega)
  have:((x % 4294967296).toNat % B:Nat)=((x % 4294967296) % (B:Int)).toNat:=by
   have:((x % 4294967296).toNat:Int)=x % 4294967296:=by omega
   rw [<- this];rfl
  rw [this,h1]
 have h3:=Int.emod_nonneg x (show (B:Int)≠0 by omega)
 have h4:=Int.emod_lt_of_pos x (show (0:Int)<B by omega)
 rw [e,zLW _ (by omega)];omega
theorem zOp (w:Int):zAD prog 297 [.int .u32 w,.int .i64 24,.int .i64 8] (.int .u32 (w / 16777216 % 256)):=by
 refine sX func297 ntmps297 ?_;intros;apply wr;refine gF00 rfl ?_;intros;apply wr;refine cX (zD5) ?_;intros;apply wr;refine zAB ?_;simp;rw [zWC _ (by omega)]
 exact zBJ (w / 16777216) 8 256 (by omega) (by decide)
theorem zOo (w:Int):zAD prog 297 [.int .u32 w,.int .i64 20,.int .i64 4] (.int .u32 (w / 1048576 % 16)):=by
 refine sX func297 ntmps297 ?_;intros;apply wr;refine gF00 rfl ?_;intros;apply wr;refine cX (zMD) ?_;intros;apply wr;refine zAB ?_;simp;rw [zWC _ (by omega)]
 exact zBJ (w / 1048576) 4 16 (by omega) (by decide)
theorem zNM (w:Int):zAD prog 297 [.int .u32 w,.int .i64 16,.int .i64 4] (.int .u32 (w / 65536 % 16)):=by
 refine sX func297 ntmps297 ?_;intros;apply wr;refine gF00 rfl ?_;intros;apply wr;refine cX (zMD) ?_;intros;apply wr;refine zAB ?_;simp;rw [zWC _ (by omega)]
 exact zBJ (w / 65536) 4 16 (by omega) (by decide)
theorem zNL (w:Int):zAD prog 297 [.int .u32 w,.int .i64 0,.int .i64 16] (.int .u32 (w % 65536)):=by
 refine sX func297 ntmps297 ?_;intros;apply wr;refine gF00 rfl ?_;intros;apply wr;refine cX (zPN) ?_;intros;apply wr;refine zAB ?_;simp
 try rw [zWC _ (by omega),Int.ediv_one]
 exact zBJ w 16 65536 (by omega) (by decide)
theorem ext_ok (x:Int) (h0:0<=x) (h1:x<65536):zAD prog 299 [.int .u32 x,.int .i64 16] (.int .u32 (if x<32768 then x else x+4294901760)):=by
 refine sX func299 ntmps299 ?_;intros;apply wr;refine gF00 rfl ?_;intros;apply wr;refine gF00 rfl ?_;intros;apply wr;refine zAB ?_;simp;simp only [IntKind.wrap_u32,IntKind.wrap_i32];rw [zWC _ (by omega)]
 split<;>omega
theorem zRQ {op:Int} (h:zAH op≠0):1<=op/\op<=64:=by
 apply Classical.byContradiction;intro hn;apply h;unfold zAH
 repeat rw [if_neg (by omega)]
theorem zES {i:InstD} (h:validD i=true):(1<=i.op/\i.op<=64)/\(0<=i.a/\i.a<=15)/\(0<=i.b/\i.b<=15)/\(0<=i.c/\i.c<=15)/\(-32768<=i.imm/\i.imm<=65535)/\(i.c=0\/i.imm=0):=by
 have h0:zAH i.op≠0:=by
  unfold validD at h;simp only [zV5,decide_eq_true_eq] at h;exact h.1.1.1.1.1
 refine ⟨zRQ h0,?_⟩;rcases zDG i.op with q|q|q|q|q|q|q|q|q|q<;>simp [validD,regB,uA,uB,uC,lowD,zAd,q] at h<;>omega
def encW (i:InstD):Int:=i.op*16777216+i.a*1048576+i.b*65536+(i.c+i.imm) % 65536
def sext (x:Int):Int:=if x<32768 then x else x-65536
def decI (w:Int):InstD:=⟨w / 16777216 % 256,w / 1048576 % 16,w / 65536 % 16,if zAH (w / 16777216 % 256)=2 then w % 65536 else 0,
 if zAH (w / 16777216 % 256)=2 then 0 else if zAH (w / 16777216 % 256)=3\/zAH (w / 16777216 % 256)=7 then sext (w % 65536) else w % 65536⟩
def zDv:InstD:=⟨0,0,0,0,0⟩
abbrev decV (w:Int):V:=.tup [.st (if validD (decI w) then decI w else zDv).row,.bool (validD (decI w))]
set_option maxHeartbeats 16000000 in
theorem decode_ok (w:Int):zAD prog 235 [.int .u32 w] (decV w):=by
 have c1:IntKind.i64.wrap (w / 16777216 % 256)=w / 16777216 % 256:=zAA (by omega) (by omega)
 have c2:IntKind.i64.wrap (w / 1048576 % 16)=w / 1048576 % 16:=zAA (by omega) (by omega)
 have c3:IntKind.i64.wrap (w / 65536 % 16)=w / 65536 % 16:=zAA (by omega) (by omega)
 have c4:IntKind.i64.wrap (w % 65536)=w % 65536:=zAA (by omega) (by omega)
 have c5:IntKind.i32.wrap (w % 65536)=w % 65536:=by rw [IntKind.wrap_i32];omega
 have c6:IntKind.i32.wrap (if w % 65536<32768 then w % 65536 else w % 65536+4294901760)=sext (w % 65536):=by rw [IntKind.wrap_i32];unfold sext;split<;>omega
 refine sX func235 ntmps235 ?_;intros;apply wr;refine cZ (zOp w) @c1 @c1 ?_;intros;apply wr;refine cZ (zOo w) @c2 @c2 ?_;intros;apply wr;refine cZ (zNM w) @c3 @c3 ?_;intros;apply wr;refine cX (zTf (w / 16777216 % 256)) ?_;intros;apply wr;refine zAC rfl (fun hf=>?_) (fun hf=>?_)
 ·simp at hf;have hv:validD (decI w)=false:=by simp [validD,decI,hf]
  refine au ?_;intros;apply wr;refine zAI ?_;refine zAB ?_;simp [hv,zDv]
 simp at hf;refine au ?_;intros;apply wr;refine cX (zNL w) ?_;intros;apply wr;by_cases e2:zAH (w / 16777216 % 256)=2
 ·have hd:decI w=⟨w / 16777216 % 256,w / 1048576 % 16,w / 65536 % 16,w % 65536,0⟩:=by simp [decI,e2]
  refine zAC rfl (fun _=>?_) (fun h=>by simp [uC,e2] at h)
  refine au1 @c4 ?_;intros;apply wr;refine cc (zJC (⟨w / 16777216 % 256,w / 1048576 % 16,w / 65536 % 16,w % 65536,0⟩:InstD)) ?_;cases hv:validD (⟨w / 16777216 % 256,w / 1048576 % 16,w / 65536 % 16,w % 65536,0⟩:InstD) with
  | false =>
   refine au ?_;intros;apply wr;refine gT00 rfl ?_;intros;apply wr;refine zAI ?_;refine zAB ?_;simp [hd,hv,zDv]
  | true =>
   refine au ?_;intros;apply wr;refine gF00 rfl ?_;intros;apply wr;refine zAI ?_;refine zAB ?_;simp [hd,hv,zDv]
 refine zAC rfl (fun h=>by simp [uC,e2] at h) (fun _=>?_)
 refine au ?_;intros;apply wr;by_cases e3:zAH (w / 16777216 % 256)=3\/zAH (w / 16777216 % 256)=7
 ·have hd:decI w=⟨w / 16777216 % 256,w / 1048576 % 16,w / 65536 % 16,0,sext (w % 65536)⟩:=by simp [decI,e2,e3]
  have hl:lowD (zAH (w / 16777216 % 256))=-32768:=by simp [lowD,e3]
  refine zAC rfl (fun _=>?_) (fun h=>by simp [hl] at h)
  refine au ?_;intros;apply wr;refine cZ (ext_ok (w % 65536) (by omega) (by omega)) @c6 @c6 ?_;intros;apply wr
  refine cc (zJC (⟨w / 16777216 % 256,w / 1048576 % 16,w / 65536 % 16,0,sext (w % 65536)⟩:InstD)) ?_;cases hv:validD (⟨w / 16777216 % 256,w / 1048576 % 16,w / 65536 % 16,0,sext (w % 65536)⟩:InstD) with
  | false =>
   refine au ?_;intros;apply wr;refine gT00 rfl ?_;intros;apply wr;refine zAI ?_;refine zAB ?_;simp [hd,hv,zDv]
  | true =>
   refine au ?_;intros;apply wr;refine gF00 rfl ?_;intros;apply wr;refine zAI ?_;refine zAB ?_;simp [hd,hv,zDv]
 have hd:decI w=⟨w / 16777216 % 256,w / 1048576 % 16,w / 65536 % 16,0,w % 65536⟩:=by simp [decI,e2,e3]
 have hl:lowD (zAH (w / 16777216 % 256))=0:=by simp [lowD,e3]
 refine zAC rfl (fun h=>by simp [hl] at h) (fun _=>?_)
 refine au1 @c5 ?_;intros;apply wr;refine cc (zJC (⟨w / 16777216 % 256,w / 1048576 % 16,w / 65536 % 16,0,w % 65536⟩:InstD)) ?_;cases hv:validD (⟨w / 16777216 % 256,w / 1048576 % 16,w / 65536 % 16,0,w % 65536⟩:InstD) with
 | false =>
  refine au ?_;intros;apply wr;refine gT00 rfl ?_;intros;apply wr;refine zAI ?_;refine zAB ?_;simp [hd,hv,zDv]
 | true =>
  refine au ?_;intros;apply wr;refine gF00 rfl ?_;intros;apply wr;refine zAI ?_;refine zAB ?_;simp [hd,hv,zDv]
theorem or32 (x y:Int) (t:Nat) (h0:0<=x) (h1:x<4294967296) (hx:x.toNat % 2 ^ t=0) (y0:0<=y) (y1:y.toNat<2 ^ t) (hs:x+y<4294967296):IntKind.u32.wrap (((x % 4294967296).toNat ||| (y % 4294967296).toNat:Nat):Int)=x+y:=by
 have e1:x % 4294967296=x:=by omega
 have e2:y % 4294967296=y:=by omega
 rw [e1,e2];have hWd:x.toNat=(x.toNat / 2 ^ t) <<< t:=by
  rw [Nat.shiftLeft_eq,Nat.mul_comm];have:=Nat.div_add_mod x.toNat (2 ^ t);omega
 have hor:x.toNat ||| y.toNat=x.toNat+y.toNat:=by
  rw [hWd,<- Nat.shiftLeft_add_eq_or_of_lt y1]
 rw [hor,zLW _ (by omega)];omega
theorem zLH (x y:Int) (t:Nat) (h0:0<=x) (h1:x<4294967296) (hx:x.toNat % 2 ^ t=0) (y0:0<=y) (y1:y.toNat<2 ^ t) (hs:x+y<4294967296):IntKind.u32.wrap ((BitVec.ofInt 32 x ||| BitVec.ofInt 32 y).toNat:Int)=x+y:=by
 rw [BitVec.toNat_or,zCm,zCm];exact or32 x y t h0 h1 hx y0 y1 hs
set_option maxHeartbeats 8000000 in
theorem zD1 (i:InstD) (hi:-2147483648<=i.imm/\i.imm<=2147483647):zAD prog 115 [.st i.row] (.tup [.int .u32 (if validD i then encW i else 0),.bool (validD i)]):=by
 refine sX func115 ntmps115 ?_;intros;apply wr;refine cc (zDt i hi) ?_;cases hv:validD i with
 | false =>
  refine au ?_;intros;apply wr;refine gT00 rfl ?_;intros;apply wr;refine zAB ?_;simp [hv]
 | true =>
  obtain ⟨f1,f2,f3,f4,f5,f6⟩:=zES hv;have w1:IntKind.u32.wrap i.op=i.op:=by rw [IntKind.wrap_u32];omega
  have w2:IntKind.u32.wrap i.a=i.a:=by rw [IntKind.wrap_u32];omega
  have w3:IntKind.u32.wrap i.b=i.b:=by rw [IntKind.wrap_u32];omega
  have w4:IntKind.u32.wrap i.c=i.c:=by rw [IntKind.wrap_u32];omega
  have s1:IntKind.u32.wrap (i.op*16777216)=i.op*16777216:=by rw [IntKind.wrap_u32];omega
  have s2:IntKind.u32.wrap (i.a*1048576)=i.a*1048576:=by rw [IntKind.wrap_u32];omega
  have s3:IntKind.u32.wrap (i.b*65536)=i.b*65536:=by rw [IntKind.wrap_u32];omega
  refine au ?_;intros;apply wr;refine gF01 rfl (kX7 @w1 @w2 @w3 @w4 @s1 @s2 @s3) ?_;intros;apply wr;refine zAB ?_;simp [encW,hv,w1,w2,w3,w4,s1,s2,s3];have m1:=zBJ (IntKind.u32.wrap i.imm) 16 65536 (by omega) (by decide)
  rw [show (65536-1:Nat)=65535 from rfl,IntKind.wrap_u32 i.imm] at m1
  have m2:i.imm % 4294967296 % ((65536:Nat):Int)=i.imm % 65536:=by omega
  rw [m2,<- IntKind.wrap_u32 i.imm] at m1
  change IntKind.u32.wrap ((BitVec.ofInt 32 (IntKind.u32.wrap ((BitVec.ofInt 32 (IntKind.u32.wrap ((BitVec.ofInt 32 (IntKind.u32.wrap ((BitVec.ofInt 32 (i.op*16777216) ||| BitVec.ofInt 32 (i.a*1048576)).toNat:Int)) ||| BitVec.ofInt 32 (i.b*65536)).toNat:Int)) ||| BitVec.ofInt 32 (IntKind.u32.wrap ((BitVec.ofInt 32 (IntKind.u32.wrap i.imm) &&& 65535#32).toNat:Int))).toNat:Int)) ||| BitVec.ofInt 32 i.c).toNat:Int)=_
  rw [m1,zLH (i.op*16777216) (i.a*1048576) 24 (by omega) (by omega) (by omega) (by omega) (by omega) (by omega),
   zLH (i.op*16777216+i.a*1048576) (i.b*65536) 20 (by omega) (by omega) (by omega) (by omega) (by omega) (by omega),
   zLH (i.op*16777216+i.a*1048576+i.b*65536) (i.imm % 65536) 16 (by omega) (by omega) (by omega) (by omega) (by omega) (by omega)]
  rcases f6 with h|h
  ·rw [h,show BitVec.ofInt 32 0=0#32 by decide,BitVec.or_zero,zCm,zLW _ (by omega)];omega
  rw [h,zLH (i.op*16777216+i.a*1048576+i.b*65536+0 % 65536) i.c 16 (by omega) (by omega) (by omega) (by omega) (by omega) (by omega)];omega
end Go.Proofs.YthjpcmecgjfilaaGreat
end
section
namespace Go.Proofs.YthjpcmecgjfilaaGreat
open Go.Ab Go.RowKit Tryz
abbrev W32 (n:Int):Prop:=0<=n/\n<4294967296
abbrev uw (n:Int):Int:=IntKind.u32.wrap n
abbrev sw (n:Int):Int:=IntKind.i32.wrap n
def divQ (a b:Int):Int:=if b=0 then 4294967295 else uw ((sw a).tdiv (sw b))
def divR (a b:Int):Int:=if b=0 then a else uw ((sw a).tmod (sw b))
def b2w (b:Bool):Int:=if b then 1 else 0
def aluD (op a b:Int):Option Int :=
 if op=1\/op=16 then some (uw (a+b))
 else if op=2 then some (uw (a-b))
 else if op=3\/op=17 then some (iand .u32 a b)
 else if op=4\/op=18 then some (ior .u32 a b)
 else if op=5\/op=19 then some (ixor .u32 a b)
 else if op=6\/op=20 then some (uw (a*2 ^ (b % 32).toNat))
 else if op=7\/op=21 then some (a / 2 ^ (b % 32).toNat)
 else if op=8\/op=22 then some (uw (sw a / 2 ^ (b % 32).toNat))
 else if op=9 then some (uw (a*b))
 else if op=10 then some (divQ a b)
 else if op=11 then some (divR a b)
 else if op=12\/op=23 then some (b2w (decide (sw a<sw b)))
 else if op=13 then some (b2w (decide (a<b)))
 else none
def CpuD.setX (c:CpuD) (r:Int) (v:Int):CpuD:=⟨fun i=>if (i:Int)=r then v else c.x i,c.pc,c.csr⟩
def CpuD.setR (c:CpuD) (r:Int) (v:Int):CpuD:=if r=0 then c else c.setX r v
def CpuD.setS (c:CpuD) (r:Int) (v:Int):CpuD:=⟨c.x,c.pc,fun i=>if (i:Int)=r then v else c.csr i⟩
def CpuD.setP (c:CpuD) (p:Int):CpuD:=⟨c.x,p,c.csr⟩
def zKU (s:Int):Int:=1+s / 4 % 2*4+s % 2*8+s / 2 % 2*16
def retS (s:Int):Int:=s / 8 % 2+s / 16 % 2*2+s / 4 % 2*4+s / 8 % 2*8+s / 16 % 2*16
def zBF (c:CpuD) (cause bad:Int):CpuD :=
 ⟨c.x,c.csr 1,fun i=>if i=0 then zKU (c.csr 0) else if i=2 then c.pc else if i=3 then uw cause else if i=4 then bad else c.csr i⟩
def retD (c:CpuD):CpuD:=⟨c.x,c.csr 2,fun i=>if i=0 then retS (c.csr 0) else c.csr i⟩
def zBG (c:CpuD) (k v:Int):CpuD :=
 if k=0\/k=7 then c.setS k (iand .u32 v 31)
 else if k=6 then c.setS k (iand .u32 v 255)
 else if k=1\/k=2 then c.setS k (zCi .u32 v 3)
 else if k=3\/k=4\/k=5 then c.setS k v
 else c
def wAt (mem:List Int) (a:Int):Int:=mem.getD a.toNat 0
def zAR (mem:List Int) (a size:Int):Bool:=(decide (size=1)||(decide (size=4)&&decide (a % 4=0)))&&decide (a+size<=pagesD mem*128)
def byteAt (w k:Int):Int:=w / 2 ^ (8*k).toNat % 256
def putB (w k v:Int):Int:=w-byteAt w k*2 ^ (8*k).toNat+v % 256*2 ^ (8*k).toNat
def zBl (mem:List Int) (a size:Int):Int:=if size=1 then byteAt (wAt mem (a / 4)) (a % 4) else wAt mem (a / 4)
def zCp (mem:List Int) (a size v:Int):List Int:=mem.set (a / 4).toNat (if size=1 then putB (wAt mem (a / 4)) (a % 4) v else v)
def zSA (w access:Int):Bool :=
 !decide (iand .u32 w 1=0)&&(if access=3 then !decide (iand .u32 w 2=0) else if access=1 then !decide (iand .u32 w 4=0) else true)
def zHg (mem:List Int) (root va access:Int):Option (Int × Int) :=
 if va<4096/\root<pagesD mem/\zSA (wAt mem ((root*128+va / 128*4) / 4)) access=true/\wAt mem ((root*128+va / 128*4) / 4) / 256 % 256<pagesD mem then
  some (wAt mem ((root*128+va / 128*4) / 4) / 256 % 256*128+va % 128,root*128+va / 128*4)
 else none
def zMs (w access:Int):Int:=if access=3 then ior .u32 (ior .u32 w 8) 16 else ior .u32 w 8
def zEx (mem:List Int) (entry access:Int):List Int:=mem.set (entry / 4).toNat (zMs (wAt mem (entry / 4)) access)
def zDU (c:CpuD):Bool:=decide (c.csr 0 % 2=0)&&decide (c.csr 0 / 4 % 2=1)
def zAF (c:CpuD) (mem:List Int) (va size access:Int):Int × List Int × Int :=
 if va % size≠0 then (0,mem,3)
 else if zDU c=true then match zHg mem (c.csr 6) va access with
  | none=>(0,mem,access+3)
  | some (a,e)=>(a,zEx mem e access,0)
 else if zAR mem va size=true then (va,mem,0)
 else (0,mem,access+3)
def zEw (op a b:Int):Bool :=
 if op=40 then decide (a=b) else if op=41 then !decide (a=b) else if op=42 then decide (sw a<sw b) else if op=43 then !decide (sw a<sw b) else if op=44 then decide (a<b) else !decide (a<b)
structure EffD where
 kind:Int
 port:Int
 reg:Int
 val:Int
abbrev EffD.row (e:EffD):List V:=[iv e.kind,iv e.port,iv e.reg,uv e.val]
def zEff:EffD:=⟨0,0,0,0⟩
def zAW (op:Int):Int:=if op=32\/op=35 then 4 else 1
def zAG (c:CpuD) (i:InstD):CpuD × EffD :=
 if i.op=24 then ((c.setR i.a (uw (uw i.imm*65536))).setP (uw (c.pc+4)),zEff)
 else if 40<=i.op/\i.op<=45 then (c.setP (if zEw i.op (c.x i.a.toNat) (c.x i.b.toNat)=true then uw (c.pc+uw (4*uw i.imm)) else uw (c.pc+4)),zEff)
 else if i.op=48 then ((c.setR i.a (uw (c.pc+4))).setP (uw (c.pc+uw (4*uw i.imm))),zEff)
 else if i.op=49 then ((c.setR i.a (uw (c.pc+4))).setP (uw (c.x i.b.toNat+uw i.imm)),zEff)
 else if i.op=56 then (zBF c 7 0,zEff)
 else if i.op=57 then (retD c,zEff)
 else if i.op=58 then ((c.setR i.a (c.csr i.imm.toNat)).setP (uw (c.pc+4)),zEff)
 else if i.op=59 then ((zBG c i.imm (c.x i.a.toNat)).setP (uw (c.pc+4)),zEff)
 else if i.op=60 then (c.setP (uw (c.pc+4)),⟨1,i.imm,i.a,0⟩)
 else if i.op=61 then (c.setP (uw (c.pc+4)),⟨2,i.imm,0,c.x i.a.toNat⟩)
 else if i.op=62 then (c.setP (uw (c.pc+4)),⟨3,0,0,0⟩)
 else if i.op=63 then (c.setP (uw (c.pc+4)),⟨5,0,0,0⟩)
 else if i.op=64 then (c.setP (uw (c.pc+4)),⟨4,0,0,0⟩)
 else ((c.setR i.a ((aluD i.op (c.x i.b.toNat) (if 16<=i.op then uw i.imm else c.x i.c.toNat)).getD 0)).setP (uw (c.pc+4)),zEff)
def zI4 (v:Int):Int:=if v<128 then v else v+4294967040
def zA4 (c:CpuD) (mem:List Int) (i:InstD):CpuD × List Int :=
 match zAF c mem (uw (c.x i.b.toNat+uw i.imm)) (zAW i.op) 2 with
 | (a,m,cause)=>if cause≠0 then (zBF c cause (uw (c.x i.b.toNat+uw i.imm)),m) else
  ((c.setR i.a (if i.op=33 then zI4 (zBl m a (zAW i.op)) else zBl m a (zAW i.op))).setP (uw (c.pc+4)),m)
def zAP (c:CpuD) (mem:List Int) (i:InstD):CpuD × List Int :=
 match zAF c mem (uw (c.x i.b.toNat+uw i.imm)) (zAW i.op) 3 with
 | (a,m,cause)=>if cause≠0 then (zBF c cause (uw (c.x i.b.toNat+uw i.imm)),m) else
  (c.setP (uw (c.pc+4)),zCp m a (zAW i.op) (c.x i.a.toNat))
def zLK (op:Int):Bool:=decide (57<=op)&&decide (op<=64)
def zBh (c:CpuD) (mem:List Int) (w:Int):CpuD × List Int × EffD :=
 if validD (decI w)=false then (zBF c 1 w,mem,zEff)
 else if zLK (decI w).op=true/\c.csr 0 % 2=0 then (zBF c 2 w,mem,zEff)
 else if 32<=(decI w).op/\(decI w).op<=34 then ((zA4 c mem (decI w)).1,(zA4 c mem (decI w)).2,zEff)
 else if 35<=(decI w).op/\(decI w).op<=36 then ((zAP c mem (decI w)).1,(zAP c mem (decI w)).2,zEff)
 else ((zAG c (decI w)).1,mem,(zAG c (decI w)).2)
def zAo (c:CpuD) (mem:List Int):CpuD × List Int × EffD :=
 match zAF c mem c.pc 4 1 with
 | (a,m,cause)=>if cause≠0 then (zBF c cause c.pc,m,zEff) else zBh c m (wAt m (a / 4))
theorem sfield (w f low:Nat) (hl:low<=24) (hw:w<4294967296) (hf:f<256) :
  ((BitVec.ofNat 32 w &&& ~~~ BitVec.ofNat 32 (255*2 ^ low)) ||| BitVec.ofNat 32 (f*2 ^ low)).toNat=2 ^ low*(2 ^ 8*(w / 2 ^ low / 2 ^ 8)+f)+w % 2 ^ low:=by
 have hlt:2 ^ low*(2 ^ 8*(w / 2 ^ low / 2 ^ 8)+f)+w % 2 ^ low<2 ^ 32:=by
  have p:0<2 ^ low:=Nat.two_pow_pos low;have d:w / 2 ^ low / 2 ^ 8<2 ^ (24-low):=by
   rw [Nat.div_div_eq_div_mul,<- Nat.pow_add];apply Nat.div_lt_of_lt_mul;rw [<- Nat.pow_add,show low+8+(24-low)=32 by omega];exact hw
  have e:2 ^ low*2 ^ 8*2 ^ (24-low)=2 ^ 32:=by rw [<- Nat.pow_add,<- Nat.pow_add];congr 1;omega
  have m:w % 2 ^ low<2 ^ low:=Nat.mod_lt _ p;have q:2 ^ 8*(w / 2 ^ low / 2 ^ 8)+f+1<=2 ^ 8*2 ^ (24-low):=by omega
  have q2:=Nat.mul_le_mul_left (2 ^ low) q;rw [<- Nat.mul_assoc,e,Nat.mul_add] at q2;omega
 have h2:((BitVec.ofNat 32 w &&& ~~~ BitVec.ofNat 32 (255*2 ^ low)) ||| BitVec.ofNat 32 (f*2 ^ low))=BitVec.ofNat 32 (2 ^ low*(2 ^ 8*(w / 2 ^ low / 2 ^ 8)+f)+w % 2 ^ low):=by
  apply BitVec.eq_of_getLsbD_eq;intro i hi;have m:w % 2 ^ low<2 ^ low:=Nat.mod_lt _ (Nat.two_pow_pos low);simp only [BitVec.getLsbD_or,BitVec.getLsbD_and,BitVec.getLsbD_not,BitVec.getLsbD_ofNat,hi,decide_true,Bool.true_and];rw [Nat.testBit_two_pow_mul_add _ m,Nat.testBit_two_pow_mul_add _ (show f<2 ^ 8 from hf),Nat.mul_comm 255,Nat.mul_comm f]
  rw [show (255:Nat)=2 ^ 8-1 from rfl,Nat.testBit_two_pow_mul,Nat.testBit_two_pow_mul,Nat.testBit_two_pow_sub_one,Nat.testBit_mod_two_pow,Nat.testBit_div_two_pow,Nat.testBit_div_two_pow]
  by_cases h1:i<low
  ·simp [h1,show ¬ low<=i by omega]
  by_cases h3:i-low<8
  ·simp [h1,h3,show low<=i by omega]
  have e:low+(8+(i-low-8))=i:=by omega
  have hf2:f.testBit (i-low)=false:=Nat.testBit_lt_two_pow (Nat.lt_of_lt_of_le (show f<2 ^ 8 from hf) (Nat.pow_le_pow_right (by decide) (by omega)))
  simp [h1,h3,show low<=i by omega,hf2]
  try (congr 1;omega)
 rw [h2,BitVec.toNat_ofNat,Nat.mod_eq_of_lt hlt]
theorem zRt (x k:Nat):x &&& 2 ^ k=x / 2 ^ k % 2*2 ^ k:=by
 apply Nat.eq_of_testBit_eq;intro i;rw [Nat.testBit_and,Nat.testBit_two_pow,Nat.testBit_mul_two_pow];by_cases h:k=i
 ·subst h;rcases Nat.mod_two_eq_zero_or_one (x / 2 ^ k) with h|h<;>simp [Nat.testBit_eq_decide_div_mod_eq,h]
 simp only [h,decide_false,Bool.and_false];by_cases h2:k<=i
 ·have h3:1<=i-k:=by omega
  rcases Nat.mod_two_eq_zero_or_one (x / 2 ^ k) with q|q
  ·simp [q]
  rw [q,Nat.testBit_lt_two_pow (Nat.lt_of_lt_of_le (show 1<2 ^ 1 by decide) (Nat.pow_le_pow_right (by decide) h3))];simp
 simp [h2]
theorem zCa {n:Nat} (h:n<4294967296):IntKind.u32.wrap (n:Int)=n:=by rw [IntKind.wrap_u32];omega
theorem zD2 (x:Int) (k:Nat) (h:W32 x) (hk:k<32):iand .u32 x ((2 ^ k:Nat):Int)=x / ((2 ^ k:Nat):Int) % 2*((2 ^ k:Nat):Int):=by
 obtain ⟨n,rfl⟩:=Int.eq_ofNat_of_zero_le h.1;have p:2 ^ k<2 ^ 32:=Nat.pow_lt_pow_right (by decide) hk
 have hn:n<4294967296:=by have:=h.2;omega
 have e:(BitVec.ofInt 32 (n:Int) &&& BitVec.ofInt 32 ((2 ^ k:Nat):Int)).toNat=n / 2 ^ k % 2*2 ^ k:=by
  have hb:∀ m:Nat,BitVec.ofInt 32 (m:Int)=BitVec.ofNat 32 m:=fun m=>by simp
  rw [hb n,hb (2 ^ k),BitVec.toNat_and,BitVec.toNat_ofNat,BitVec.toNat_ofNat,Nat.mod_eq_of_lt (show n<2 ^ 32 from hn),Nat.mod_eq_of_lt p,zRt]
 unfold iand;rw [show IntKind.u32.bits=32 from rfl,e,zCa]
 ·push_cast;rfl
 have:n / 2 ^ k % 2<2:=Nat.mod_lt _ (by decide)
 rcases Nat.mod_two_eq_zero_or_one (n / 2 ^ k) with q|q<;>rw [q]<;>omega
theorem zO9 {x:Int} (h:W32 x):iand .u32 x 1=x % 2:=by have:=zD2 x 0 h (by decide);simpa using this
theorem zUi {x:Int} (h:W32 x):iand .u32 x 2=x / 2 % 2*2:=zD2 x 1 h (by decide)
theorem iand4 {x:Int} (h:W32 x):iand .u32 x 4=x / 4 % 2*4:=zD2 x 2 h (by decide)
theorem zRe {x:Int} (h:W32 x) (k:Nat) (hk:k<32):(iand .u32 x (2 ^ k)=0)=(x / 2 ^ k % 2=0):=by
 have e:=zD2 x k h hk
 push_cast at e
 rw [e];have p:(0:Int)<2 ^ k:=Int.pow_pos (by decide)
 apply propext;constructor
 ·intro q
  rcases Int.mul_eq_zero.1 q with q|q
  ·exact q
  omega
 intro q;rw [q];simp
theorem zGL (w v l:Nat) (hl:l<=24) (hw:w<4294967296) (hf:v<256) :
  ior .u32 (zCi .u32 (w:Int) ((255*2 ^ l:Nat):Int)) ((v*2 ^ l:Nat):Int)=((2 ^ l*(2 ^ 8*(w / 2 ^ l / 2 ^ 8)+v)+w % 2 ^ l:Nat):Int):=by
 have hb:∀ m:Nat,BitVec.ofInt 32 (m:Int)=BitVec.ofNat 32 m:=fun m=>by simp
 have hx:∀ b:BitVec 32,BitVec.ofInt 32 (IntKind.u32.wrap (b.toNat:Int))=b:=fun b=>by
  rw [zCa (by have:=b.isLt;omega),hb];simp
 unfold ior zCi;rw [show IntKind.u32.bits=32 from rfl,hx,hb w,hb (255*2 ^ l),hb (v*2 ^ l)]
 rw [<- sfield w v l hl hw hf,zCa (by have:=(BitVec.isLt (BitVec.ofNat 32 w &&& ~~~BitVec.ofNat 32 (255*2 ^ l) ||| BitVec.ofNat 32 (v*2 ^ l)));omega)]
theorem setB (w v k:Int) (h:W32 w) (hk:k=0\/k=1\/k=2\/k=3):ior .u32 (zCi .u32 w (255*2 ^ (8*k).toNat)) (v % 256*2 ^ (8*k).toNat)=putB w k v:=by
 obtain ⟨n,rfl⟩:=Int.eq_ofNat_of_zero_le h.1;obtain ⟨f,hf⟩:=Int.eq_ofNat_of_zero_le (show 0<=v % 256 by omega)
 have hn:n<4294967296:=by have:=h.2;omega
 unfold putB byteAt;rw [hf];rcases hk with rfl|rfl|rfl|rfl
 ·have e:=zGL n f 0 (by decide) hn (by omega)
  simp at e ⊢;rw [e];omega
 ·have e:=zGL n f 8 (by decide) hn (by omega)
  simp at e ⊢;rw [e];omega
 ·have e:=zGL n f 16 (by decide) hn (by omega)
  simp at e ⊢;rw [e];omega
 have e:=zGL n f 24 (by decide) hn (by omega)
 simp at e ⊢;rw [e];omega
theorem putB_w {w v k:Int} (h:W32 w) (hk:k=0\/k=1\/k=2\/k=3):W32 (putB w k v):=by
 unfold putB byteAt;have:=h.1;have:=h.2;rcases hk with rfl|rfl|rfl|rfl<;>constructor<;>simp<;>omega
def zFv (s f t:Int):Int:=if iand .u32 s f=0 then zCi .u32 s t else ior .u32 s t
theorem trap32:∀ k:Fin 32,zCi .u32 (ior .u32 (zFv (zFv (k.val:Int) 1 8) 2 16) 1) 2=zKU (k.val:Int):=by decide +kernel
theorem ret32:∀ k:Fin 32,zFv (zFv (k.val:Int) 8 1) 16 2=retS (k.val:Int):=by decide +kernel
theorem trap_s {s:Int} (h0:0<=s) (h1:s<=31):zCi .u32 (ior .u32 (zFv (zFv s 1 8) 2 16) 1) 2=zKU s:=by
 have h:=trap32 ⟨s.toNat,by omega⟩
 rwa [show ((⟨s.toNat,by omega⟩:Fin 32).val:Int)=s by simp;omega] at h
theorem ret_s {s:Int} (h0:0<=s) (h1:s<=31):zFv (zFv s 8 1) 16 2=retS s:=by
 have h:=ret32 ⟨s.toNat,by omega⟩
 rwa [show ((⟨s.toNat,by omega⟩:Fin 32).val:Int)=s by simp;omega] at h
theorem zQW (s:Int):0<=zKU s/\zKU s<=31:=by unfold zKU;omega
theorem zTY (s:Int):0<=retS s/\retS s<=31:=by unfold retS;omega
abbrev OkW (l:List Int):Prop:=∀ w∈l,W32 w
theorem zNx {l:List Int} (h:OkW l) (a:Int):W32 (wAt l a):=by
 unfold wAt;by_cases hi:a.toNat<l.length
 ·rw [zV1,zV3 hi];exact h _ (zWU hi)
 rw [zV1,List.getElem?_eq_none (by omega)];exact ⟨by decide,by decide⟩
theorem zVZ {l:List Int} (h:OkW l) {n:Nat} {v:Int} (hv:W32 v):OkW (l.set n v):=by
 intro w hw
 rcases List.mem_or_eq_of_mem_set hw with q|q
 ·exact h w q
 rw [q];exact hv
theorem zAf (l:List Int):0<=pagesD l/\pagesD l<=32:=by
 unfold pagesD;split
 ·rw [zAA (by omega) (by omega)];omega
 omega
theorem zC4 {l:List Int} (h:pagesD l≠0):(l.length:Int)=pagesD l*32/\l.length<=1024:=by
 unfold pagesD at h ⊢;split
 ·rename_i q;have e:(l.length:Int).tmod 32=(l.length:Int) % 32:=Int.tmod_eq_emod_of_nonneg (by omega)
  rw [e] at q;rw [zAA (by omega) (by omega)];omega
 rename_i q;simp [q] at h
theorem zBz (x:Int):iand .u32 x 255=x % 256:=zBJ x 8 256 (by omega) (by decide)
theorem u64_in {n:Int} (h0:0<=n) (h1:n<18446744073709551616):IntKind.u64.wrap n=n:=by rw [IntKind.wrap_u64];omega
theorem u32_in {n:Int} (h0:0<=n) (h1:n<4294967296):IntKind.u32.wrap n=n:=by rw [IntKind.wrap_u32];omega
theorem u32c (n:Int) (h:(0<=n/\n<4294967296)=True):IntKind.u32.wrap n=n:=u32_in (of_eq_true h).1 (of_eq_true h).2
theorem u64c (n:Int) (h:(0<=n/\n<18446744073709551616)=True):IntKind.u64.wrap n=n:=u64_in (of_eq_true h).1 (of_eq_true h).2
theorem i64c (n:Int) (h:(-9223372036854775808<=n/\n<=9223372036854775807)=True):IntKind.i64.wrap n=n:=zAA (of_eq_true h).1 (of_eq_true h).2
theorem zQQ {a:Int} (h:W32 a):IntKind.u32.wrap (a.tdiv 4)=a / 4:=by rw [Int.tdiv_eq_ediv_of_nonneg h.1,IntKind.wrap_u32];have:=h.1;have:=h.2;omega
theorem zKS {a:Int} (h:0<=a):a.tmod 4=a % 4:=Int.tmod_eq_emod_of_nonneg h
theorem zJo (w low:Int) (h0:0<=low) (h1:low<=31):zAD prog 297 [uv w,iv low,iv 8] (uv (w / 2 ^ low.toNat % 256)):=by
 have e1:IntKind.u64.wrap low=low:=u64_in h0 (by omega)
 have e2:iand .u32 (w.fdiv (2 ^ min low.toNat 32)) 255=w / 2 ^ low.toNat % 256:=by
  rw [zBz,Nat.min_eq_left (by omega),zWC _ (Int.le_of_lt (Int.pow_pos (by decide)))]
 refine sZ func297 ntmps297 ?_;exact wx1 (qX1 (zD5)) trivial (kX2 @e1 @e2)
theorem zVY (w k v:Int) (hw:W32 w) (hk:k=0\/k=1\/k=2\/k=3):zAD prog 326 [uv w,iv (k*8),iv 8,uv v] (uv (putB w k v)):=by
 have e2:=setB w v k hw hk;rcases hk with rfl|rfl|rfl|rfl
 all_goals simp at e2
 ·have e3:IntKind.u32.wrap (v % 256)=v % 256:=u32_in (by omega) (by omega)
  refine sZ func326 ntmps326 ?_;exact wx1 (qX1 (zD5)) trivial (kX4 @zBz @e2 @e3 @u32c)
 ·have e3:IntKind.u32.wrap (v % 256*256)=v % 256*256:=u32_in (by omega) (by omega)
  refine sZ func326 ntmps326 ?_;exact wx1 (qX1 (zD5)) trivial (kX4 @zBz @e2 @e3 @u32c)
 ·have e3:IntKind.u32.wrap (v % 256*65536)=v % 256*65536:=u32_in (by omega) (by omega)
  refine sZ func326 ntmps326 ?_;exact wx1 (qX1 (zD5)) trivial (kX4 @zBz @e2 @e3 @u32c)
 have e3:IntKind.u32.wrap (v % 256*16777216)=v % 256*16777216:=u32_in (by omega) (by omega)
 refine sZ func326 ntmps326 ?_;exact wx1 (qX1 (zD5)) trivial (kX4 @zBz @e2 @e3 @u32c)
theorem zII (l:List Int) (a s:Int) (hs:s=1\/s=4) (ha:W32 a):zAD prog 323 [memV l,uv a,iv s] (.bool (zAR l a s)):=by
 have e1:IntKind.u64.wrap a=a:=u64_in ha.1 (by have:=ha.2;omega)
 have e2:IntKind.u64.wrap (pagesD l)=pagesD l:=u64_in (zAf l).1 (by have:=zAf l;omega)
 have e3:IntKind.u64.wrap (pagesD l*128)=pagesD l*128:=u64_in (by have:=zAf l;omega) (by have:=zAf l;omega)
 have e4:IntKind.u64.wrap (a+s)=a+s:=u64_in (by have:=ha.1;omega) (by have:=ha.2;omega)
 have e5:=zKS ha.1;rcases hs with rfl|rfl
 ·refine sZ func323 ntmps323 ?_;exact wx1 (qX1 (zBo l)) trivial (kX8 @e1 @e2 @e3 @e4 @e5 @zAR.eq_1 @u32c @u64c)
 refine sZ func323 ntmps323 ?_;exact wx1 (qX1 (zBo l)) trivial (kX8 @e1 @e2 @e3 @e4 @e5 @zAR.eq_1 @u32c @u64c)
theorem zCZ {l:List Int} {a s:Int} (h:zAR l a s=true) (ha:0<=a):(a / 4).toNat<l.length:=by
 unfold zAR at h;simp only [zV5,Bool.or_eq_true,decide_eq_true_eq] at h;have hp:pagesD l≠0:=by
  intro q
  rw [q] at h;omega
 have:=zC4 hp;omega
theorem zCt {k:IntKind} {l:List Int} {n:Nat} {w:Int} (h:l[n]? =some w):(ints k l)[n]? =some [.int k w]:=by simp [ints,h]
theorem zHO {l:List Int} {a:Int} (h:a.toNat<l.length):l[a.toNat]? =some (wAt l a):=by
 unfold wAt;rw [zV1,zV3 h];rfl
theorem ints_set (k:IntKind) (l:List Int) (n:Nat) (v:Int):(ints k l).set n [.int k v]=ints k (l.set n v):=by simp [ints,List.map_set]
theorem zAM {k:IntKind} {l:List Int}:∀ x:List V,x∈ints k l->∀ c:V,c∈x->noX1 c=true:=by
 intro x hx c hc
 simp only [ints,List.mem_map] at hx;obtain ⟨n,_,rfl⟩:=hx;simp only [List.mem_singleton] at hc;subst hc;rfl
theorem zQ7 (w a:Int):w / 2 ^ (a % 4*8).toNat % 256=byteAt w (a % 4):=by rw [Int.mul_comm];rfl
theorem zEf (l:List Int) (a s:Int) (hs:s=1\/s=4) (ha:W32 a):zAD prog 296 [memV l,uv a,iv s] (.tup [uv (if zAR l a s=true then zBl l a s else 0),.bool (zAR l a s)]):=by
 have hW:=zII l a s hs ha;cases hw:zAR l a s with
 | false =>
  rw [hw] at hW;refine sZ func296 ntmps296 ?_;exact wx (qX1 (hW)) trivial
 | true =>
  rw [hw] at hW;have hi:=zCZ hw ha.1;have e1:=zQQ ha;obtain ⟨w,hw'⟩:∃ w,w=wAt l (a / 4):=⟨_,rfl⟩;have e2:=zCt (k:=.u32) (zHO hi);rw [<- hw'] at e2;have hw2:=hw'.symm;have e3:=zAN .u32 l;have e4:=zKS ha.1;have e5:IntKind.i64.wrap (a % 4)=a % 4:=zAA (by omega) (by omega)
  have e6:IntKind.i64.wrap (a % 4*8)=a % 4*8:=zAA (by omega) (by omega)
  have e7:(0:Int)<=a / 4:=by have:=ha.1;omega
  have e8:a / 4<(l.length:Int):=by omega
  rcases hs with rfl|rfl
  ·refine sZ func296 ntmps296 ?_;exact wx1 (qX2 (hW) (zJo w (a % 4*8) (by omega) (by omega))) trivial (kX9 @e1 @e2 @e3 @e4 @e5 @e6 @zQ7 @zBl.eq_1 @hw2)
  refine sZ func296 ntmps296 ?_;exact wx1 (qX1 (hW)) trivial (kX6 @e1 @e2 @e3 @e4 @zBl.eq_1 @hw2)
theorem zHD (l:List Int) (a s v:Int) (hs:s=1\/s=4) (ha:W32 a) (hl:OkW l) (hb:l.length<=100000):zAD prog 303 [memV l,uv a,iv s,uv v] (.tup [memV (if zAR l a s=true then zCp l a s v else l),.bool (zAR l a s)]):=by
 have hW:=zII l a s hs ha;have e3:=zAN .u32 l;cases hw:zAR l a s with
 | false =>
  rw [hw] at hW;refine sZ func303 ntmps303 ?_;exact wx (qX1 (hW)) (qX1 (zCH (ints .u32 l) false 1 (.inl rfl) (by rw [e3];exact hb)))
 | true =>
  rw [hw] at hW;have hi:=zCZ hw ha.1;have e1:=zQQ ha;obtain ⟨w,hw'⟩:∃ w,w=wAt l (a / 4):=⟨_,rfl⟩;have e2:=zCt (k:=.u32) (zHO hi);rw [<- hw'] at e2;have hw2:=hw'.symm;have e4:=zKS ha.1;have e5:IntKind.i64.wrap (a % 4)=a % 4:=zAA (by omega) (by omega)
  have e6:IntKind.i64.wrap (a % 4*8)=a % 4*8:=zAA (by omega) (by omega)
  have e7:(0:Int)<=a / 4:=by have:=ha.1;omega
  have e8:a / 4<(l.length:Int):=by omega
  rcases hs with rfl|rfl
  ·refine sZ func303 ntmps303 ?_;exact wx1 (qX2 (hW) (zVY w (a % 4) v (by rw [hw'];exact zNx hl _) (by omega))) (qX1 (zCH (ints .u32 l) false 1 (.inl rfl) (by rw [e3];exact hb))) (kX9 @e1 @e2 @e3 @e4 @e5 @e6 @ints_set @zCp.eq_1 @hw2)
  refine sZ func303 ntmps303 ?_;exact wx1 (qX1 (hW)) (qX1 (zCH (ints .u32 l) false 1 (.inl rfl) (by rw [e3];exact hb))) (kX7 @e1 @e2 @e3 @e4 @ints_set @zCp.eq_1 @hw2)
theorem zC6 (l:List Int) (f:Int) (h:W32 f):zAD prog 336 [memV l,uv f] (.bool (decide (f<pagesD l))):=by
 have e1:IntKind.u64.wrap f=f:=u64_in h.1 (by have:=h.2;omega)
 have e2:IntKind.u64.wrap (pagesD l)=pagesD l:=u64_in (zAf l).1 (by have:=zAf l;omega)
 refine sZ func336 ntmps336 ?_;exact wx1 (qX1 (zBo l)) trivial (kX2 @e1 @e2)
theorem zC5 (a:Int) (h:a=1\/a=2\/a=3):zAD prog 335 [iv a] (.tup [iv (a+3),.bool true]):=by
 rcases h with rfl|rfl|rfl
 ·refine sZ func335 ntmps335 ?_;exact wx trivial trivial
 ·refine sZ func335 ntmps335 ?_;exact wx trivial trivial
 refine sZ func335 ntmps335 ?_;exact wx trivial trivial
theorem zBw (a:Int) (h:a=1\/a=2\/a=3):zAD prog 320 [iv a] (.tup [iv (a+3),.bool true]):=by
 rcases h with rfl|rfl|rfl
 ·refine sZ func320 ntmps320 ?_;exact wx trivial trivial
 ·refine sZ func320 ntmps320 ?_;exact wx trivial trivial
 refine sZ func320 ntmps320 ?_;exact wx trivial trivial
theorem zH1 (w:Int):zAD prog 338 [uv w] (uv (w / 256 % 256)):=by
 refine sZ func338 ntmps338 ?_;exact wx (qX1 (zJo w 8 (by decide) (by decide))) trivial
theorem zFP (w a:Int):zAD prog 337 [uv w,iv a] (.bool (zSA w a)):=by
 refine sZ func337 ntmps337 ?_;exact wx1 trivial trivial @zSA.eq_1
theorem zLs {l:List Int} {root va:Int} (h:root<pagesD l) (h0:0<=root) (hv:va<4096) (hv0:0<=va):zAR l (root*128+va / 128*4) 4=true:=by
 unfold zAR;simp only [zV5,Bool.or_eq_true,decide_eq_true_eq];have q:(root*128+va / 128*4) % 4=0:=by omega
 have q2:root*128+va / 128*4+4<=pagesD l*128:=by omega
 simp [q,q2]
def zET (l:List Int) (root va acc:Int):V:=match zHg l root va acc with
 | some (a,e)=>.st [uv a,uv e,iv 0]
 | none=>.st [uv 0,uv 0,iv (acc+3)]
theorem zVv (l:List Int) (root va acc:Int) (hr:W32 root) (hv:W32 va) (ha:acc=1\/acc=2\/acc=3):zAD prog 321 [memV l,uv root,uv va,iv acc] (zET l root va acc):=by
 have hp:=zAf l;by_cases h1:va<4096
 ·by_cases h2:root<pagesD l
  ·have hi:=zLs h2 hr.1 h1 hv.1;obtain ⟨e,he⟩:∃ e,e=root*128+va / 128*4:=⟨_,rfl⟩;rw [<- he] at hi;have w1:IntKind.u32.wrap (va.tdiv 128)=va / 128:=by rw [Int.tdiv_eq_ediv_of_nonneg hv.1];exact u32_in (by omega) (by omega)
   have w2:IntKind.u32.wrap (4*(va / 128))=va / 128*4:=by rw [u32_in (by omega) (by omega)];omega
   have w3:IntKind.u32.wrap (root*128)=root*128:=u32_in (by omega) (by omega)
   have w4:IntKind.u32.wrap (root*128+va / 128*4)=e:=by rw [he];exact u32_in (by omega) (by omega)
   have hl:=zEf l e 4 (.inr rfl) ⟨by omega,by omega⟩
   rw [hi] at hl;simp only [if_true] at hl;obtain ⟨w,hw⟩:∃ w,w=wAt l (e / 4):=⟨_,rfl⟩;rw [show zBl l e 4=w by rw [hw];simp [zBl]] at hl
   have w5:va.tmod 128=va % 128:=Int.tmod_eq_emod_of_nonneg hv.1;by_cases h3:zSA w acc=true
   ·by_cases h4:w / 256 % 256<pagesD l
    ·have w6:IntKind.u32.wrap (w / 256 % 256*128)=w / 256 % 256*128:=u32_in (by omega) (by omega)
     have w7:IntKind.u32.wrap (w / 256 % 256*128+va % 128)=w / 256 % 256*128+va % 128:=u32_in (by omega) (by omega)
     have hV:zET l root va acc=.st [uv (w / 256 % 256*128+va % 128),uv e,iv 0]:=by
      unfold zET zHg;rw [<- he,<- hw,if_pos ⟨h1,h2,h3,h4⟩]
     rw [hV];refine sZ func321 ntmps321 ?_;exact wx1 (qX6 (zC5 acc ha) (zC6 l root hr) (hl) (zFP w acc) (zH1 w) (zC6 l (w / 256 % 256) ⟨by omega,by omega⟩)) trivial (kX11 @w1 @w2 @w3 @w4 @w5 @w6 @w7 @h1 @h2 @h3 @h4)
    have hV:zET l root va acc=.st [uv 0,uv 0,iv (acc+3)]:=by
     unfold zET zHg;rw [<- he,<- hw,if_neg (fun q=>h4 q.2.2.2)]
    rw [hV];refine sZ func321 ntmps321 ?_;exact wx1 (qX6 (zC5 acc ha) (zC6 l root hr) (hl) (zFP w acc) (zH1 w) (zC6 l (w / 256 % 256) ⟨by omega,by omega⟩)) trivial (kX8 @w1 @w2 @w3 @w4 @h1 @h2 @h3 @h4)
   have hV:zET l root va acc=.st [uv 0,uv 0,iv (acc+3)]:=by
    unfold zET zHg;rw [<- he,<- hw,if_neg (fun q=>h3 q.2.2.1)]
   rw [hV];refine sZ func321 ntmps321 ?_;exact wx1 (qX4 (zC5 acc ha) (zC6 l root hr) (hl) (zFP w acc)) trivial (kX7 @w1 @w2 @w3 @w4 @h1 @h2 @h3)
  have hV:zET l root va acc=.st [uv 0,uv 0,iv (acc+3)]:=by
   unfold zET zHg;rw [if_neg (fun q=>h2 q.2.1)]
  rw [hV];refine sZ func321 ntmps321 ?_;exact wx1 (qX2 (zC5 acc ha) (zC6 l root hr)) trivial (kX2 @h1 @h2)
 have hV:zET l root va acc=.st [uv 0,uv 0,iv (acc+3)]:=by
  unfold zET zHg;rw [if_neg (fun q=>h1 q.1)]
 rw [hV];have h1':4096<=va:=by omega
 refine sZ func321 ntmps321 ?_;exact wx1 (qX1 (zC5 acc ha)) trivial (kX2 @h1 @h1')
theorem zSq (l:List Int) (e acc:Int) (hi:zAR l e 4=true) (he:W32 e) (hl:OkW l) (hb:l.length<=100000):zAD prog 322 [memV l,uv e,iv acc] (memV (zEx l e acc)):=by
 have h1:=zEf l e 4 (.inr rfl) he;rw [hi] at h1;simp only [if_true] at h1;rw [show zBl l e 4=wAt l (e / 4) by simp [zBl]] at h1
 have h2:=zHD l e 4 (ior .u32 (wAt l (e / 4)) 8) (.inr rfl) he hl hb;have h3:=zHD l e 4 (ior .u32 (ior .u32 (wAt l (e / 4)) 8) 16) (.inr rfl) he hl hb;rw [hi] at h2 h3;simp only [if_true] at h2 h3;by_cases ha:acc=3
 ·subst ha;refine sZ func322 ntmps322 ?_;exact wx1 (qX2 (h1) (h3)) trivial (kX3 @zEx.eq_1 @zMs.eq_1 @zCp.eq_1)
 refine sZ func322 ntmps322 ?_;exact wx1 (qX2 (h1) (h2)) trivial (kX4 @zEx.eq_1 @zMs.eq_1 @zCp.eq_1 @ha)
structure OkC (c:CpuD):Prop where
 x:∀ i,W32 (c.x i)
 pc:W32 c.pc
 csr:∀ i,W32 (c.csr i)
 s:c.csr 0<=31
theorem kernel_ok (c:CpuD) (h:OkC c):zAD prog 237 [.st c.row] (.bool (!decide (c.csr 0 % 2=0))):=by
 have e:=zO9 (h.csr 0);refine sZ func237 ntmps237 ?_;exact wx1 trivial trivial @e
theorem zI8 (b:Bool):zAD prog 328 [.bool b] (uv (b2w b)):=by
 refine sZ func328 ntmps328 ?_;exact wx1 trivial trivial @b2w.eq_1
theorem zIq (s f t:Int):zAD prog 294 [uv s,uv f,uv t] (uv (zFv s f t)):=by
 refine sZ func294 ntmps294 ?_;exact wx1 trivial trivial @zFv.eq_1
theorem zCr (c:CpuD) (cause bad:Int) (h:OkC c):zAD prog 233 [.st c.row,iv cause,uv bad] (.st (zBF c cause bad).row):=by
 have e:=trap_s (h.csr 0).1 h.s;refine sZ func233 ntmps233 ?_;exact wx1 (qX2 (zIq (c.csr 0) 1 8) (zIq (zFv (c.csr 0) 1 8) 2 16)) trivial (kX2 @e @zBF.eq_1)
theorem zPu (c:CpuD) (h:OkC c):zAD prog 305 [.st c.row] (.st (retD c).row):=by
 have e:=ret_s (h.csr 0).1 h.s;refine sZ func305 ntmps305 ?_;exact wx1 (qX2 (zIq (c.csr 0) 8 1) (zIq (zFv (c.csr 0) 8 1) 16 2)) trivial (kX2 @e @retD.eq_1)
theorem zSw (c:CpuD) (k v:Int) (h0:0<=k) (h1:k<=7):zAD prog 306 [.st c.row,iv k,uv v] (.st (zBG c k v).row):=by
 have hk:k=0\/k=1\/k=2\/k=3\/k=4\/k=5\/k=6\/k=7:=by omega
 rcases hk with rfl|rfl|rfl|rfl|rfl|rfl|rfl|rfl
 ·refine sZ func306 ntmps306 ?_;exact wx1 trivial trivial (kX2 @zBG.eq_1 @CpuD.setS.eq_1)
 ·refine sZ func306 ntmps306 ?_;exact wx1 trivial trivial (kX2 @zBG.eq_1 @CpuD.setS.eq_1)
 ·refine sZ func306 ntmps306 ?_;exact wx1 trivial trivial (kX2 @zBG.eq_1 @CpuD.setS.eq_1)
 ·refine sZ func306 ntmps306 ?_;exact wx1 trivial trivial (kX2 @zBG.eq_1 @CpuD.setS.eq_1)
 ·refine sZ func306 ntmps306 ?_;exact wx1 trivial trivial (kX2 @zBG.eq_1 @CpuD.setS.eq_1)
 ·refine sZ func306 ntmps306 ?_;exact wx1 trivial trivial (kX2 @zBG.eq_1 @CpuD.setS.eq_1)
 ·refine sZ func306 ntmps306 ?_;exact wx1 trivial trivial (kX2 @zBG.eq_1 @CpuD.setS.eq_1)
 refine sZ func306 ntmps306 ?_;exact wx1 trivial trivial (kX2 @zBG.eq_1 @CpuD.setS.eq_1)
theorem zG3 {r:Int} (h0:0<=r) (h1:r<=15):r=0\/r=1\/r=2\/r=3\/r=4\/r=5\/r=6\/r=7\/r=8\/r=9\/r=10\/r=11\/r=12\/r=13\/r=14\/r=15:=by omega
theorem zAU (c:CpuD) {r:Int} (h0:0<=r) (h1:r<=15):c.row[r.toNat]? =some (uv (c.x r.toNat)):=by
 rcases zG3 h0 h1 with rfl|rfl|rfl|rfl|rfl|rfl|rfl|rfl|rfl|rfl|rfl|rfl|rfl|rfl|rfl|rfl<;>rfl
theorem zT8 (c:CpuD) {k:Int} (h0:0<=k) (h1:k<=7):c.row[17+k.toNat]? =some (uv (c.csr k.toNat)):=by
 have hk:k=0\/k=1\/k=2\/k=3\/k=4\/k=5\/k=6\/k=7:=by omega
 rcases hk with rfl|rfl|rfl|rfl|rfl|rfl|rfl|rfl<;>rfl
theorem zPr (c:CpuD) {r:Int} (v:Int) (h0:0<=r) (h1:r<=15):c.row.set r.toNat (uv v)=(c.setX r v).row:=by
 rcases zG3 h0 h1 with rfl|rfl|rfl|rfl|rfl|rfl|rfl|rfl|rfl|rfl|rfl|rfl|rfl|rfl|rfl|rfl<;>simp [CpuD.setX]
theorem zFo (c:CpuD) (r v:Int) (h0:0<=r) (h1:r<=15):zAD prog 302 [.st c.row,iv r,uv v] (.st (c.setR r v).row):=by
 have e:=zPr c v h0 h1;by_cases hr:r=0
 ·subst hr;refine sZ func302 ntmps302 ?_;exact wx1 trivial trivial @CpuD.setR.eq_1
 refine sZ func302 ntmps302 ?_;exact wx1 trivial trivial (kX3 @e @CpuD.setR.eq_1 @hr)
theorem zE4 (op:Int):zAD prog 301 [iv op] (iv (zAW op)):=by
 refine sZ func301 ntmps301 ?_;exact wx1 trivial trivial @zAW.eq_1
theorem zSm (op a b:Int):zAD prog 304 [iv op,uv a,uv b] (.bool (zEw op a b)):=by
 refine sZ func304 ntmps304 ?_;exact wx1 trivial trivial @zEw.eq_1
theorem zUY (x:Int) (h0:0<=x) (h1:x<256):zAD prog 299 [uv x,iv 8] (uv (zI4 x)):=by
 have e:IntKind.u32.wrap ((IntKind.i32.wrap (IntKind.u32.wrap (x*2 ^ 24))).fdiv (2 ^ 24))=zI4 x:=by
  rw [zWC _ (by omega)]
  simp only [IntKind.wrap_u32,IntKind.wrap_i32];unfold zI4;split<;>omega
 simp at e;refine sZ func299 ntmps299 ?_;exact wx1 trivial trivial (kX4 @e @u64c @i64c @u32c)
theorem zS7 (a b:Int) (ha:W32 a) (hb:W32 b):zAD prog 327 [uv a,uv b] (.tup [uv (divQ a b),uv (divR a b)]):=by
 obtain ⟨ha0,ha1⟩:=ha;obtain ⟨hb0,hb1⟩:=hb;by_cases h1:b=0
 ·subst h1;refine sZ func327 ntmps327 ?_
  (refine af1 (kX2 @divQ.eq_1 @divR.eq_1) ?_;intros;apply wr)
  repeat' ((first|(refine zAC rfl (fun h=>?_) (fun h=>?_)<;>(first|(simp [divQ,divR] at h;done)|(simp [divQ,divR] at h)|skip)<;>(first|(exfalso;omega)|skip))|(refine zAE 10 [0,0,3,7,0,0,48,112,15,511] [(9,([[],[],[0,1],[0,1,2],[],[],[4,5],[4,5,6],[0,1,2,3]],[])),(1,([],[]))] ?_)|exact rt1 (kX2 @divQ.eq_1 @divR.eq_1)|fail)<;>(refine af1 (kX2 @divQ.eq_1 @divR.eq_1) ?_;intros;apply wr))
 by_cases h2:a=2147483648/\b=4294967295
 ·obtain ⟨rfl,rfl⟩:=h2;have q:divQ 2147483648 4294967295=2147483648:=by decide
  have r:divR 2147483648 4294967295=0:=by decide
  rw [q,r];refine sZ func327 ntmps327 ?_
  (refine af ?_;intros;apply wr)
  repeat' ((first|(refine zAC rfl (fun h=>?_) (fun h=>?_)<;>(first|(simp at h;done)|(simp at h)|skip)<;>(first|(exfalso;omega)|skip))|(refine zAE 10 [0,0,3,7,0,0,48,112,15,511] [(9,([[],[],[0,1],[0,1,2],[],[],[4,5],[4,5,6],[0,1,2,3]],[])),(1,([],[]))] ?_)|exact rt|fail)<;>(refine af ?_;intros;apply wr))
 have hn:¬ sw b=0:=by unfold sw;rw [IntKind.wrap_i32];omega
 have e1:IntKind.u32.wrap (IntKind.i32.wrap ((sw a).tdiv (sw b)))=divQ a b:=by
  unfold divQ uw;rw [if_neg h1];simp only [IntKind.wrap_u32,IntKind.wrap_i32];omega
 have e2:IntKind.u32.wrap ((sw a).tmod (sw b))=divR a b:=by
  unfold divR;rw [if_neg h1]
 refine sZ func327 ntmps327 ?_
 (refine af1 (kX4 @e1 @e2 @h1 @hn) ?_;intros;apply wr)
 repeat' ((first|(refine zAC rfl (fun h=>?_) (fun h=>?_)<;>(first|(simp [e1,e2,h1,hn] at h;done)|(simp [e1,e2,h1,hn] at h)|skip)<;>(first|(exfalso;omega)|skip))|(refine zAE 10 [0,0,3,7,0,0,48,112,15,511] [(9,([[],[],[0,1],[0,1,2],[],[],[4,5],[4,5,6],[0,1,2,3]],[])),(1,([],[]))] ?_)|exact rt1 (kX4 @e1 @e2 @h1 @hn)|fail)<;>(refine af1 (kX4 @e1 @e2 @h1 @hn) ?_;intros;apply wr))
theorem alF (a b:Int):iand .u32 b 31=b % 32/\a.fdiv (2 ^ min (b % 32).toNat 32)=a / 2 ^ (b % 32).toNat/\(sw a).fdiv (2 ^ min (b % 32).toNat 32)=sw a / 2 ^ (b % 32).toNat/\min (b % 32).toNat 32=(b % 32).toNat/\IntKind.u32.wrap (a+IntKind.u32.wrap (0-b))=uw (a-b)/\IntKind.u32.wrap (a+IntKind.u32.wrap (-b))=uw (a-b):=by
 have e0:iand .u32 b 31=b % 32:=zBJ b 5 32 (by omega) (by decide)
 have e1:a.fdiv (2 ^ min (b % 32).toNat 32)=a / 2 ^ (b % 32).toNat:=by
  rw [Nat.min_eq_left (by omega),zWC _ (Int.le_of_lt (Int.pow_pos (by decide)))]
 have e2:(sw a).fdiv (2 ^ min (b % 32).toNat 32)=sw a / 2 ^ (b % 32).toNat:=by
  rw [Nat.min_eq_left (by omega),zWC _ (Int.le_of_lt (Int.pow_pos (by decide)))]
 have e3:min (b % 32).toNat 32=(b % 32).toNat:=Nat.min_eq_left (by omega)
 have e4:IntKind.u32.wrap (a+IntKind.u32.wrap (0-b))=uw (a-b):=by unfold uw;simp only [IntKind.wrap_u32];omega
 have e5:IntKind.u32.wrap (a+IntKind.u32.wrap (-b))=uw (a-b):=by unfold uw;simp only [IntKind.wrap_u32];omega
 exact ⟨e0,e1,e2,e3,e4,e5⟩
end Go.Proofs.YthjpcmecgjfilaaGreat
end
