/- A part of the proof of ReplicaDisk. -/
import Derived.Test.YtjkmhmepljamoaaGreatK05
import Derived.Test.YtjkmhmepljamoaaGreatK07
set_option linter.all false
set_option maxHeartbeats 16000000
set_option maxRecDepth 100000
section
namespace Go.Proofs.YtjkmhmepljamoaaGreat
open Go.Ab Tryz
theorem Wl{op:Int}(h:AK op≠0):1<=op/\op<=64:=by
 apply Classical.byContradiction;intro hn;apply h;unfold AK;repeat rw[nG]
theorem G0{i:InstD}(h:validD i=true):(1<=i.op/\i.op<=64)/\(0<=i.a/\i.a<=15)/\(0<=i.b/\i.b<=15)/\(0<=i.c/\i.c<=15)/\(-32768<=i.imm/\i.imm<=65535)/\(i.c=0\/i.imm=0):=by
 have h0:AK i.op≠0:=by
  unfold validD at h;simp only[gX,decide_eq_true_eq]at h;exact h.1.1.1.1.1
 refine⟨Wl h0,?_⟩;rcases Eg i.op with q|q|q|q|q|q|q|q|q|q<;>simp[validD,Rq,uA,uB,uC,By,Al,q]at h<;>omega
def Wb(i:InstD):Int:=i.op*16777216+i.a*1048576+i.b*65536+(i.c+i.imm)%65536
def IN(x:Int):Int:=if x<32768 then x else x-65536
def D1(w:Int):InstD:=⟨w/16777216%256,w/1048576%16,w/65536%16,if AK (w/16777216%256)=2 then w%65536 else 0,
 if AK (w/16777216%256)=2 then 0 else if AK (w/16777216%256)=3\/AK (w/16777216%256)=7 then IN (w%65536)else w%65536⟩
def F7:InstD:=⟨0,0,0,0,0⟩
abbrev aL(w:Int):V:=.tup [.st (if validD (D1 w)then D1 w else F7).row,.bool (validD (D1 w))]
set_option maxHeartbeats 16000000 in
theorem decode_ok(w:Int):AC prog 235 [.int .u32 w] (aL w):=by
 have c1:IntKind.i64.wrap (w/16777216%256)=w/16777216%256:=AA;have c2:IntKind.i64.wrap (w/1048576%16)=w/1048576%16:=AA;have c3:IntKind.i64.wrap (w/65536%16)=w/65536%16:=AA;have c4:IntKind.i64.wrap (w%65536)=w%65536:=AA;have c5:IntKind.i32.wrap (w%65536)=w%65536:=by rw[IntKind.wrap_i32];omega
 have c6:IntKind.i32.wrap (if w%65536<32768 then w%65536 else w%65536+4294901760)=IN (w%65536):=by rw[IntKind.wrap_i32];unfold IN;split<;>omega
 refine sX func235 ntmps235 ?_;refine cZ (TV w) @c1 @c1 ?_;refine cZ (TU w) @c2 @c2 ?_;refine cZ (RI w) @c3 @c3 ?_;refine cX (Zb (w/16777216%256)) ?_;intros;apply wr;refine AB rfl (fun hf=>?_) (fun hf=>?_)
 ·simp at hf;have hv:validD (D1 w)=false:=by simp[validD,D1,hf]
  refine au ?_;refine aw ?_;simp[hv,F7]
 simp at hf;refine au ?_;refine cX (RH w) ?_;intros;apply wr;by_cases e2:AK (w/16777216%256)=2
 ·have hd:D1 w=⟨w/16777216%256,w/1048576%16,w/65536%16,w%65536,0⟩:=by simp[D1,e2]
  refine AB rfl (fun _=>?_) (fun h=>by simp[uC,e2]at h);refine au1 @c4 ?_;refine cc (Lt (⟨w/16777216%256,w/1048576%16,w/65536%16,w%65536,0⟩:InstD)) ?_;intros;cases hv:validD (⟨w/16777216%256,w/1048576%16,w/65536%16,w%65536,0⟩:InstD)with
  | false =>
   refine au ?_;refine CV ?_;refine aw ?_;simp[hd,hv,F7]
  | true =>
   refine au ?_;refine C3 ?_;refine aw ?_;simp[hd,hv,F7]
 refine AB rfl (fun h=>by simp[uC,e2]at h) (fun _=>?_);refine au ?_;intros;apply wr;by_cases e3:AK (w/16777216%256)=3\/AK (w/16777216%256)=7
 ·have hd:D1 w=⟨w/16777216%256,w/1048576%16,w/65536%16,0,IN (w%65536)⟩:=by simp[D1,e2,e3]
  have hl:By (AK (w/16777216%256))=-32768:=by simp[By,e3]
  refine AB rfl (fun _=>?_) (fun h=>by simp[hl]at h);refine au ?_;refine cZ (ext_ok (w%65536) (by omega) (by omega)) @c6 @c6 ?_;refine cc (Lt (⟨w/16777216%256,w/1048576%16,w/65536%16,0,IN (w%65536)⟩:InstD)) ?_;intros;cases hv:validD (⟨w/16777216%256,w/1048576%16,w/65536%16,0,IN (w%65536)⟩:InstD)with
  | false =>
   refine au ?_;refine CV ?_;refine aw ?_;simp[hd,hv,F7]
  | true =>
   refine au ?_;refine C3 ?_;refine aw ?_;simp[hd,hv,F7]
 have hd:D1 w=⟨w/16777216%256,w/1048576%16,w/65536%16,0,w%65536⟩:=by simp[D1,e2,e3]
 have hl:By (AK (w/16777216%256))=0:=by simp[By,e3]
 refine AB rfl (fun h=>by simp[hl]at h) (fun _=>?_);refine au1 @c5 ?_;refine cc (Lt (⟨w/16777216%256,w/1048576%16,w/65536%16,0,w%65536⟩:InstD)) ?_;intros;cases hv:validD (⟨w/16777216%256,w/1048576%16,w/65536%16,0,w%65536⟩:InstD)with
 | false =>
  refine au ?_;refine CV ?_;refine aw ?_;simp[hd,hv,F7]
 | true =>
  refine au ?_;refine C3 ?_;refine aw ?_;simp[hd,hv,F7]
theorem or32(x y:Int)(t:Nat)(h0:0<=x)(h1:x<4294967296)(hx:x.toNat%2^t=0)(y0:0<=y)(y1:y.toNat<2^t)(hs:x+y<4294967296):IntKind.u32.wrap (((x%4294967296).toNat ||| (y%4294967296).toNat:Nat):Int)=x+y:=by
 have e1:x%4294967296=x:=by omega
 have e2:y%4294967296=y:=by omega
 rw[e1,e2];have hWd:x.toNat=(x.toNat/2^t) <<< t:=by
  rw[Nat.shiftLeft_eq,Nat.mul_comm];have:=Nat.div_add_mod x.toNat (2^t);omega
 have hor:x.toNat ||| y.toNat=x.toNat+y.toNat:=by
  rw[hWd,<- Nat.shiftLeft_add_eq_or_of_lt y1]
 rw[hor,GZ _ (by omega)];omega
theorem O8(x y:Int)(t:Nat)(h0:0<=x)(h1:x<4294967296)(hx:x.toNat%2^t=0)(y0:0<=y)(y1:y.toNat<2^t)(hs:x+y<4294967296):IntKind.u32.wrap ((BitVec.ofInt 32 x ||| BitVec.ofInt 32 y).toNat:Int)=x+y:=by
 rw[BitVec.toNat_or,Dy,Dy];exact or32 x y t h0 h1 hx y0 y1 hs
set_option maxHeartbeats 8000000 in
theorem Fg(i:InstD)(hi:-2147483648<=i.imm/\i.imm<=2147483647):AC prog 98 [.st i.row] (.tup [.int .u32 (if validD i then Wb i else 0),.bool (validD i)]):=by
 refine sX func98 ntmps98 ?_;refine cc (F2 i hi) ?_;intros;cases hv:validD i with
 | false =>
  refine au ?_;refine CV ?_;refine ar ?_;simp[hv]
 | true =>
  obtain⟨f1,f2,f3,f4,f5,f6⟩:=G0 hv;have w1:IntKind.u32.wrap i.op=i.op:=by rw[IntKind.wrap_u32];omega
  have w2:IntKind.u32.wrap i.a=i.a:=by rw[IntKind.wrap_u32];omega
  have w3:IntKind.u32.wrap i.b=i.b:=by rw[IntKind.wrap_u32];omega
  have w4:IntKind.u32.wrap i.c=i.c:=by rw[IntKind.wrap_u32];omega
  have s1:IntKind.u32.wrap (i.op*16777216)=i.op*16777216:=by rw[IntKind.wrap_u32];omega
  have s2:IntKind.u32.wrap (i.a*1048576)=i.a*1048576:=by rw[IntKind.wrap_u32];omega
  have s3:IntKind.u32.wrap (i.b*65536)=i.b*65536:=by rw[IntKind.wrap_u32];omega
  refine au ?_;refine EG (kX7 @w1 @w2 @w3 @w4 @s1 @s2 @s3) ?_;intros;apply wr;refine ar ?_;simp[Wb,hv,w1,w2,w3,w4,s1,s2,s3];have m1:=AV (IntKind.u32.wrap i.imm) 16 65536 (by omega) (by decide);rw[show(65536-1:Nat)=65535 from rfl,IntKind.wrap_u32 i.imm]at m1;have m2:i.imm%4294967296%((65536:Nat):Int)=i.imm%65536:=by omega
  rw[m2,<- IntKind.wrap_u32 i.imm]at m1;change IntKind.u32.wrap ((BitVec.ofInt 32 (IntKind.u32.wrap ((BitVec.ofInt 32 (IntKind.u32.wrap ((BitVec.ofInt 32 (IntKind.u32.wrap ((BitVec.ofInt 32 (i.op*16777216) ||| BitVec.ofInt 32 (i.a*1048576)).toNat:Int)) ||| BitVec.ofInt 32 (i.b*65536)).toNat:Int)) ||| BitVec.ofInt 32 (IntKind.u32.wrap ((BitVec.ofInt 32 (IntKind.u32.wrap i.imm) &&& 65535#32).toNat:Int))).toNat:Int)) ||| BitVec.ofInt 32 i.c).toNat:Int)=_
  rw[m1,O8 (i.op*16777216) (i.a*1048576) 24 (by omega) (by omega) (by omega) (by omega) (by omega) (by omega),
   O8 (i.op*16777216+i.a*1048576) (i.b*65536) 20 (by omega) (by omega) (by omega) (by omega) (by omega) (by omega),
   O8 (i.op*16777216+i.a*1048576+i.b*65536) (i.imm%65536) 16 (by omega) (by omega) (by omega) (by omega) (by omega) (by omega)]
  rcases f6 with h|h
  ·rw[h,show BitVec.ofInt 32 0=0#32 by decide,BitVec.or_zero,Dy,GZ _ (by omega)];omega
  rw[h,O8 (i.op*16777216+i.a*1048576+i.b*65536+0%65536) i.c 16 (by omega) (by omega) (by omega) (by omega) (by omega) (by omega)];omega
end Go.Proofs.YtjkmhmepljamoaaGreat
end
section
namespace Go.Proofs.YtjkmhmepljamoaaGreat
open Go.Ab Go.RowKit Tryz
abbrev W32(n:Int):Prop:=0<=n/\n<4294967296
abbrev uw(n:Int):Int:=IntKind.u32.wrap n
abbrev sw(n:Int):Int:=IntKind.i32.wrap n
def Jq(a b:Int):Int:=if b=0 then 4294967295 else uw ((sw a).tdiv (sw b))
def Jr(a b:Int):Int:=if b=0 then a else uw ((sw a).tmod (sw b))
def b2w(b:Bool):Int:=if b then 1 else 0
def SI(op a b:Int):Option Int :=
 if op=1\/op=16 then some (uw (a+b))
 else if op=2 then some (uw (a-b))
 else if op=3\/op=17 then some (Bg .u32 a b)
 else if op=4\/op=18 then some (ior .u32 a b)
 else if op=5\/op=19 then some (Vp .u32 a b)
 else if op=6\/op=20 then some (uw (a*2^(b%32).toNat))
 else if op=7\/op=21 then some (a/2^(b%32).toNat)
 else if op=8\/op=22 then some (uw (sw a/2^(b%32).toNat))
 else if op=9 then some (uw (a*b))
 else if op=10 then some (Jq a b)
 else if op=11 then some (Jr a b)
 else if op=12\/op=23 then some (b2w (decide (sw a<sw b)))
 else if op=13 then some (b2w (decide (a<b)))
 else none
def CpuD.setX(c:CpuD)(r:Int)(v:Int):CpuD:=⟨fun i=>if(i:Int)=r then v else c.x i,c.pc,c.csr⟩
def CpuD.setR(c:CpuD)(r:Int)(v:Int):CpuD:=if r=0 then c else c.setX r v
def CpuD.setS(c:CpuD)(r:Int)(v:Int):CpuD:=⟨c.x,c.pc,fun i=>if(i:Int)=r then v else c.csr i⟩
def CpuD.setP(c:CpuD)(p:Int):CpuD:=⟨c.x,p,c.csr⟩
def N5(s:Int):Int:=1+s/4%2*4+s%2*8+s/2%2*16
def Z3(s:Int):Int:=s/8%2+s/16%2*2+s/4%2*4+s/8%2*8+s/16%2*16
def BP(c:CpuD)(cause bad:Int):CpuD :=
 ⟨c.x,c.csr 1,fun i=>if i=0 then N5 (c.csr 0)else if i=2 then c.pc else if i=3 then uw cause else if i=4 then bad else c.csr i⟩
def Om(c:CpuD):CpuD:=⟨c.x,c.csr 2,fun i=>if i=0 then Z3 (c.csr 0)else c.csr i⟩
def Bs(c:CpuD)(k v:Int):CpuD :=
 if k=0\/k=7 then c.setS k (Bg .u32 v 31)
 else if k=6 then c.setS k (Bg .u32 v 255)
 else if k=1\/k=2 then c.setS k (Da .u32 v 3)
 else if k=3\/k=4\/k=5 then c.setS k v
 else c
def wAt(mem:List Int)(a:Int):Int:=mem.getD a.toNat 0
def AS(mem:List Int)(a size:Int):Bool:=(decide (size=1)||(decide (size=4)&&decide (a%4=0)))&&decide (a+size<=pagesD mem*128)
def byteAt(w k:Int):Int:=w/2^(8*k).toNat%256
def X4(w k v:Int):Int:=w-byteAt w k*2^(8*k).toNat+v%256*2^(8*k).toNat
def Bw(mem:List Int)(a size:Int):Int:=if size=1 then byteAt (wAt mem (a/4)) (a%4)else wAt mem (a/4)
def Ca(mem:List Int)(a size v:Int):List Int:=mem.set (a/4).toNat (if size=1 then X4 (wAt mem (a/4)) (a%4) v else v)
def La(w access:Int):Bool :=
 !decide (Bg .u32 w 1=0)&&(if access=3 then !decide (Bg .u32 w 2=0)else if access=1 then !decide (Bg .u32 w 4=0)else true)
def F4(mem:List Int)(root va access:Int):Option (Int×Int) :=
 if va<4096/\root<pagesD mem/\La (wAt mem ((root*128+va/128*4)/4)) access=true/\wAt mem ((root*128+va/128*4)/4)/256%256<pagesD mem then
  some (wAt mem ((root*128+va/128*4)/4)/256%256*128+va%128,root*128+va/128*4)
 else none
def Km(w access:Int):Int:=if access=3 then ior .u32 (ior .u32 w 8) 16 else ior .u32 w 8
def EI(mem:List Int)(entry access:Int):List Int:=mem.set (entry/4).toNat (Km (wAt mem (entry/4)) access)
def FU(c:CpuD):Bool:=decide (c.csr 0%2=0)&&decide (c.csr 0/4%2=1)
def AG(c:CpuD)(mem:List Int)(va size access:Int):Int×List Int×Int :=
 if va%size≠0 then(0,mem,3)
 else if FU c=true then match F4 mem (c.csr 6) va access with
  | none=>(0,mem,access+3)
  | some (a,e)=>(a,EI mem e access,0)
 else if AS mem va size=true then(va,mem,0)
 else(0,mem,access+3)
def HE(op a b:Int):Bool :=
 if op=40 then decide (a=b)else if op=41 then !decide (a=b)else if op=42 then decide (sw a<sw b)else if op=43 then !decide (sw a<sw b)else if op=44 then decide (a<b)else !decide (a<b)
structure EffD where
 kind:Int
 port:Int
 reg:Int
 val:Int
abbrev EffD.row(e:EffD):List V:=[iv e.kind,iv e.port,iv e.reg,uv e.val]
def BB:EffD:=⟨0,0,0,0⟩
def AY(op:Int):Int:=if op=32\/op=35 then 4 else 1
def AE(c:CpuD)(i:InstD):CpuD×EffD :=
 if i.op=24 then((c.setR i.a (uw (uw i.imm*65536))).setP (uw (c.pc+4)),BB)
 else if 40<=i.op/\i.op<=45 then(c.setP (if HE i.op (c.x i.a.toNat) (c.x i.b.toNat)=true then uw (c.pc+uw (4*uw i.imm))else uw (c.pc+4)),BB)
 else if i.op=48 then((c.setR i.a (uw (c.pc+4))).setP (uw (c.pc+uw (4*uw i.imm))),BB)
 else if i.op=49 then((c.setR i.a (uw (c.pc+4))).setP (uw (c.x i.b.toNat+uw i.imm)),BB)
 else if i.op=56 then(BP c 7 0,BB)
 else if i.op=57 then(Om c,BB)
 else if i.op=58 then((c.setR i.a (c.csr i.imm.toNat)).setP (uw (c.pc+4)),BB)
 else if i.op=59 then((Bs c i.imm (c.x i.a.toNat)).setP (uw (c.pc+4)),BB)
 else if i.op=60 then(c.setP (uw (c.pc+4)),⟨1,i.imm,i.a,0⟩)
 else if i.op=61 then(c.setP (uw (c.pc+4)),⟨2,i.imm,0,c.x i.a.toNat⟩)
 else if i.op=62 then(c.setP (uw (c.pc+4)),⟨3,0,0,0⟩)
 else if i.op=63 then(c.setP (uw (c.pc+4)),⟨5,0,0,0⟩)
 else if i.op=64 then(c.setP (uw (c.pc+4)),⟨4,0,0,0⟩)
 else((c.setR i.a ((SI i.op (c.x i.b.toNat) (if 16<=i.op then uw i.imm else c.x i.c.toNat)).getD 0)).setP (uw (c.pc+4)),BB)
def GH(v:Int):Int:=if v<128 then v else v+4294967040
def Af(c:CpuD)(mem:List Int)(i:InstD):CpuD×List Int :=
 match AG c mem (uw (c.x i.b.toNat+uw i.imm)) (AY i.op) 2 with
 | (a,m,cause)=>if cause≠0 then(BP c cause (uw (c.x i.b.toNat+uw i.imm)),m)else
  ((c.setR i.a (if i.op=33 then GH (Bw m a (AY i.op))else Bw m a (AY i.op))).setP (uw (c.pc+4)),m)
def AX(c:CpuD)(mem:List Int)(i:InstD):CpuD×List Int :=
 match AG c mem (uw (c.x i.b.toNat+uw i.imm)) (AY i.op) 3 with
 | (a,m,cause)=>if cause≠0 then(BP c cause (uw (c.x i.b.toNat+uw i.imm)),m)else
  (c.setP (uw (c.pc+4)),Ca m a (AY i.op) (c.x i.a.toNat))
def Oc(op:Int):Bool:=decide (57<=op)&&decide (op<=64)
def CY(c:CpuD)(mem:List Int)(w:Int):CpuD×List Int×EffD :=
 if validD (D1 w)=false then(BP c 1 w,mem,BB)
 else if Oc (D1 w).op=true/\c.csr 0%2=0 then(BP c 2 w,mem,BB)
 else if 32<=(D1 w).op/\(D1 w).op<=34 then((Af c mem (D1 w)).1,(Af c mem (D1 w)).2,BB)
 else if 35<=(D1 w).op/\(D1 w).op<=36 then((AX c mem (D1 w)).1,(AX c mem (D1 w)).2,BB)
 else((AE c (D1 w)).1,mem,(AE c (D1 w)).2)
def Az(c:CpuD)(mem:List Int):CpuD×List Int×EffD :=
 match AG c mem c.pc 4 1 with
 | (a,m,cause)=>if cause≠0 then(BP c cause c.pc,m,BB)else CY c m (wAt m (a/4))
theorem sfield(w f low:Nat)(hl:low<=24)(hw:w<4294967296)(hf:f<256):
  ((BitVec.ofNat 32 w &&& ~~~ BitVec.ofNat 32 (255*2^low)) ||| BitVec.ofNat 32 (f*2^low)).toNat=2^low*(2^8*(w/2^low/2^8)+f)+w%2^low:=by
 have hlt:2^low*(2^8*(w/2^low/2^8)+f)+w%2^low<2^32:=by
  have p:0<2^low:=Nat.two_pow_pos low;have d:w/2^low/2^8<2^(24-low):=by
   rw[Nat.div_div_eq_div_mul,<- Nat.pow_add];apply Nat.div_lt_of_lt_mul;rw[<- Nat.pow_add,show low+8+(24-low)=32 by omega];exact hw
  have e:2^low*2^8*2^(24-low)=2^32:=by rw[<- Nat.pow_add,<- Nat.pow_add];congr 1;omega
  have m:w%2^low<2^low:=Nat.mod_lt _ p;have q:2^8*(w/2^low/2^8)+f+1<=2^8*2^(24-low):=by omega
  have q2:=Nat.mul_le_mul_left (2^low) q;rw[<- Nat.mul_assoc,e,Nat.mul_add]at q2;omega
 have h2:((BitVec.ofNat 32 w &&& ~~~ BitVec.ofNat 32 (255*2^low)) ||| BitVec.ofNat 32 (f*2^low))=BitVec.ofNat 32 (2^low*(2^8*(w/2^low/2^8)+f)+w%2^low):=by
  apply BitVec.eq_of_getLsbD_eq;intro i hi;have m:w%2^low<2^low:=Nat.mod_lt _ (Nat.two_pow_pos low);simp only[BitVec.getLsbD_or,BitVec.getLsbD_and,BitVec.getLsbD_not,BitVec.getLsbD_ofNat,hi,decide_true,Bool.true_and];rw[Nat.testBit_two_pow_mul_add _ m,Nat.testBit_two_pow_mul_add _ (show f<2^8 from hf),Nat.mul_comm 255,Nat.mul_comm f];rw[show(255:Nat)=2^8-1 from rfl,Nat.testBit_two_pow_mul,Nat.testBit_two_pow_mul,Nat.testBit_two_pow_sub_one,Nat.testBit_mod_two_pow,Nat.testBit_div_two_pow,Nat.testBit_div_two_pow];by_cases h1:i<low
  ·simp[h1,show ¬low<=i by omega]
  by_cases h3:i-low<8
  ·simp[h1,h3,show low<=i by omega]
  have e:low+(8+(i-low-8))=i:=by omega
  have hf2:f.testBit (i-low)=false:=Nat.testBit_lt_two_pow (Nat.lt_of_lt_of_le (show f<2^8 from hf) (Nat.pow_le_pow_right (by decide) (by omega)));simp[h1,h3,show low<=i by omega,hf2];try (congr 1;omega)
 rw[h2,BitVec.toNat_ofNat,Nat.mod_eq_of_lt hlt]
theorem XJ(x k:Nat):x &&& 2^k=x/2^k%2*2^k:=by
 apply Nat.eq_of_testBit_eq;intro i;rw[Nat.testBit_and,Nat.testBit_two_pow,Nat.testBit_mul_two_pow];by_cases h:k=i
 ·subst h;rcases Nat.mod_two_eq_zero_or_one (x/2^k)with h|h<;>simp[Nat.testBit_eq_decide_div_mod_eq,h]
 simp only[h,decide_false,Bool.and_false];by_cases h2:k<=i
 ·have h3:1<=i-k:=by omega
  rcases Nat.mod_two_eq_zero_or_one (x/2^k)with q|q
  ·simp[q]
  rw[q,Nat.testBit_lt_two_pow (Nat.lt_of_lt_of_le (show 1<2^1 by decide) (Nat.pow_le_pow_right (by decide) h3))];simp
 simp[h2]
theorem Dq{n:Nat}(h:n<4294967296):IntKind.u32.wrap (n:Int)=n:=by rw[IntKind.wrap_u32];omega
theorem Fh(x:Int)(k:Nat)(h:W32 x)(hk:k<32):Bg .u32 x ((2^k:Nat):Int)=x/((2^k:Nat):Int)%2*((2^k:Nat):Int):=by
 obtain⟨n,rfl⟩:=Int.eq_ofNat_of_zero_le h.1;have p:2^k<2^32:=Nat.pow_lt_pow_right (by decide) hk;have hn:n<4294967296:=by have:=h.2;omega
 have e:(BitVec.ofInt 32 (n:Int) &&& BitVec.ofInt 32 ((2^k:Nat):Int)).toNat=n/2^k%2*2^k:=by
  have hb:∀m:Nat,BitVec.ofInt 32 (m:Int)=BitVec.ofNat 32 m:=fun m=>by simp
  rw[hb n,hb (2^k),BitVec.toNat_and,BitVec.toNat_ofNat,BitVec.toNat_ofNat,Nat.mod_eq_of_lt (show n<2^32 from hn),Nat.mod_eq_of_lt p,XJ]
 unfold Bg;rw[show IntKind.u32.bits=32 from rfl,e,Dq]
 ·push_cast;rfl
 have:n/2^k%2<2:=Nat.mod_lt _ (by decide);rcases Nat.mod_two_eq_zero_or_one (n/2^k)with q|q<;>rw[q]<;>omega
theorem Tm{x:Int}(h:W32 x):Bg .u32 x 1=x%2:=by have:=Fh x 0 h (by decide);simpa using this
theorem b9{x:Int}(h:W32 x):Bg .u32 x 2=x/2%2*2:=Fh x 1 h (by decide)
theorem iand4{x:Int}(h:W32 x):Bg .u32 x 4=x/4%2*4:=Fh x 2 h (by decide)
theorem Wq{x:Int}(h:W32 x)(k:Nat)(hk:k<32):(Bg .u32 x (2^k)=0)=(x/2^k%2=0):=by
 have e:=Fh x k h hk
 push_cast at e
 rw[e];have p:(0:Int)<2^k:=iM (by decide);apply propext;constructor
 ·intro q;rcases Int.mul_eq_zero.1 q with q|q
  ·exact q
  omega
 intro q;rw[q];simp
theorem Ie(w v l:Nat)(hl:l<=24)(hw:w<4294967296)(hf:v<256):
  ior .u32 (Da .u32 (w:Int) ((255*2^l:Nat):Int)) ((v*2^l:Nat):Int)=((2^l*(2^8*(w/2^l/2^8)+v)+w%2^l:Nat):Int):=by
 have hb:∀m:Nat,BitVec.ofInt 32 (m:Int)=BitVec.ofNat 32 m:=fun m=>by simp
 have hx:∀b:BitVec 32,BitVec.ofInt 32 (IntKind.u32.wrap (b.toNat:Int))=b:=fun b=>by
  rw[Dq (by have:=b.isLt;omega),hb];simp
 unfold ior Da;rw[show IntKind.u32.bits=32 from rfl,hx,hb w,hb (255*2^l),hb (v*2^l)];rw[<- sfield w v l hl hw hf,Dq (by have:=(BitVec.isLt (BitVec.ofNat 32 w &&& ~~~BitVec.ofNat 32 (255*2^l) ||| BitVec.ofNat 32 (v*2^l)));omega)]
theorem setB(w v k:Int)(h:W32 w)(hk:k=0\/k=1\/k=2\/k=3):ior .u32 (Da .u32 w (255*2^(8*k).toNat)) (v%256*2^(8*k).toNat)=X4 w k v:=by
 obtain⟨n,rfl⟩:=Int.eq_ofNat_of_zero_le h.1;obtain⟨f,hf⟩:=Int.eq_ofNat_of_zero_le (show 0<=v%256 by omega);have hn:n<4294967296:=by have:=h.2;omega
 unfold X4 byteAt;rw[hf];rcases hk with rfl|rfl|rfl|rfl
 ·have e:=Ie n f 0 (by decide) hn (by omega);simp at e ⊢;rw[e];omega
 ·have e:=Ie n f 8 (by decide) hn (by omega);simp at e ⊢;rw[e];omega
 ·have e:=Ie n f 16 (by decide) hn (by omega);simp at e ⊢;rw[e];omega
 have e:=Ie n f 24 (by decide) hn (by omega);simp at e ⊢;rw[e];omega
theorem putB_w{w v k:Int}(h:W32 w)(hk:k=0\/k=1\/k=2\/k=3):W32 (X4 w k v):=by
 unfold X4 byteAt;have:=h.1;have:=h.2;rcases hk with rfl|rfl|rfl|rfl<;>constructor<;>simp<;>omega
def IJ(s f t:Int):Int:=if Bg .u32 s f=0 then Da .u32 s t else ior .u32 s t
theorem trap32:∀k:Fin 32,Da .u32 (ior .u32 (IJ (IJ (k.val:Int) 1 8) 2 16) 1) 2=N5 (k.val:Int):=by decide +kernel
theorem ret32:∀k:Fin 32,IJ (IJ (k.val:Int) 8 1) 16 2=Z3 (k.val:Int):=by decide +kernel
theorem trap_s{s:Int}(h0:0<=s)(h1:s<=31):Da .u32 (ior .u32 (IJ (IJ s 1 8) 2 16) 1) 2=N5 s:=by
 have h:=trap32 ⟨s.toNat,by omega⟩;rwa[show((⟨s.toNat,by omega⟩:Fin 32).val:Int)=s by simp;omega]at h
theorem ret_s{s:Int}(h0:0<=s)(h1:s<=31):IJ (IJ s 8 1) 16 2=Z3 s:=by
 have h:=ret32 ⟨s.toNat,by omega⟩;rwa[show((⟨s.toNat,by omega⟩:Fin 32).val:Int)=s by simp;omega]at h
theorem V3(s:Int):0<=N5 s/\N5 s<=31:=by unfold N5;omega
theorem Z4(s:Int):0<=Z3 s/\Z3 s<=31:=by unfold Z3;omega
abbrev OkW(l:List Int):Prop:=∀w∈l,W32 w
theorem PD{l:List Int}(h:OkW l)(a:Int):W32 (wAt l a):=by
 unfold wAt;by_cases hi:a.toNat<l.length
 ·rw[gP,gR hi];exact h _ (List.getElem_mem hi)
 rw[gP,iV (by omega)];exact⟨by decide,by decide⟩
theorem eZ{l:List Int}(h:OkW l){n:Nat}{v:Int}(hv:W32 v):OkW (l.set n v):=by
 intro w hw;rcases List.mem_or_eq_of_mem_set hw with q|q
 ·exact h w q
 rw[q];exact hv
theorem Ad(l:List Int):0<=pagesD l/\pagesD l<=32:=by
 unfold pagesD;split
 ·rw[AA];omega
 omega
theorem C4{l:List Int}(h:pagesD l≠0):(l.length:Int)=pagesD l*32/\l.length<=1024:=by
 unfold pagesD at h ⊢;split
 ·rename_i q;have e:(l.length:Int).tmod 32=(l.length:Int)%32:=Int.tmod_eq_emod_of_nonneg (by omega);rw[e]at q;rw[AA];omega
 rename_i q;simp[q]at h
theorem Cb(x:Int):Bg .u32 x 255=x%256:=AV x 8 256 (by omega) (by decide)
theorem u64_in{n:Int}(h0:0<=n:=by omega)(h1:n<18446744073709551616:=by omega):IntKind.u64.wrap n=n:=by rw[IntKind.wrap_u64];omega
theorem u32_in{n:Int}(h0:0<=n:=by omega)(h1:n<4294967296:=by omega):IntKind.u32.wrap n=n:=by rw[IntKind.wrap_u32];omega
theorem D5(n:Int)(h:(0<=n/\n<4294967296)=True):IntKind.u32.wrap n=n:=u32_in (of_eq_true h).1 (of_eq_true h).2
theorem IA(n:Int)(h:(0<=n/\n<18446744073709551616)=True):IntKind.u64.wrap n=n:=u64_in (of_eq_true h).1 (of_eq_true h).2
theorem HZ(n:Int)(h:(-9223372036854775808<=n/\n<=9223372036854775807)=True):IntKind.i64.wrap n=n:=AA (of_eq_true h).1 (of_eq_true h).2
theorem N3{a:Int}(h:W32 a):IntKind.u32.wrap (a.tdiv 4)=a/4:=by rw[Int.tdiv_eq_ediv_of_nonneg h.1,IntKind.wrap_u32];have:=h.1;have:=h.2;omega
theorem Ln{a:Int}(h:0<=a):a.tmod 4=a%4:=Int.tmod_eq_emod_of_nonneg h
theorem Mc(w low:Int)(h0:0<=low)(h1:low<=31):AC prog 298 [uv w,iv low,iv 8] (uv (w/2^low.toNat%256)):=by
 have e1:IntKind.u64.wrap low=low:=u64_in h0 (by omega);have e2:Bg .u32 (w.fdiv (2^min low.toNat 32)) 255=w/2^low.toNat%256:=by
  rw[Cb,gY (by omega),gU _ (iJ (iM (by decide)))]
 refine sZ func298 ntmps298 ?_;exact wx1 (qX1 (Fj)) trivial (kX2 @e1 @e2)
theorem eY(w k v:Int)(hw:W32 w)(hk:k=0\/k=1\/k=2\/k=3):AC prog 327 [uv w,iv (k*8),iv 8,uv v] (uv (X4 w k v)):=by
 have e2:=setB w v k hw hk;rcases hk with rfl|rfl|rfl|rfl;all_goals simp at e2
 ·have e3:IntKind.u32.wrap (v%256)=v%256:=u32_in;refine sZ func327 ntmps327 ?_;exact wx1 (qX1 (Fj)) trivial (kX4 @Cb @e2 @e3 @D5)
 ·have e3:IntKind.u32.wrap (v%256*256)=v%256*256:=u32_in;refine sZ func327 ntmps327 ?_;exact wx1 (qX1 (Fj)) trivial (kX4 @Cb @e2 @e3 @D5)
 ·have e3:IntKind.u32.wrap (v%256*65536)=v%256*65536:=u32_in;refine sZ func327 ntmps327 ?_;exact wx1 (qX1 (Fj)) trivial (kX4 @Cb @e2 @e3 @D5)
 have e3:IntKind.u32.wrap (v%256*16777216)=v%256*16777216:=u32_in;refine sZ func327 ntmps327 ?_;exact wx1 (qX1 (Fj)) trivial (kX4 @Cb @e2 @e3 @D5)
theorem Kp(l:List Int)(a s:Int)(hs:s=1\/s=4)(ha:W32 a):AC prog 324 [DO l,uv a,iv s] (.bool (AS l a s)):=by
 have e1:IntKind.u64.wrap a=a:=u64_in ha.1 (by have:=ha.2;omega);have e2:IntKind.u64.wrap (pagesD l)=pagesD l:=u64_in (Ad l).1 (by have:=Ad l;omega);have e3:IntKind.u64.wrap (pagesD l*128)=pagesD l*128:=u64_in (by have:=Ad l;omega) (by have:=Ad l;omega);have e4:IntKind.u64.wrap (a+s)=a+s:=u64_in (by have:=ha.1;omega) (by have:=ha.2;omega);have e5:=Ln ha.1;rcases hs with rfl|rfl
 ·refine sZ func324 ntmps324 ?_;exact wx1 (qX1 (Cq l)) trivial (kX8 @e1 @e2 @e3 @e4 @e5 @AS.eq_1 @D5 @IA)
 refine sZ func324 ntmps324 ?_;exact wx1 (qX1 (Cq l)) trivial (kX8 @e1 @e2 @e3 @e4 @e5 @AS.eq_1 @D5 @IA)
theorem Bm{l:List Int}{a s:Int}(h:AS l a s=true)(ha:0<=a):(a/4).toNat<l.length:=by
 unfold AS at h;simp only[gX,Bool.or_eq_true,decide_eq_true_eq]at h;have hp:pagesD l≠0:=by
  intro q;rw[q]at h;omega
 have:=C4 hp;omega
theorem CN{k:IntKind}{l:List Int}{n:Nat}{w:Int}(h:l[n]? =some w):(ints k l)[n]? =some [.int k w]:=by simp[ints,h]
theorem F3{l:List Int}{a:Int}(h:a.toNat<l.length):l[a.toNat]? =some (wAt l a):=by
 unfold wAt;rw[gP,gR h];rfl
theorem ints_set(k:IntKind)(l:List Int)(n:Nat)(v:Int):(ints k l).set n [.int k v]=ints k (l.set n v):=by simp[ints,List.map_set]
theorem AQ{k:IntKind}{l:List Int}:∀x:List V,x∈ints k l->∀c:V,c∈x->C9 c=true:=by
 intro x hx c hc;simp only[ints,List.mem_map]at hx;obtain⟨n,_,rfl⟩:=hx;simp only[List.mem_singleton]at hc;subst hc;rfl
theorem WW(w a:Int):w/2^(a%4*8).toNat%256=byteAt w (a%4):=by rw[Int.mul_comm];rfl
theorem Gj(l:List Int)(a s:Int)(hs:s=1\/s=4)(ha:W32 a):AC prog 297 [DO l,uv a,iv s] (.tup [uv (if AS l a s=true then Bw l a s else 0),.bool (AS l a s)]):=by
 have hW:=Kp l a s hs ha;cases hw:AS l a s with
 | false =>
  rw[hw]at hW;refine sZ func297 ntmps297 ?_;exact wx (qX1 (hW)) trivial
 | true =>
  rw[hw]at hW;have hi:=Bm hw ha.1;have e1:=N3 ha;obtain⟨w,hw'⟩:∃w,w=wAt l (a/4):=⟨_,rfl⟩;have e2:=CN (k:=.u32) (F3 hi);rw[<- hw']at e2;have hw2:=hw'.symm;have e3:=AN .u32 l;have e4:=Ln ha.1;have e5:IntKind.i64.wrap (a%4)=a%4:=AA;have e6:IntKind.i64.wrap (a%4*8)=a%4*8:=AA;have e7:(0:Int)<=a/4:=by have:=ha.1;omega
  have e8:a/4<(l.length:Int):=by omega
  rcases hs with rfl|rfl
  ·refine sZ func297 ntmps297 ?_;exact wx1 (qX2 (hW) (Mc w (a%4*8) (by omega) (by omega))) trivial (kX9 @e1 @e2 @e3 @e4 @e5 @e6 @WW @Bw.eq_1 @hw2)
  refine sZ func297 ntmps297 ?_;exact wx1 (qX1 (hW)) trivial (kX6 @e1 @e2 @e3 @e4 @Bw.eq_1 @hw2)
theorem Jd(l:List Int)(a s v:Int)(hs:s=1\/s=4)(ha:W32 a)(hl:OkW l)(hb:l.length<=100000):AC prog 304 [DO l,uv a,iv s,uv v] (.tup [DO (if AS l a s=true then Ca l a s v else l),.bool (AS l a s)]):=by
 have hW:=Kp l a s hs ha;have e3:=AN .u32 l;cases hw:AS l a s with
 | false =>
  rw[hw]at hW;refine sZ func304 ntmps304 ?_;exact wx (qX1 (hW)) (qX1 (DL (ints .u32 l) false 1 (.inl rfl) (by rw[e3];exact hb)))
 | true =>
  rw[hw]at hW;have hi:=Bm hw ha.1;have e1:=N3 ha;obtain⟨w,hw'⟩:∃w,w=wAt l (a/4):=⟨_,rfl⟩;have e2:=CN (k:=.u32) (F3 hi);rw[<- hw']at e2;have hw2:=hw'.symm;have e4:=Ln ha.1;have e5:IntKind.i64.wrap (a%4)=a%4:=AA;have e6:IntKind.i64.wrap (a%4*8)=a%4*8:=AA;have e7:(0:Int)<=a/4:=by have:=ha.1;omega
  have e8:a/4<(l.length:Int):=by omega
  rcases hs with rfl|rfl
  ·refine sZ func304 ntmps304 ?_;exact wx1 (qX2 (hW) (eY w (a%4) v (by rw[hw'];exact PD hl _) (by omega))) (qX1 (DL (ints .u32 l) false 1 (.inl rfl) (by rw[e3];exact hb))) (kX9 @e1 @e2 @e3 @e4 @e5 @e6 @ints_set @Ca.eq_1 @hw2)
  refine sZ func304 ntmps304 ?_;exact wx1 (qX1 (hW)) (qX1 (DL (ints .u32 l) false 1 (.inl rfl) (by rw[e3];exact hb))) (kX7 @e1 @e2 @e3 @e4 @ints_set @Ca.eq_1 @hw2)
theorem EW(l:List Int)(f:Int)(h:W32 f):AC prog 337 [DO l,uv f] (.bool (decide (f<pagesD l))):=by
 have e1:IntKind.u64.wrap f=f:=u64_in h.1 (by have:=h.2;omega);have e2:IntKind.u64.wrap (pagesD l)=pagesD l:=u64_in (Ad l).1 (by have:=Ad l;omega);refine sZ func337 ntmps337 ?_;exact wx1 (qX1 (Cq l)) trivial (kX2 @e1 @e2)
theorem EV(a:Int)(h:a=1\/a=2\/a=3):AC prog 336 [iv a] (.tup [iv (a+3),.bool true]):=by
 rcases h with rfl|rfl|rfl
 ·refine sZ func336 ntmps336 ?_;exact wx trivial trivial
 ·refine sZ func336 ntmps336 ?_;exact wx trivial trivial
 refine sZ func336 ntmps336 ?_;exact wx trivial trivial
theorem Cz(a:Int)(h:a=1\/a=2\/a=3):AC prog 321 [iv a] (.tup [iv (a+3),.bool true]):=by
 rcases h with rfl|rfl|rfl
 ·refine sZ func321 ntmps321 ?_;exact wx trivial trivial
 ·refine sZ func321 ntmps321 ?_;exact wx trivial trivial
 refine sZ func321 ntmps321 ?_;exact wx trivial trivial
theorem K0(w:Int):AC prog 339 [uv w] (uv (w/256%256)):=by
 refine sZ func339 ntmps339 ?_;exact wx (qX1 (Mc w 8 (by decide) (by decide))) trivial
theorem H8(w a:Int):AC prog 338 [uv w,iv a] (.bool (La w a)):=by
 refine sZ func338 ntmps338 ?_;exact wx1 trivial trivial @La.eq_1
theorem IT{l:List Int}{root va:Int}(h:root<pagesD l)(h0:0<=root)(hv:va<4096)(hv0:0<=va):AS l (root*128+va/128*4) 4=true:=by
 unfold AS;simp only[gX,Bool.or_eq_true,decide_eq_true_eq];have q:(root*128+va/128*4)%4=0:=by omega
 have q2:root*128+va/128*4+4<=pagesD l*128:=by omega
 simp[q,q2]
def Cl(l:List Int)(root va acc:Int):V:=match F4 l root va acc with
 | some (a,e)=>.st [uv a,uv e,iv 0]
 | none=>.st [uv 0,uv 0,iv (acc+3)]
theorem fZ(l:List Int)(root va acc:Int)(hr:W32 root)(hv:W32 va)(ha:acc=1\/acc=2\/acc=3):AC prog 322 [DO l,uv root,uv va,iv acc] (Cl l root va acc):=by
 have hp:=Ad l;by_cases h1:va<4096
 ·by_cases h2:root<pagesD l
  ·have hi:=IT h2 hr.1 h1 hv.1;obtain⟨e,he⟩:∃e,e=root*128+va/128*4:=⟨_,rfl⟩;rw[<- he]at hi;have w1:IntKind.u32.wrap (va.tdiv 128)=va/128:=by rw[Int.tdiv_eq_ediv_of_nonneg hv.1];exact u32_in
   have w2:IntKind.u32.wrap (4*(va/128))=va/128*4:=by rw[u32_in];omega
   have w3:IntKind.u32.wrap (root*128)=root*128:=u32_in;have w4:IntKind.u32.wrap (root*128+va/128*4)=e:=by rw[he];exact u32_in
   have hl:=Gj l e 4 (.inr rfl) ⟨by omega,by omega⟩;rw[hi]at hl;simp only[if_true]at hl;obtain⟨w,hw⟩:∃w,w=wAt l (e/4):=⟨_,rfl⟩;rw[show Bw l e 4=w by rw[hw];simp[Bw]]at hl;have w5:va.tmod 128=va%128:=Int.tmod_eq_emod_of_nonneg hv.1;by_cases h3:La w acc=true
   ·by_cases h4:w/256%256<pagesD l
    ·have w6:IntKind.u32.wrap (w/256%256*128)=w/256%256*128:=u32_in;have w7:IntKind.u32.wrap (w/256%256*128+va%128)=w/256%256*128+va%128:=u32_in;have hV:Cl l root va acc=.st [uv (w/256%256*128+va%128),uv e,iv 0]:=by
      unfold Cl F4;rw[<- he,<- hw,if_pos ⟨h1,h2,h3,h4⟩]
     rw[hV];refine sZ func322 ntmps322 ?_;exact wx1 (qX6 (EV acc ha) (EW l root hr) (hl) (H8 w acc) (K0 w) (EW l (w/256%256) ⟨by omega,by omega⟩)) trivial (SL @w1 @w2 @w3 @w4 @w5 @w6 @w7 @h1 @h2 @h3 @h4)
    have hV:Cl l root va acc=.st [uv 0,uv 0,iv (acc+3)]:=by
     unfold Cl F4;rw[<- he,<- hw,if_neg (fun q=>h4 q.2.2.2)]
    rw[hV];refine sZ func322 ntmps322 ?_;exact wx1 (qX6 (EV acc ha) (EW l root hr) (hl) (H8 w acc) (K0 w) (EW l (w/256%256) ⟨by omega,by omega⟩)) trivial (kX8 @w1 @w2 @w3 @w4 @h1 @h2 @h3 @h4)
   have hV:Cl l root va acc=.st [uv 0,uv 0,iv (acc+3)]:=by
    unfold Cl F4;rw[<- he,<- hw,if_neg (fun q=>h3 q.2.2.1)]
   rw[hV];refine sZ func322 ntmps322 ?_;exact wx1 (qX4 (EV acc ha) (EW l root hr) (hl) (H8 w acc)) trivial (kX7 @w1 @w2 @w3 @w4 @h1 @h2 @h3)
  have hV:Cl l root va acc=.st [uv 0,uv 0,iv (acc+3)]:=by
   unfold Cl F4;rw[if_neg (fun q=>h2 q.2.1)]
  rw[hV];refine sZ func322 ntmps322 ?_;exact wx1 (qX2 (EV acc ha) (EW l root hr)) trivial (kX2 @h1 @h2)
 have hV:Cl l root va acc=.st [uv 0,uv 0,iv (acc+3)]:=by
  unfold Cl F4;rw[if_neg (fun q=>h1 q.1)]
 rw[hV];have h1':4096<=va:=by omega
 refine sZ func322 ntmps322 ?_;exact wx1 (qX1 (EV acc ha)) trivial (kX2 @h1 @h1')
theorem Y7(l:List Int)(e acc:Int)(hi:AS l e 4=true)(he:W32 e)(hl:OkW l)(hb:l.length<=100000):AC prog 323 [DO l,uv e,iv acc] (DO (EI l e acc)):=by
 have h1:=Gj l e 4 (.inr rfl) he;rw[hi]at h1;simp only[if_true]at h1;rw[show Bw l e 4=wAt l (e/4) by simp[Bw]]at h1;have h2:=Jd l e 4 (ior .u32 (wAt l (e/4)) 8) (.inr rfl) he hl hb;have h3:=Jd l e 4 (ior .u32 (ior .u32 (wAt l (e/4)) 8) 16) (.inr rfl) he hl hb;rw[hi]at h2 h3;simp only[if_true]at h2 h3;by_cases ha:acc=3
 ·subst ha;refine sZ func323 ntmps323 ?_;exact wx1 (qX2 (h1) (h3)) trivial (kX3 @EI.eq_1 @Km.eq_1 @Ca.eq_1)
 refine sZ func323 ntmps323 ?_;exact wx1 (qX2 (h1) (h2)) trivial (kX4 @EI.eq_1 @Km.eq_1 @Ca.eq_1 @ha)
structure OkC(c:CpuD):Prop where
 x:∀i,W32 (c.x i)
 pc:W32 c.pc
 csr:∀i,W32 (c.csr i)
 s:c.csr 0<=31
theorem kernel_ok(c:CpuD)(h:OkC c):AC prog 237 [.st c.row] (.bool (!decide (c.csr 0%2=0))):=by
 have e:=Tm (h.csr 0);refine sZ func237 ntmps237 ?_;exact wx1 trivial trivial @e
theorem Lp(b:Bool):AC prog 329 [.bool b] (uv (b2w b)):=by
 refine sZ func329 ntmps329 ?_;exact wx1 trivial trivial @b2w.eq_1
theorem LZ(s f t:Int):AC prog 295 [uv s,uv f,uv t] (uv (IJ s f t)):=by
 refine sZ func295 ntmps295 ?_;exact wx1 trivial trivial @IJ.eq_1
theorem EC(c:CpuD)(cause bad:Int)(h:OkC c):AC prog 233 [.st c.row,iv cause,uv bad] (.st (BP c cause bad).row):=by
 have e:=trap_s (h.csr 0).1 h.s;refine sZ func233 ntmps233 ?_;exact wx1 (qX2 (LZ (c.csr 0) 1 8) (LZ (IJ (c.csr 0) 1 8) 2 16)) trivial (kX2 @e @BP.eq_1)
theorem Um(c:CpuD)(h:OkC c):AC prog 306 [.st c.row] (.st (Om c).row):=by
 have e:=ret_s (h.csr 0).1 h.s;refine sZ func306 ntmps306 ?_;exact wx1 (qX2 (LZ (c.csr 0) 8 1) (LZ (IJ (c.csr 0) 8 1) 16 2)) trivial (kX2 @e @Om.eq_1)
theorem Ye(c:CpuD)(k v:Int)(h0:0<=k)(h1:k<=7):AC prog 307 [.st c.row,iv k,uv v] (.st (Bs c k v).row):=by
 have hk:k=0\/k=1\/k=2\/k=3\/k=4\/k=5\/k=6\/k=7:=by omega
 rcases hk with rfl|rfl|rfl|rfl|rfl|rfl|rfl|rfl
 ·refine sZ func307 ntmps307 ?_;exact wx1 trivial trivial (kX2 @Bs.eq_1 @CpuD.setS.eq_1)
 ·refine sZ func307 ntmps307 ?_;exact wx1 trivial trivial (kX2 @Bs.eq_1 @CpuD.setS.eq_1)
 ·refine sZ func307 ntmps307 ?_;exact wx1 trivial trivial (kX2 @Bs.eq_1 @CpuD.setS.eq_1)
 ·refine sZ func307 ntmps307 ?_;exact wx1 trivial trivial (kX2 @Bs.eq_1 @CpuD.setS.eq_1)
 ·refine sZ func307 ntmps307 ?_;exact wx1 trivial trivial (kX2 @Bs.eq_1 @CpuD.setS.eq_1)
 ·refine sZ func307 ntmps307 ?_;exact wx1 trivial trivial (kX2 @Bs.eq_1 @CpuD.setS.eq_1)
 ·refine sZ func307 ntmps307 ?_;exact wx1 trivial trivial (kX2 @Bs.eq_1 @CpuD.setS.eq_1)
 refine sZ func307 ntmps307 ?_;exact wx1 trivial trivial (kX2 @Bs.eq_1 @CpuD.setS.eq_1)
theorem J3{r:Int}(h0:0<=r)(h1:r<=15):r=0\/r=1\/r=2\/r=3\/r=4\/r=5\/r=6\/r=7\/r=8\/r=9\/r=10\/r=11\/r=12\/r=13\/r=14\/r=15:=by omega
theorem AP(c:CpuD){r:Int}(h0:0<=r)(h1:r<=15):c.row[r.toNat]? =some (uv (c.x r.toNat)):=by
 rcases J3 h0 h1 with rfl|rfl|rfl|rfl|rfl|rfl|rfl|rfl|rfl|rfl|rfl|rfl|rfl|rfl|rfl|rfl<;>rfl
theorem Sw(c:CpuD){k:Int}(h0:0<=k)(h1:k<=7):c.row[17+k.toNat]? =some (uv (c.csr k.toNat)):=by
 have hk:k=0\/k=1\/k=2\/k=3\/k=4\/k=5\/k=6\/k=7:=by omega
 rcases hk with rfl|rfl|rfl|rfl|rfl|rfl|rfl|rfl<;>rfl
theorem Uh(c:CpuD){r:Int}(v:Int)(h0:0<=r)(h1:r<=15):c.row.set r.toNat (uv v)=(c.setX r v).row:=by
 rcases J3 h0 h1 with rfl|rfl|rfl|rfl|rfl|rfl|rfl|rfl|rfl|rfl|rfl|rfl|rfl|rfl|rfl|rfl<;>simp[CpuD.setX]
theorem Hy(c:CpuD)(r v:Int)(h0:0<=r)(h1:r<=15):AC prog 303 [.st c.row,iv r,uv v] (.st (c.setR r v).row):=by
 have e:=Uh c v h0 h1;by_cases hr:r=0
 ·subst hr;refine sZ func303 ntmps303 ?_;exact wx1 trivial trivial @CpuD.setR.eq_1
 refine sZ func303 ntmps303 ?_;exact wx1 trivial trivial (kX3 @e @CpuD.setR.eq_1 @hr)
theorem HN(op:Int):AC prog 302 [iv op] (iv (AY op)):=by
 refine sZ func302 ntmps302 ?_;exact wx1 trivial trivial @AY.eq_1
theorem Y0(op a b:Int):AC prog 305 [iv op,uv a,uv b] (.bool (HE op a b)):=by
 refine sZ func305 ntmps305 ?_;exact wx1 trivial trivial @HE.eq_1
theorem bS(x:Int)(h0:0<=x)(h1:x<256):AC prog 300 [uv x,iv 8] (uv (GH x)):=by
 have e:IntKind.u32.wrap ((IntKind.i32.wrap (IntKind.u32.wrap (x*2^24))).fdiv (2^24))=GH x:=by
  rw[gU _ (by omega)];simp only[IntKind.wrap_u32,IntKind.wrap_i32];unfold GH;split<;>omega
 simp at e;refine sZ func300 ntmps300 ?_;exact wx1 trivial trivial (kX4 @e @IA @HZ @D5)
theorem Yt(a b:Int)(ha:W32 a)(hb:W32 b):AC prog 328 [uv a,uv b] (.tup [uv (Jq a b),uv (Jr a b)]):=by
 obtain⟨ha0,ha1⟩:=ha;obtain⟨hb0,hb1⟩:=hb;by_cases h1:b=0
 ·subst h1;refine sZ func328 ntmps328 ?_
  (refine af1 (kX2 @Jq.eq_1 @Jr.eq_1) ?_;intros;apply wr)
  repeat' ((first|(refine AB rfl (fun h=>?_) (fun h=>?_)<;>(first|(simp[Jq,Jr]at h;done)|(simp[Jq,Jr]at h)|skip)<;>(first|(exfalso;omega)|skip))|(refine AD 10 [0,0,3,7,0,0,48,112,15,511] [(9,([[],[],[0,1],[0,1,2],[],[],[4,5],[4,5,6],[0,1,2,3]],[])),(1,([],[]))] ?_)|exact rt1 (kX2 @Jq.eq_1 @Jr.eq_1)|fail)<;>(refine af1 (kX2 @Jq.eq_1 @Jr.eq_1) ?_;intros;apply wr))
 by_cases h2:a=2147483648/\b=4294967295
 ·obtain⟨rfl,rfl⟩:=h2;have q:Jq 2147483648 4294967295=2147483648:=by decide
  have r:Jr 2147483648 4294967295=0:=by decide
  rw[q,r];refine sZ func328 ntmps328 ?_
  (refine af ?_;intros;apply wr)
  repeat' ((first|(refine AB rfl (fun h=>?_) (fun h=>?_)<;>(first|(simp at h;done)|(simp at h)|skip)<;>(first|(exfalso;omega)|skip))|(refine AD 10 [0,0,3,7,0,0,48,112,15,511] [(9,([[],[],[0,1],[0,1,2],[],[],[4,5],[4,5,6],[0,1,2,3]],[])),(1,([],[]))] ?_)|exact rt|fail)<;>(refine af ?_;intros;apply wr))
 have hn:¬sw b=0:=by unfold sw;rw[IntKind.wrap_i32];omega
 have e1:IntKind.u32.wrap (IntKind.i32.wrap ((sw a).tdiv (sw b)))=Jq a b:=by
  unfold Jq uw;rw[if_neg h1];simp only[IntKind.wrap_u32,IntKind.wrap_i32];omega
 have e2:IntKind.u32.wrap ((sw a).tmod (sw b))=Jr a b:=by
  unfold Jr;rw[if_neg h1]
 refine sZ func328 ntmps328 ?_
 (refine af1 (kX4 @e1 @e2 @h1 @hn) ?_;intros;apply wr)
 repeat' ((first|(refine AB rfl (fun h=>?_) (fun h=>?_)<;>(first|(simp[e1,e2,h1,hn]at h;done)|(simp[e1,e2,h1,hn]at h)|skip)<;>(first|(exfalso;omega)|skip))|(refine AD 10 [0,0,3,7,0,0,48,112,15,511] [(9,([[],[],[0,1],[0,1,2],[],[],[4,5],[4,5,6],[0,1,2,3]],[])),(1,([],[]))] ?_)|exact rt1 (kX4 @e1 @e2 @h1 @hn)|fail)<;>(refine af1 (kX4 @e1 @e2 @h1 @hn) ?_;intros;apply wr))
theorem alF(a b:Int):Bg .u32 b 31=b%32/\a.fdiv (2^min (b%32).toNat 32)=a/2^(b%32).toNat/\(sw a).fdiv (2^min (b%32).toNat 32)=sw a/2^(b%32).toNat/\min (b%32).toNat 32=(b%32).toNat/\IntKind.u32.wrap (a+IntKind.u32.wrap (0-b))=uw (a-b)/\IntKind.u32.wrap (a+IntKind.u32.wrap (-b))=uw (a-b):=by
 have e0:Bg .u32 b 31=b%32:=AV b 5 32 (by omega) (by decide);have e1:a.fdiv (2^min (b%32).toNat 32)=a/2^(b%32).toNat:=by
  rw[gY (by omega),gU _ (iJ (iM (by decide)))]
 have e2:(sw a).fdiv (2^min (b%32).toNat 32)=sw a/2^(b%32).toNat:=by
  rw[gY (by omega),gU _ (iJ (iM (by decide)))]
 have e3:min (b%32).toNat 32=(b%32).toNat:=gY (by omega);have e4:IntKind.u32.wrap (a+IntKind.u32.wrap (0-b))=uw (a-b):=by unfold uw;simp only[IntKind.wrap_u32];omega
 have e5:IntKind.u32.wrap (a+IntKind.u32.wrap (-b))=uw (a-b):=by unfold uw;simp only[IntKind.wrap_u32];omega
 exact⟨e0,e1,e2,e3,e4,e5⟩
end Go.Proofs.YtjkmhmepljamoaaGreat
end
