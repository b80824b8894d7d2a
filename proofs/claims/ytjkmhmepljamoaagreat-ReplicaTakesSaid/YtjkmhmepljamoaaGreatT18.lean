/- A part of the proof of ReplicaTakes. -/
import Derived.Test.YtjkmhmepljamoaaGreatT06
import Derived.Test.YtjkmhmepljamoaaGreatT10
import Derived.Lib.AppendZerosOnto
import Derived.Lib.SliceRun
import Derived.Lib.Walk
set_option linter.all false
set_option maxHeartbeats 16000000
set_option maxRecDepth 100000
section
namespace Go.Proofs.YtjkmhmepljamoaaGreat
open Go.Ab Go.RowKit Tryz
def bC(s:Str):Int:=match s with|[]=>4294967295|b::_=>(b.toNat:Int)
def Ec(s:Str)(port:Int):Str×Int:=if port=0 then(s.tail,bC s)else if port=1 then(s,s.length)else(s,0)
def FT(s:Str)(b:UInt8):Str×Bool:=if 16<=s.length then(s,false)else(s++[b],true)
def Vn(v:Int):TimD:=⟨!decide (v=0),v,false⟩
def FC(t:TimD):TimD×Bool:=if t.armed=true then(⟨false,t.dl,true⟩,true)else(t,false)
def dueD(t:TimD)(now:Int):Bool:=t.armed&&decide (t.dl<=now)
def R9(t:TimD):Int:=b2w t.fired
def Nj(d:DskD)(port:Int):Int:=if port=4 then d.block else if port=5 then d.frame else if port=6 then uw d.state else 0
def CQ(d:DskD):Bool:=decide (d.state=2)||decide (d.state=3)
def Bi(w:Int):Str:=[UInt8.ofNat (w%256).toNat,UInt8.ofNat (w/256%256).toNat,UInt8.ofNat (w/65536%256).toNat,UInt8.ofNat (w/16777216%256).toNat]
def Bm(mem:List Int)(f:Int):Str:=((mem.take (f*32+32).toNat).drop (f*32).toNat).flatMap Bi
def E6(s:Str)(i:Nat):Int:=(s.getD (4*i) 0).toNat+(s.getD (4*i+1) 0).toNat*256+(s.getD (4*i+2) 0).toNat*65536+(s.getD (4*i+3) 0).toNat*16777216
def Hj(mem:List Int)(o:Nat)(s:Str):Nat->List Int
 | 0=>mem
 | i+1=>(Hj mem o s i).set (o+i) (E6 s i)
def Bq(mem:List Int)(f:Int)(s:Str):List Int:=Hj mem (f*32).toNat s 32
def BK(d:DskD)(at_:Int):OutD×Bool :=
 if d.state=1/\d.cmd=1 then(⟨3,at_,d.opBlock,[]⟩,true)else if d.state=1/\d.cmd=2 then(⟨4,at_,d.opBlock,d.opData⟩,true)else(⟨0,0,0,[]⟩,false)
def Ap(d:DskD)(mem:List Int)(cmd at_:Int):DskD×List OutD :=
 if d.state≠0 then(d,[])
 else if d.blocks<=d.block\/pagesD mem<=d.frame then({d with state:=3},[])
 else({d with state:=1,cmd:=cmd,opBlock:=d.block,opFrame:=d.frame,opData:=if cmd=2 then Bm mem d.frame else []},
  [(BK {d with state:=1,cmd:=cmd,opBlock:=d.block,opFrame:=d.frame,opData:=if cmd=2 then Bm mem d.frame else []} at_).1])
def Am(d:DskD)(mem:List Int)(port v at_:Int):DskD×List OutD :=
 if port=4 then({d with block:=v},[])
 else if port=5 then({d with frame:=v},[])
 else if port=6 then
  if v=1\/v=2 then Ap d mem v at_
  else if v=0/\CQ d=true then({d with state:=0},[])
  else(d,[])
 else(d,[])
def doneD(d:DskD)(n:Int):DskD:={d with state:=if n=1 then 2 else 3,cmd:=0,opBlock:=0,opFrame:=0,opData:=[]}
def AK(d:DskD)(mem:List Int)(e:EvD):DskD×List Int×Bool :=
 if d.state≠1\/e.kind≠4\/1<e.n then(d,mem,false)
 else if e.n=1/\d.cmd=1 then
  if d.opFrame<pagesD mem/\e.data.length=128 then(doneD d e.n,Bq mem d.opFrame e.data,true)else(d,mem,false)
 else if e.data=[]then(doneD d e.n,mem,true)else(d,mem,false)
def OH(n:NicD)(port:Int):Int:=if port=7 then n.frame else if port=8 then n.got else if port=9 then b2w n.posted+b2w n.received*2 else 0
def Ag(n:NicD)(mem:List Int)(port v at_:Int):NicD×List OutD :=
 if port=7 then({n with frame:=v},[])
 else if port=8 then({n with len:=v},[])
 else if port=9 then
  if v=1 then(n,if 1<=n.len/\n.len<=128/\n.frame<pagesD mem then [⟨2,at_,0,(Bm mem n.frame).take n.len.toNat⟩]else [])
  else if v=2 then(if n.frame<pagesD mem/\n.posted=false/\n.received=false then {n with posted:=true,buffer:=n.frame}else n,[])
  else if v=0 then({n with received:=false,got:=0},[])
  else(n,[])
 else(n,[])
def Ah(n:NicD)(mem:List Int)(s:Str):NicD×List Int×Bool :=
 if n.posted=true/\1<=s.length/\s.length<=128/\n.buffer<pagesD mem then
  ({n with posted:=false,buffer:=0,received:=true,got:=s.length},Bq mem n.buffer (s++(Bm mem n.buffer).drop s.length),true)
 else(n,mem,false)
def countB(g:Int):Int:=(List.range 32).foldl (fun n i=>n+g/2^i%2) 0
def Lp(t g port:Int):Int:=if port=10 then t else if port=11 then countB g else 0
def Bb(t g:Int):Bool:=!decide (countB g=t)
def Ci:Str:=List.replicate 128 0
def Ai(g:Int)(mem:List Int)(port v:Int):Int×List Int :=
 if 32<=v then(g,mem)
 else if port=10 then
  if v<pagesD mem/\g/2^v.toNat%2=0 then(ior .u32 g (2^v.toNat),Bq mem v Ci)else(g,mem)
 else if port=11 then(D8 .u32 g (2^v.toNat),mem)
 else(g,mem)
def H9(m:MchD):Int:=b2w m.tim.fired+b2w (!decide (m.keys=[]))*2+b2w (CQ m.dk)*4+b2w m.nc.received*8+b2w (Bb m.tgt m.given)*16
def enD(m:MchD):Int:=Bc .u32 (H9 m) (m.cpu.csr 7)
def Rp(e:Int):Option Int:=if e%2=1 then some 0 else if e/2%2=1 then some 1 else if e/4%2=1 then some 2 else if e/8%2=1 then some 3 else if e/16%2=1 then some 4 else none
def Ns(m:MchD):Bool:=m.waiting&&decide (enD m=0)
def runsD(m:MchD):Bool:=mayD m&&!m.halted&&!Ns m&&decide (m.count<1152921504606846976)
def AL(m:MchD):MchD :=
 if m.cpu.csr 0/2%2=0 then {m with waiting:=false}
 else match Rp (enD m)with
  | none=>{m with waiting:=false}
  | some i=>{m with waiting:=false,cpu:=BN m.cpu (16+i) 0}
def GZ(m:MchD):EffD:=(Aw (AL m).cpu m.mem).2.2
def readsD(m:MchD):Bool:=runsD m&&(decide ((GZ m).kind=1)&&decide ((GZ m).port=2))
def AQ(m:MchD)(port clock:Int):MchD×Int :=
 if port=0\/port=1 then({m with keys:=(Ec m.keys port).1},(Ec m.keys port).2)
 else if port=2 then(m,clock)
 else if port=3 then(m,R9 m.tim)
 else if port=4\/port=5\/port=6 then(m,Nj m.dk port)
 else if port=7\/port=8\/port=9 then(m,OH m.nc port)
 else if port=10\/port=11 then(m,Lp m.tgt m.given port)
 else(m,0)
def AH(m:MchD)(port v at_:Int):MchD×List OutD :=
 if port=0 then(m,[⟨1,at_,0,[UInt8.ofNat (v%256).toNat]⟩])
 else if port=3 then({m with tim:=Vn v},[])
 else if port=4\/port=5\/port=6 then({m with dk:=(Am m.dk m.mem port v at_).1},(Am m.dk m.mem port v at_).2)
 else if port=7\/port=8\/port=9 then({m with nc:=(Ag m.nc m.mem port v at_).1},(Ag m.nc m.mem port v at_).2)
 else if port=10\/port=11 then({m with given:=(Ai m.given m.mem port v).1,mem:=(Ai m.given m.mem port v).2},[])
 else(m,[])
def Bl(m:MchD)(e:EffD)(clock at_:Int):MchD×List OutD :=
 if e.kind=1 then({(AQ m e.port clock).1 with cpu:=(AQ m e.port clock).1.cpu.setR e.reg (AQ m e.port clock).2},[])
 else if e.kind=2 then AH m e.port e.val at_
 else if e.kind=3 then({m with waiting:=true},[])
 else if e.kind=4 then({m with halted:=true},[])
 else(m,[])
def Cu(m:MchD):MchD:={AL m with cpu:=(Aw (AL m).cpu m.mem).1,mem:=(Aw (AL m).cpu m.mem).2.1}
def goD(m:MchD)(clock:Int):MchD×List OutD :=
 ({(Bl (Cu m) (GZ m) clock m.count).1 with count:=(Bl (Cu m) (GZ m) clock m.count).1.count+1},(Bl (Cu m) (GZ m) clock m.count).2)
def stepD(m:MchD)(clock:Int):MchD×List OutD:=if runsD m=true then goD m clock else(m,[])
def applyD(m:MchD)(e:EvD):MchD×Bool :=
 if mayD m=false\/m.halted=true then(m,false)
 else if e.kind=2 then if e.n=0/\e.data=[]then({m with tim:=(FC m.tim).1},(FC m.tim).2)else(m,false)
 else if e.kind=3 then if e.n<=255/\e.data=[]then({m with keys:=(FT m.keys (UInt8.ofNat e.n.toNat)).1},(FT m.keys (UInt8.ofNat e.n.toNat)).2)else(m,false)
 else if e.kind=4 then({m with dk:=(AK m.dk m.mem e).1,mem:=(AK m.dk m.mem e).2.1},(AK m.dk m.mem e).2.2)
 else if e.kind=5 then if e.n=0 then({m with nc:=(Ah m.nc m.mem e.data).1,mem:=(Ah m.nc m.mem e.data).2.1},(Ah m.nc m.mem e.data).2.2)else(m,false)
 else if e.kind=6 then if e.data=[]then({m with tgt:=e.n},true)else(m,false)
 else(m,false)
theorem u8_of(w:Int):((UInt8.ofNat (w%256).toNat).toNat:Int)=IntKind.u8.wrap w:=by rw[UInt8.toNat_ofNat',IntKind.wrap_u8];omega
theorem K5(w:Int):AO (Bi w)=[[.int .u8 (IntKind.u8.wrap w)],[.int .u8 (IntKind.u8.wrap (w/256))],[.int .u8 (IntKind.u8.wrap (w/65536))],[.int .u8 (IntKind.u8.wrap (w/16777216))]]:=by
 simp only[AO,Bi,fJ,gI,u8_of]
@[simp] theorem bytesX_nil:AO []=[]:=rfl
@[simp] theorem putW_zero(l:List Int)(o:Nat)(s:Str):Hj l o s 0=l:=rfl
theorem Jp(a b:Str):AO (a++b)=AO a++AO b:=by simp[AO]
theorem MX(l:List Int):(l.flatMap Bi).length=4*l.length:=by
 induction l with
 | nil=>rfl
 | cons a r ih=>rw[List.flatMap_cons,eX,ih];simp[Bi];omega
theorem Hq(x:Int):x.fdiv 256=x/256:=eS _ (by decide)
theorem Do(x:Int):x.fdiv 65536=x/65536:=eS _ (by decide)
theorem Bd(x:Int):x.fdiv 16777216=x/16777216:=eS _ (by decide)
theorem dY(l:List Int)(hb:l.length<=1024):AC prog 289 [DJ l] (.str (l.flatMap Bi)):=by
 have e3:=AM .u32 l;have w1:IntKind.i64.wrap (4*(l.length:Int))=4*l.length:=AA (by omega) (by omega);have hb0:AO []=[]:=rfl;refine sY func289 ntmps289 (kX3 @e3 @w1 @maxLen.eq_1) ?_;intros;apply wr;obtain⟨I,hI⟩:∃I:Nat->St->Prop,I=(fun kk ss=>∃(i:Nat)(x:Str),i<=l.length/\kk=l.length-i/\(x=(l.take i).flatMap Bi/\x.length=4*i)/\ss=⟨33,[(12,.int .i64 i),(11,.int .i64 l.length),(10,DJ l),(3,.own 0)],1,[(0,some ⟨5,1,false,false,AO x⟩)],0⟩):=⟨_,rfl⟩;refine lX I (id) (by rw[hI];exact⟨0,[],by simp,rfl,⟨by simp,rfl⟩,rfl⟩) ?_;intro kk ss hIk _;rw[hI]at hIk;obtain⟨i,x,hi,rfl,hx,rfl⟩:=hIk;obtain⟨hx1,hx2⟩:=hx;refine au ?_;intros;apply wr;refine AB rfl (fun hh=>?_) (fun hh=>?_)
 ·simp at hh;obtain⟨w,hw⟩:∃w,l[i]? =some w:=⟨_,eR hh⟩;have hget:=Bh (k:=.u32) hw;have hnx:(l.take (i+1)).flatMap Bi=x++Bi w:=by
   rw[List.take_add_one,hw,List.flatMap_append,<- hx1];simp
  have hrow:AO (x++Bi w)=AO x++[[.int .u8 (IntKind.u8.wrap w)],[.int .u8 (IntKind.u8.wrap (w/256))],[.int .u8 (IntKind.u8.wrap (w/65536))],[.int .u8 (IntKind.u8.wrap (w/16777216))]]:=by rw[Jp,K5]
  have hbl:(AO x).length=4*i:=by simp[AO,hx2]
  refine au1 (kX7 @hget @hbl @Hq @Do @Bd @e3 @maxLen.eq_1) ?_;intros;apply wr;exact aX (fun x=>if x=0 then 2 else x) (by rw[hI];exact⟨i+1,(x++Bi w),by omega,rfl,⟨hnx.symm,by rw[eX,hx2];rfl⟩,rfl⟩) (kX2 (AA (n:=(i:Int)+1) (by omega) (by omega)) @hrow)
 simp at hh;have hi:l.take i=l:=fZ (by omega);rw[hi]at hx1;refine au1 (EN x) ?_;refine ar ?_;simp[hx1,EO]
theorem HG(l:List Int)(f:Int):AC prog 288 [DJ l,iv f] (.bool (decide (0<=f)&&decide (f<pagesD l))):=by
 refine sZ func288 ntmps288 ?_;exact wx (qX1 (Cp l)) trivial
theorem aZ(l:List Int)(a b:Nat):((ints .u32 l).take a).drop b=ints .u32 ((l.take a).drop b):=by simp[ints,List.map_take,List.map_drop]
theorem Gd{l:List Int}{f:Int}(h0:0<=f)(h1:f<pagesD l):((l.take (f*32+32).toNat).drop (f*32).toNat).length=32:=by
 have:=C0 (l:=l) (by omega);simp only[fF,fE];omega
theorem OS(l:List Int)(f:Int)(h0:0<=f)(h1:f<pagesD l):AC prog 231 [DJ l,iv f] (.tup [.str (Bm l f),.bool true]):=by
 have hp:=Aa l;have hl:=C0 (l:=l) (by omega);have e3:=AM .u32 l;have hh:=HG l f;rw[show(decide (0<=f)&&decide (f<pagesD l))=true by simp[h0,h1]]at hh;have w1:IntKind.i64.wrap (f*32)=f*32:=AA (by omega) (by omega);have w2:IntKind.i64.wrap (f*32+32)=f*32+32:=AA (by omega) (by omega);have ht:=dY ((l.take (f*32+32).toNat).drop (f*32).toNat) (by rw[Gd h0 h1];omega);refine sZ func231 ntmps231 ?_;exact wx1 (qX2 (hh) (ht)) trivial (kX5 @e3 @w1 @w2 @aZ @Bm.eq_1)
theorem Kt(a b:Int):ior .u32 a b=ior .u32 b a:=by unfold ior;rw[BitVec.or_comm]
theorem or4(a b c d:UInt8):ior .u32 (ior .u32 (ior .u32 (a.toNat:Int) ((b.toNat:Int)*256)) ((c.toNat:Int)*65536)) ((d.toNat:Int)*16777216)=(a.toNat:Int)+b.toNat*256+c.toNat*65536+d.toNat*16777216:=by
 have:=a.toNat_lt;have:=b.toNat_lt;have:=c.toNat_lt;have:=d.toNat_lt;have q1:ior .u32 (a.toNat:Int) ((b.toNat:Int)*256)=(b.toNat:Int)*256+a.toNat:=by
  rw[Kt];exact OQ _ _ 8 (by omega) (by omega) (by omega) (by omega) (by omega) (by omega)
 have q2:ior .u32 ((b.toNat:Int)*256+a.toNat) ((c.toNat:Int)*65536)=(c.toNat:Int)*65536+((b.toNat:Int)*256+a.toNat):=by
  rw[Kt];exact OQ _ _ 16 (by omega) (by omega) (by omega) (by omega) (by omega) (by omega)
 have q3:ior .u32 ((c.toNat:Int)*65536+((b.toNat:Int)*256+a.toNat)) ((d.toNat:Int)*16777216)=(d.toNat:Int)*16777216+((c.toNat:Int)*65536+((b.toNat:Int)*256+a.toNat)):=by
  rw[Kt];exact OQ _ _ 24 (by omega) (by omega) (by omega) (by omega) (by omega) (by omega)
 rw[q1,q2,q3];omega
theorem VH(a:UInt8):IntKind.u32.wrap (a.toNat:Int)=a.toNat:=by have:=a.toNat_lt;rw[IntKind.wrap_u32];omega
theorem eA(a:UInt8):IntKind.u32.wrap ((a.toNat:Int)*256)=(a.toNat:Int)*256:=by have:=a.toNat_lt;rw[IntKind.wrap_u32];omega
theorem eC(a:UInt8):IntKind.u32.wrap ((a.toNat:Int)*65536)=(a.toNat:Int)*65536:=by have:=a.toNat_lt;rw[IntKind.wrap_u32];omega
theorem eD(a:UInt8):IntKind.u32.wrap ((a.toNat:Int)*16777216)=(a.toNat:Int)*16777216:=by have:=a.toNat_lt;rw[IntKind.wrap_u32];omega
theorem Gg(l:List Int)(o:Nat)(s:Str)(n:Nat):(Hj l o s n).length=l.length:=by
 induction n with
 | zero=>rfl
 | succ n ih=>rw[Hj,List.length_set,ih]
theorem HW(l:List Int)(f:Int)(s:Str)(h0:0<=f)(h1:f<pagesD l)(hs:s.length=128):AC prog 229 [DJ l,iv f,.str s] (.tup [DJ (Bq l f s),.bool true]):=by
 have hp:=Aa l;have hl:=C0 (l:=l) (by omega);have e3:=AM .u32 l;have hh:=HG l f;rw[show(decide (0<=f)&&decide (f<pagesD l))=true by simp[h0,h1]]at hh;have w1:IntKind.i64.wrap (f*32)=f*32:=AA (by omega) (by omega);have hcl:=D2 (ints .u32 l) false 1 (.inl rfl) (by rw[e3];omega);refine sX func229 ntmps229 ?_;refine cn (hcl) ?_;refine au ?_;refine cZ (hh) @hs @hs ?_;refine EL @hs @w1 ?_;intros;apply wr;obtain⟨I,hI⟩:∃I:Nat->St->Prop,I=(fun kk ss=>∃(i:Nat),i<=32/\kk=32-i/\(True)/\ss=⟨61,[(26,.int .i64 i),(2,.str s),(8,.own 0),(9,.int .i64 (f*32))],1,[(0,some ⟨25,1,false,false,ints .u32 (Hj l (f*32).toNat s i)⟩)],0⟩):=⟨_,rfl⟩;refine lX I (id) (by rw[hI];exact⟨0,by simp,rfl,trivial,rfl⟩) ?_;intro kk ss hIk _;rw[hI]at hIk;obtain⟨i,hi,rfl,hx,rfl⟩:=hIk;refine au ?_;intros;apply wr;refine AB rfl (fun hi=>?_) (fun hi=>?_)
 ·simp at hi;have g1:IntKind.i64.wrap (4*(i:Int))=4*i:=AA (by omega) (by omega);have g2:IntKind.i64.wrap (4*(i:Int)+4)=4*i+4:=AA (by omega) (by omega);have g3:(4*(i:Int)).toNat=4*i:=by omega
  have g4:(4*(i:Int)+4).toNat=4*i+4:=by omega
  have g5:IntKind.i64.wrap (f*32+i)=f*32+i:=AA (by omega) (by omega);have g6:(f*32+(i:Int)).toNat=(f*32).toNat+i:=by omega
  obtain⟨a,b,c,d,hq⟩:∃a b c d,(s.take (4*i+4)).drop (4*i)=[a,b,c,d]:=by
   have hlen:((s.take (4*i+4)).drop (4*i)).length=4:=by simp;omega
   match(s.take (4*i+4)).drop (4*i),hlen with
   | [a,b,c,d],_=>exact⟨a,b,c,d,rfl⟩
  have hk:∀k,k<4->s.getD (4*i+k) 0=[a,b,c,d].getD k 0:=fun k hk=>by
   rw[<- hq,eP,eP,fS,fN,if_pos (by omega)]
  have hw4:E6 s i=(a.toNat:Int)+b.toNat*256+c.toNat*65536+d.toNat*16777216:=by
   unfold E6;rw[show s.getD (4*i) 0=a from hk 0 (by omega),hk 1 (by omega),hk 2 (by omega),hk 3 (by omega)];rfl
  have hpl:=Gg l (f*32).toNat s i;have hpl':=AM .u32 (Hj l (f*32).toNat s i);obtain⟨w0,hw0⟩:∃w0,(Hj l (f*32).toNat s i)[(f*32).toNat+i]? =some w0:=⟨_,eR (by omega)⟩;have hw1:=Bh (k:=.u32) hw0;have hset:=ints_set .u32 (Hj l (f*32).toNat s i) ((f*32).toNat+i) (E6 s i);rw[show(Hj l (f*32).toNat s i).set ((f*32).toNat+i) (E6 s i)=Hj l (f*32).toNat s (i+1)from rfl,hw4]at hset;have hor:=or4 a b c d;refine au1 (kX6 @g1 @g2 @g3 @g4 @hs @hq) ?_;intros;apply wr;refine AG 24 [0,0,0,6,0,16,48,0,128,384,896,2032,0,4096,12288,28672,65520,0,131072,393216,917504,2097136,4194303,8388607] [(22,([[],[],[],[1,2],[],[4],[4,5],[],[7],[7,8],[7,8,9],[4,5,6,7,8,9,10],[],[12],[12,13],[12,13,14],[4,5,6,7,8,9,10,11,12,13,14,15],[],[17],[17,18],[17,18,19],[4,5,6,7,8,9,10,11,12,13,14,15,16,17,18,19,20]],[])),(1,([],[])),(1,([],[]))] ?_;refine af1 (Rl @g5 @g6 @hpl @hpl' @hor @VH @eA @eC @eD @hw1 @hset) ?_;refine af ?_;intros;apply wr;exact aX (id) (by rw[hI];exact⟨i+1,by omega,rfl,trivial,rfl⟩) (kX3 (AA (n:=(i:Int)+1) (by omega) (by omega)) @hw1 @hset)
 simp at hi;refine af ?_;intros;apply wr;refine aw ?_;simp;have e:i=32:=by omega
 subst e;rfl
abbrev L64(n:Int):Prop:=0<=n/\n<18446744073709551616
abbrev lw(n:Int):Int:=IntKind.u64.wrap n
structure OkT(e:EntD):Prop where
 a:L64 e.at_
 n:W32 e.ev.n
def N4:Nat->Nat->Str
 | 0,n=>[UInt8.ofNat n]
 | k+1,n=>if n<128 then [UInt8.ofNat n]else UInt8.ofNat (n%128+128)::N4 k (n/128)
def BQ(n:Int):Str:=N4 10 n.toNat
def JZ:Nat->Nat->Str->Option (Nat×Nat)
 | _,_,[]=>none
 | i,x,b::r=>if 10<=i then none else if i=9/\1<b.toNat then none else if 128<=b.toNat then JZ (i+1) (x+b.toNat%128*2^(7*i)) r
  else if b=0/\0<i then none else some (x+b.toNat*2^(7*i),i+1)
def NN(s:Str):Option (Nat×Nat):=JZ 0 0 s
def evVal(e:EvD):Bool :=
 if e.kind=1\/e.kind=6 then e.data==[]
 else if e.kind=2 then decide (e.n=0)&&(e.data==[])
 else if e.kind=3 then decide (e.n<=255)&&(e.data==[])
 else if e.kind=4 then if e.n=1 then(e.data==[])||decide (e.data.length=128)else decide (e.n=0)&&(e.data==[])
 else if e.kind=5 then decide (e.n=0)&&decide (1<=e.data.length)&&decide (e.data.length<=128)
 else false
def Ee(e:EvD):Str :=
 if e.kind=1\/e.kind=3\/e.kind=6 then BQ e.kind++BQ e.n
 else if e.kind=4 then BQ e.kind++(BQ e.n++(BQ e.data.length++e.data))
 else if e.kind=5 then BQ e.kind++(BQ e.data.length++e.data)
 else BQ e.kind
def Dn:Int->List EntD->Str
 | _,[]=>[]
 | from_,e::r=>BQ (e.at_-from_)++(Ee e.ev++Dn e.at_ r)
def ordD:List EntD->Bool
 | a::b::r=>!(decide (b.at_<a.at_)||(decide (b.at_=a.at_)&&decide (a.ev.kind=1)))&&ordD (b::r)
 | _=>true
def firstOk(from_:Int):List EntD->Bool
 | []=>true
 | e::_=>decide (from_<=e.at_)
def Dt(l:List EntD)(from_:Int):Int :=
 if 400<l.length then 1902 else if l.all (fun e=>evVal e.ev)=false then 1900 else if ordD l=false\/firstOk from_ l=false then 1901
 else if 65536<(BQ l.length++Dn from_ l).length then 1902 else 0
def Lh(l:List EntD)(from_:Int):Str×Int:=if Dt l from_=0 then(BQ l.length++Dn from_ l,0)else([],Dt l from_)
def DV(l:List EntD)(known:Int):Bool:=l.any fun e=>decide (known<e.at_)
def Af(g:SegD):Str×Int:=if g.known<g.from_\/DV g.ents g.known=true then([],2400)else Lh g.ents g.from_
def segOk(g:SegD):Bool:=decide ((Af g).2=0)
def AZ(r:RecD)(e:EvD):RecD:=if(applyD r.m e).2=true then {r with m:=(applyD r.m e).1,log:=r.log++[⟨r.m.count,e⟩]}else r
def BM(r:RecD):RecD:=if dueD r.m.tim r.clock=true then AZ r ⟨2,0,[]⟩else r
def Em(m:MchD):Bool:=m.halted||Ns m||decide (m.count=1152921504606846976)
def I6(r:RecD):RecD:=if readsD r.m=true then {r with log:=r.log++[⟨r.m.count,⟨1,r.clock,[]⟩⟩]}else r
def goR(r:RecD):RecD×List OutD:=({I6 r with m:=(stepD r.m r.clock).1,clock:=uw (r.clock+1)},(stepD r.m r.clock).2)
def Dz:Nat->RecD->List OutD->RecD×List OutD
 | 0,r,o=>(r,o)
 | n+1,r,o=>if Em (BM r).m=true then(BM r,o)else Dz n (goR (BM r)).1 (o++(goR (BM r)).2)
def DY(steps:Int):Nat:=(min (max steps 0) 4000).toNat
def Cb(r:RecD)(clock:Int):RecD:={r.queue.foldl AZ {r with clock:=max r.clock clock}with queue:=[]}
def Dl(r:RecD)(steps clock:Int):RecD×List OutD:=if mayD r.m=true then Dz (DY steps) (Cb r clock) []else(r,[])
def Qg(r:RecD):RecD:={r with log:=[]}
def fitsD(o:OutD):Bool:=decide (o.block=0)&&(if o.kind=1 then decide (o.data.length=1)else if o.kind=2 then decide (o.data.length<=128)else false)
def heldOk:Int->List OutD->Bool
 | _,[]=>true
 | last,o::r=>(fitsD o&&decide (last<=o.at_))&&heldOk o.at_ r
def DI(g:GateD):Bool:=heldOk g.acked g.held
def DX(g:GateD)(o:OutD):GateD :=
 if o.kind≠1/\o.kind≠2 then g else if g.acked<=o.at_ then {g with held:=g.held++[o]}else if o.kind=1 then {g with bytes:=lw (g.bytes+1)}else g
def GH(g:GateD)(l:List OutD):GateD×Bool:=if DI g=true/\DI (l.foldl DX g)=true then(l.foldl DX g,true)else(g,false)
def Fx(bytes:Int):List OutD->Int×List (OutD×Int)
 | []=>(bytes,[])
 | o::r=>if o.kind=1 then((Fx (lw (bytes+1)) r).1,(o,bytes)::(Fx (lw (bytes+1)) r).2)else((Fx bytes r).1,(o,0)::(Fx bytes r).2)
def KV(acked:Int)(l:List OutD):List OutD:=l.takeWhile fun o=>decide (o.at_<acked)
def Pu(g:GateD)(acked:Int):GateD×List (OutD×Int) :=
 if DI g=true/\g.acked<acked then(⟨g.held.drop (KV acked g.held).length,acked,(Fx g.bytes (KV acked g.held)).1⟩,(Fx g.bytes (KV acked g.held)).2)else(g,[])
def chainOk:Int->List SegD->Bool
 | _,[]=>true
 | at_,g::r=>(decide (g.from_=at_)&&segOk g)&&chainOk g.known r
def lastAt:Int->List SegD->Int
 | at_,[]=>at_
 | _,g::r=>lastAt g.known r
def CM(s:SndD):Bool :=
 if s.base<1\/4611686018427387904<s.base\/8<s.queue.length then false
 else match s.queue with
  | []=>decide (s.known<=s.tail)
  | g::_=>decide (s.known<=g.from_)&&chainOk g.from_ s.queue&&decide (s.tail=lastAt g.from_ s.queue)
def Cx(s:SndD)(g:SegD):SndD×Int :=
 if g.from_≠s.tail\/CM s=false then(s,2400)
 else if(Af g).2≠0 then(s,(Af g).2)
 else if 8<=s.queue.length then(s,2401)
 else({s with queue:=s.queue++[g],tail:=g.known},0)
def LA(r:RepD):Bool:=decide (r.role=1)||decide (r.role=3)
def Kb(r:RepD):Bool:=LA r&&decide (r.rec_.m.dk.state=1)
def Y1(c:Int×Int)(o:OutD):Int×Int:=if o.kind=3\/o.kind=4 then(0,o.at_)else c
def WH(c:Int×Int)(l:List OutD):Int×Int:=l.foldl Y1 c
def Rt(r:RepD)(a:RecD)(o:List OutD):RepD :=
 {r with rec_:=a,gate:=(GH r.gate o).1,cmd:=if Kb {r with rec_:=a}=true then(WH (r.cmd,r.cmdAt) o).1 else 0,cmdAt:=(WH (r.cmd,r.cmdAt) o).2}
def segA(r:RepD):SegD:=⟨r.out.tail,r.rec_.m.count,r.rec_.log⟩
def Ro(r:RepD):RepD :=
 {r with rec_:=Qg r.rec_,hist:=r.hist++r.rec_.log,out:=if r.role=1/\(r.rec_.log≠[]\/r.rec_.m.count≠r.out.tail)then(Cx r.out (segA r)).1 else r.out}
def DD(r:RepD)(steps clock:Int):RepD:=Ro (Rt r (Dl r.rec_ steps clock).1 (Dl r.rec_ steps clock).2)
theorem BB(l:List OutD):(outs l).length=l.length:=by simp[outs]
theorem Db(l:List SegD):(segs l).length=l.length:=by simp[segs]
theorem MJ(l:List (Int×SegD)):(J9 l).length=l.length:=by simp[J9]
theorem B0{l:List EntD}{i:Nat}{x:EntD}(h:l[i]? =some x):(ents l)[i]? =some x.row:=by simp[ents,h]
theorem Zz{l:List EvD}{i:Nat}{x:EvD}(h:l[i]? =some x):(evs l)[i]? =some x.row:=by simp[evs,h]
theorem Ff{l:List OutD}{i:Nat}{x:OutD}(h:l[i]? =some x):(outs l)[i]? =some x.row:=by simp[outs,h]
theorem Gl{l:List SegD}{i:Nat}{x:SegD}(h:l[i]? =some x):(segs l)[i]? =some x.row:=by simp[segs,h]
theorem Sg{l:List (Int×SegD)}{i:Nat}{x:Int×SegD}(h:l[i]? =some x):(J9 l)[i]? =some [lv x.1,lv x.2.from_,lv x.2.known,Br x.2.ents]:=by simp[J9,h]
theorem Kj(a b:List EntD):ents (a++b)=ents a++ents b:=by simp[ents]
theorem B8(a b:List OutD):outs (a++b)=outs a++outs b:=by simp[outs]
theorem Da(a b:List SegD):segs (a++b)=segs a++segs b:=by simp[segs]
theorem PK(a:EntD):ents [a]=[a.row]:=rfl
theorem Wu(a:OutD):outs [a]=[a.row]:=rfl
theorem DO(a:SegD):segs [a]=[a.row]:=rfl
theorem get_at{α:Type}{l:List α}{i:Nat}(h:i<l.length):∃x,l[i]? =some x/\l.drop i=x::l.drop (i+1)/\l.take (i+1)=l.take i++[x]/\x∈l :=
 ⟨l[i],eR h,List.drop_eq_getElem_cons h,(List.take_append_getElem h).symm,List.getElem_mem h⟩
theorem N3{α:Type}{L:List α}{i:Nat}{x:α}(h:L[i]? =some x)(h':i<L.length):L[i]'h'=x:=by rw[eR h']at h;exact Option.some.inj h
theorem Cc{α:Type}{l:List α}{i:Nat}(h:l.length<=i):l.drop i=[]:=List.drop_eq_nil_of_le h
theorem Gp{α:Type}{l:List α}{i:Nat}(h:l.length<=i):l.take i=l:=fZ h
theorem aR(o:OutD):AC prog 168 [.st o.row] (.bool (fitsD o)):=by
 refine sZ func168 ntmps168 ?_;exact wx1 trivial trivial @fitsD.eq_1
theorem Nq(g:GateD):AC prog 105 [.st g.row] (.bool (DI g)):=by
 have hl:=BB g.held;refine AC.lens (by kernel_rfl) fun hlens=>?_;simp[Ny,Nz,G2,maxLen]at hlens;refine sY func105 ntmps105 @hl ?_;intros;apply wr;simp only[hl]at hlens;obtain⟨I,hI⟩:∃I:Nat->St->Prop,I=(fun kk ss=>∃(i:Nat)(la:Int),i<=g.held.length/\kk=g.held.length-i/\(heldOk g.acked g.held=heldOk la (g.held.drop i))/\ss=⟨27,[(11,.int .i64 i),(10,.int .i64 g.held.length),(9,.sl 4 false (outs g.held)),(3,lv la)],1,[],0⟩):=⟨_,rfl⟩;refine lX I (id) (by rw[hI];exact⟨0,g.acked,by simp,rfl,rfl,rfl⟩) ?_;intro kk ss hIk _;rw[hI]at hIk;obtain⟨i,la,hi,rfl,hx,rfl⟩:=hIk;refine au1 @hl ?_;intros;apply wr;refine AB rfl (fun hh=>?_) (fun hh=>?_)
 ·simp at hh;obtain⟨o,ho,hd,-,-⟩:=get_at hh;have hget:=Ff ho;rw[hd,heldOk]at hx;refine au1 @hget ?_;intros;apply wr
  (refine au1 (kX2 @DI.eq_1 @hx) ?_;intros;apply wr)
  repeat' ((first|(refine AB rfl (fun h=>?_) (fun h=>?_)<;>(first|(simp[DI,hx]at h;done)|(simp[DI,hx]at h)|skip)<;>(first|(exfalso;omega)|skip))|refine cc1 (aR o) (kX2 @DI.eq_1 @hx) ?_|exact rt1 (kX2 @DI.eq_1 @hx)|fail)<;>(refine au1 (kX2 @DI.eq_1 @hx) ?_;intros;apply wr))
  exact aX (id) (by rw[hI];exact⟨i+1,o.at_,by omega,rfl,(by simpa[h]using hx),rfl⟩) (AA (n:=(i:Int)+1) (by omega) (by omega))
 simp at hh;rw[Cc hh,heldOk]at hx;refine au ?_;refine ar ?_;simp[DI,hx]
theorem TN(g:GateD)(l:List OutD)(h1:g.held.length<=50000)(h2:l.length<=10000):AC prog 67 [.st g.row,.sl 4 false (outs l)] (.tup [.st (GH g l).1.row,.bool (GH g l).2]):=by
 have hl:=BB g.held;have hl2:=BB l;have hc:=Oz (outs g.held) false 4 (.inl rfl) (by omega);have hv:=Nq g;cases hg:DI g with
 | false =>
  rw[hg]at hv;refine sY func67 ntmps67 @hl ?_;exact wx1 (qX2 (hc) (hv)) trivial (kX2 @GH.eq_1 @hg)
 | true =>
  rw[hg]at hv;refine sY func67 ntmps67 @hl ?_;refine cX (hc) ?_;refine cX (hv) ?_;refine CX ?_;refine cY (hc) @hl2 ?_;intros;apply wr;obtain⟨I,hI⟩:∃I:Nat->St->Prop,I=(fun kk ss=>∃(i:Nat)(x:GateD),i<=l.length/\kk=l.length-i/\(x=(l.take i).foldl DX g/\x.acked=g.acked/\x.held.length<=50000+i)/\ss=⟨62,[(26,.int .i64 i),(25,.int .i64 l.length),(24,.sl 4 false (outs l)),(2,.ptr 0 3 0 0),(7,.ptr 5 3 0 0),(6,.ptr 2 3 0 0),(4,.ptr 1 3 0 0)],7,[(0,some ⟨51,3,true,false,[g.row]⟩),(1,some ⟨51,3,true,false,[[.sl 0 true [],lv 0,lv 0]]⟩),(2,some ⟨51,3,true,false,[[.own 3,lv g.acked,lv g.bytes]]⟩),(3,some ⟨124,4,false,false,outs g.held⟩),(5,some ⟨51,3,true,false,[[.own 6,lv x.acked,lv x.bytes]]⟩),(6,some ⟨124,4,false,false,outs x.held⟩)],0⟩):=⟨_,rfl⟩;refine lX I (id) (by rw[hI];exact⟨0,g,by simp,rfl,⟨rfl,rfl,by omega⟩,rfl⟩) ?_;intro kk ss hIk _;rw[hI]at hIk;obtain⟨i,x,hi,rfl,hx,rfl⟩:=hIk;obtain⟨hx1,hx2,hx3⟩:=hx;refine au1 @hl2 ?_;intros;apply wr;refine AB rfl (fun hh=>?_) (fun hh=>?_)
  ·simp at hh;obtain⟨o,ho,-,ht,-⟩:=get_at hh;have hget:=Ff ho;have hnx:(l.take (i+1)).foldl DX g=DX x o:=by rw[ht,List.foldl_append,<- hx1];rfl
   have hlx:=BB x.held;refine au1 @hget ?_;intros;apply wr;by_cases hk:o.kind≠1/\o.kind≠2
   ·have hE:DX x o=x:=by unfold DX;rw[if_pos hk]
    rw[hE]at hnx;obtain⟨k1,k2⟩:=hk
    (refine au1 (kX2 @k1 @k2) ?_;intros;apply wr)
    repeat' ((first|(refine AB rfl (fun h=>?_) (fun h=>?_)<;>(first|(simp[k1,k2]at h;done)|(simp[k1,k2]at h)|skip)<;>(first|(exfalso;omega)|skip))|exact rt1 (kX2 @k1 @k2)|fail)<;>(refine au1 (kX2 @k1 @k2) ?_;intros;apply wr))
    exact aX (id) (by rw[hI];exact⟨i+1,x,by omega,rfl,⟨hnx.symm,hx2,by omega⟩,rfl⟩) (AA (n:=(i:Int)+1) (by omega) (by omega))
   by_cases ha:g.acked<=o.at_
   ·have hE:DX x o={x with held:=x.held++[o]}:=by unfold DX;rw[if_neg hk,hx2,if_pos ha]
    rw[hE]at hnx
    (refine au1 (kX3 @ha @hlx @maxLen.eq_1) ?_;intros;apply wr)
    repeat' ((first|(refine AB rfl (fun h=>?_) (fun h=>?_)<;>(first|(simp[ha,hlx,maxLen]at h;done)|(simp[ha,hlx,maxLen]at h)|skip)<;>(first|(exfalso;omega)|skip))|exact rt1 (kX3 @ha @hlx @maxLen.eq_1)|fail)<;>(refine au1 (kX3 @ha @hlx @maxLen.eq_1) ?_;intros;apply wr))
    exact aX (fun x=>if x=6 then 9 else x) (by rw[hI];exact⟨i+1,({x with held:=x.held++[o]}),by omega,rfl,⟨hnx.symm,hx2,by simp;omega⟩,rfl⟩) (kX3 (AA (n:=(i:Int)+1) (by omega) (by omega)) @B8 @Wu)
   by_cases hb:o.kind=1
   ·have hE:DX x o={x with bytes:=lw (x.bytes+1)}:=by unfold DX;rw[if_neg hk,hx2,if_neg ha,if_pos hb]
    rw[hE]at hnx
    (refine au1 (kX2 @ha @hb) ?_;intros;apply wr)
    repeat' ((first|(refine AB rfl (fun h=>?_) (fun h=>?_)<;>(first|(simp[ha,hb]at h;done)|(simp[ha,hb]at h)|skip)<;>(first|(exfalso;omega)|skip))|exact rt1 (kX2 @ha @hb)|fail)<;>(refine au1 (kX2 @ha @hb) ?_;intros;apply wr))
    exact aX (id) (by rw[hI];exact⟨i+1,({x with bytes:=lw (x.bytes+1)}),by omega,rfl,⟨hnx.symm,hx2,by simp;omega⟩,rfl⟩) (AA (n:=(i:Int)+1) (by omega) (by omega))
   have hE:DX x o=x:=by unfold DX;rw[if_neg hk,hx2,if_neg ha,if_neg hb]
   rw[hE]at hnx;have hk2:o.kind=2:=by omega
   (refine au1 (kX2 @ha @hk2) ?_;intros;apply wr)
   repeat' ((first|(refine AB rfl (fun h=>?_) (fun h=>?_)<;>(first|(simp[ha,hk2]at h;done)|(simp[ha,hk2]at h)|skip)<;>(first|(exfalso;omega)|skip))|exact rt1 (kX2 @ha @hk2)|fail)<;>(refine au1 (kX2 @ha @hk2) ?_;intros;apply wr))
   exact aX (id) (by rw[hI];exact⟨i+1,x,by omega,rfl,⟨hnx.symm,hx2,by omega⟩,rfl⟩) (AA (n:=(i:Int)+1) (by omega) (by omega))
  simp at hh;rw[Gp hh]at hx1;have hv2:=Nq x;refine au ?_;exact wx1 (qX1 (hv2)) trivial (kX2 @GH.eq_1 @hg)
def Pv(l:List (OutD×Int)):List (List V):=l.map fun p=>[iv p.1.kind,lv p.1.at_,uv p.1.block,.str p.1.data,lv p.2]
@[simp] theorem nil_rels:Pv []=[]:=rfl
theorem Pw(l:List (OutD×Int)):(Pv l).length=l.length:=by simp[Pv]
theorem IV(a b:List (OutD×Int)):Pv (a++b)=Pv a++Pv b:=by simp[Pv]
theorem U1(o:OutD)(k:Int):AC prog 107 [.st o.row,.iptr [lv k]] (.bool (decide (k<=o.at_))):=by
 refine sZ func107 ntmps107 ?_;exact wx trivial trivial
theorem cH(k:Int)(l:List OutD):(KV k l).length<=l.length:=(List.takeWhile_sublist _).length_le
theorem NA(k:Int):∀l:List OutD,KV k l=l.take (KV k l).length
 | []=>rfl
 | o::l=>by
  unfold KV at *;rw[List.takeWhile_cons];split
  ·rw[fR,List.take_succ_cons];exact congrArg _ (NA k l)
  rfl
theorem W5(l:List OutD)(k:Int):AC prog 106 [.sl 4 false (outs l),.clo 107 [.iptr [lv k]]] (iv (if(KV k l).length<l.length then((KV k l).length:Int)else -1)):=by
 have hl:=BB l;refine AC.lens (by kernel_rfl) fun hlens=>?_;simp[Ny,Nz,G2,maxLen]at hlens;refine sY func106 ntmps106 @hl ?_;intros;apply wr;simp only[hl]at hlens;obtain⟨I,hI⟩:∃I:Nat->St->Prop,I=(fun kk ss=>∃(i:Nat),i<=l.length/\kk=l.length-i/\((KV k l).length=i+(KV k (l.drop i)).length)/\ss=⟨19,[(8,.int .i64 i),(7,.int .i64 l.length),(1,.clo 107 [.iptr [lv k]]),(0,.sl 4 false (outs l))],0,[],0⟩):=⟨_,rfl⟩;refine lX I (id) (by rw[hI];exact⟨0,by simp,rfl,by simp,rfl⟩) ?_;intro kk ss hIk _;rw[hI]at hIk;obtain⟨i,hi,rfl,hx,rfl⟩:=hIk;refine au1 @hl ?_;intros;apply wr;refine AB rfl (fun hh=>?_) (fun hh=>?_)
 ·simp at hh;obtain⟨o,ho,hd,-,-⟩:=get_at hh;have hget:=Ff ho;rw[hd]at hx;have ht:KV k (o::l.drop (i+1))=if o.at_<k then o::KV k (l.drop (i+1))else []:=by
   unfold KV;rw[List.takeWhile_cons];simp
  rw[ht]at hx;by_cases hk:k<=o.at_
  ·rw[if_neg (by omega)]at hx;simp at hx;refine au1 (kX2 @hget @hl) ?_;exact wx1 (qX1 (U1 o k)) trivial (kX5 @hk @hget @hl @hx @hh)
  rw[if_pos (by omega)]at hx;simp at hx;refine au1 (kX2 @hget @hl) ?_;intros;apply wr
  (refine au1 (kX3 @hk @hget @hl) ?_;intros;apply wr)
  repeat' ((first|(refine AB rfl (fun h=>?_) (fun h=>?_)<;>(first|(simp[hk,hget,hl]at h;done)|(simp[hk,hget,hl]at h)|skip)<;>(first|(exfalso;omega)|skip))|refine cc1 (U1 o k) (kX3 @hk @hget @hl) ?_|exact rt1 (kX3 @hk @hget @hl)|fail)<;>(refine au1 (kX3 @hk @hget @hl) ?_;intros;apply wr))
  exact aX (id) (by rw[hI];exact⟨i+1,by omega,rfl,by omega,rfl⟩) (AA (n:=(i:Int)+1) (by omega) (by omega))
 simp at hh;rw[Cc hh]at hx;have hn:¬(KV k l).length<l.length:=by rw[hx];simp[KV];omega
 refine au ?_;refine ar ?_;simp[hn]
theorem bT(l:List OutD)(n:Nat):(outs l).take n=outs (l.take n):=by simp[outs,List.map_take]
theorem bS(l:List OutD)(n:Nat):(outs l).drop n=outs (l.drop n):=by simp[outs,List.map_drop]
theorem KW(g:GateD)(k:Int)(h1:g.held.length<=50000):AC prog 52 [.st g.row,lv k] (.tup [.st (Pu g k).1.row,.sl 5 false (Pv (Pu g k).2)]):=by
 have hl:=BB g.held;have hc:=Oz (outs g.held) false 4 (.inl rfl) (by omega);have hv:=Nq g;by_cases hg:DI g=true/\g.acked<k
 ·obtain⟨hg1,hg2⟩:=hg;have hE:Pu g k=(⟨g.held.drop (KV k g.held).length,k,(Fx g.bytes (KV k g.held)).1⟩,(Fx g.bytes (KV k g.held)).2):=by unfold Pu;rw[if_pos ⟨hg1,hg2⟩]
  rw[hE,NA k g.held];have hi:=W5 g.held k;have hle:=cH k g.held;generalize (KV k g.held).length=n at *;have hmin:min n g.held.length=n:=eY hle;rw[hg1]at hv;have hc2:=Oz (outs (g.held.drop n)) false 4 (.inl rfl) (by rw[BB];simp;omega);have hlt:(g.held.take n).length=n:=by simp;omega
  obtain⟨L,hL⟩:∃L,L=g.held.take n:=⟨_,rfl⟩;rw[<- hL]at hlt ⊢;have hLl:=BB L;have htd:=bT g.held n;have hdd:=bS g.held n;rw[<- hL]at htd;have hg3:¬k<=g.acked:=by omega
  have hdl:(outs (g.held.drop n)).length=g.held.length-n:=by rw[BB,fF]
  have hdl2:(outs g.held).drop g.held.length=[]:=by rw[<- hl];exact List.drop_length
  have htl:(outs g.held).take g.held.length=outs g.held:=by rw[<- hl];exact List.take_length
  by_cases hn:n<g.held.length
  ·have hn0:¬(n:Int)<0:=by omega
   simp only[hn,if_true]at hi;refine sY func52 ntmps52 @hl ?_;refine cY (hv) @hg3 ?_;refine B1 @hg3 ?_;refine cX (hi) ?_;refine EL @hn0 (kX6 @htd @hdd @hmin @hle @hl @htl) ?_;refine cY (hc2) (kX7 @htd @hdd @hmin @hle @hl @htl @hLl) ?_;intros;apply wr;refine AU 8 209 5 (by decide) rfl ?_;obtain⟨I,hI⟩:∃I:Nat->St->Prop,I=(fun kk ss=>∃(i:Nat)(b:Int)(acc:List (OutD×Int)),i<=L.length/\kk=L.length-i/\(Fx g.bytes L=((Fx b (L.drop i)).1,acc++(Fx b (L.drop i)).2)/\acc.length<=i)/\ss=⟨71,[(49,.int .i64 i),(48,.int .i64 L.length),(47,.sl 4 false (outs L)),(6,.ptr 3 3 0 0),(4,.ptr 2 3 0 0),(8,.own 7)],8,[(3,some ⟨51,3,true,false,[[.own 6,lv k,lv b]]⟩),(2,some ⟨51,3,true,false,[[.sl 0 true [],lv 0,lv 0]]⟩),(6,some ⟨124,4,false,false,outs (g.held.drop n)⟩),(7,some ⟨209,5,false,false,Pv acc⟩)],0⟩):=⟨_,rfl⟩;refine lX I (id) (by rw[hI];exact⟨0,g.bytes,[],by simp,rfl,⟨by simp,by simp⟩,rfl⟩) ?_;intro kk ss hIk _;rw[hI]at hIk;obtain⟨i,b,acc,hi,rfl,hx,rfl⟩:=hIk;obtain⟨hx1,hx2⟩:=hx;refine au1 @hLl ?_;intros;apply wr;refine AB rfl (fun hh=>?_) (fun hh=>?_)
   ·simp at hh;obtain⟨o,ho,hd,-,-⟩:=get_at hh;have hget:=Ff ho;rw[hd]at hx1;have hla:=Pw acc;have hLl3:L.length<=50000:=by omega
    by_cases hk:o.kind=1
    ·have hE:Fx b (o::L.drop (i+1))=((Fx (lw (b+1)) (L.drop (i+1))).1,(o,b)::(Fx (lw (b+1)) (L.drop (i+1))).2):=by rw[Fx,if_pos hk]
     rw[hE]at hx1;refine au1 @hget ?_;intros;apply wr
     (refine au1 (kX3 @hk @hla @maxLen.eq_1) ?_;intros;apply wr)
     repeat' ((first|(refine AB rfl (fun h=>?_) (fun h=>?_)<;>(first|(simp[hk,hla,maxLen]at h;done)|(simp[hk,hla,maxLen]at h)|skip)<;>(first|(exfalso;omega)|skip))|exact rt1 (kX3 @hk @hla @maxLen.eq_1)|fail)<;>(refine au1 (kX3 @hk @hla @maxLen.eq_1) ?_;intros;apply wr))
     exact aX (fun x=>if x=7 then 10 else x) (by rw[hI];exact⟨i+1,(lw (b+1)),(acc++[(o,b)]),by omega,rfl,⟨by simpa using hx1,by simp;omega⟩,rfl⟩) (kX4 (AA (n:=(i:Int)+1) (by omega) (by omega)) @IV @Pv.eq_1 @hk)
    have hE:Fx b (o::L.drop (i+1))=((Fx b (L.drop (i+1))).1,(o,0)::(Fx b (L.drop (i+1))).2):=by rw[Fx,if_neg hk]
    rw[hE]at hx1;refine au1 @hget ?_;intros;apply wr
    (refine au1 (kX3 @hk @hla @maxLen.eq_1) ?_;intros;apply wr)
    repeat' ((first|(refine AB rfl (fun h=>?_) (fun h=>?_)<;>(first|(simp[hk,hla,maxLen]at h;done)|(simp[hk,hla,maxLen]at h)|skip)<;>(first|(exfalso;omega)|skip))|exact rt1 (kX3 @hk @hla @maxLen.eq_1)|fail)<;>(refine au1 (kX3 @hk @hla @maxLen.eq_1) ?_;intros;apply wr))
    exact aX (fun x=>if x=7 then 10 else x) (by rw[hI];exact⟨i+1,b,(acc++[(o,0)]),by omega,rfl,⟨by simpa using hx1,by simp;omega⟩,rfl⟩) (kX4 (AA (n:=(i:Int)+1) (by omega) (by omega)) @IV @Pv.eq_1 @hk)
   simp at hh;rw[Cc hh]at hx1;refine au ?_;refine aw ?_;simp[hx1,Fx,hlt]
  have hn2:n=g.held.length:=by omega
  simp only[hn,if_false]at hi;subst hn2;rw[List.take_length]at hL;subst hL;rw[List.drop_length]at hc2 ⊢;simp only[Wo]at hc2 ⊢;refine sY func52 ntmps52 @hl ?_;refine cY (hv) @hg3 ?_;refine B1 @hg3 ?_;refine cX (hi) ?_;refine II (kX3 @hl @htl @hdl2) ?_;refine cY (hc2) (kX4 @hl @htl @hdl2 @hLl) ?_;intros;apply wr;refine AU 8 209 5 (by decide) rfl ?_;obtain⟨I,hI⟩:∃I:Nat->St->Prop,I=(fun kk ss=>∃(i:Nat)(b:Int)(acc:List (OutD×Int)),i<=g.held.length/\kk=g.held.length-i/\(Fx g.bytes g.held=((Fx b (g.held.drop i)).1,acc++(Fx b (g.held.drop i)).2)/\acc.length<=i)/\ss=⟨71,[(49,.int .i64 i),(48,.int .i64 g.held.length),(47,.sl 4 false (outs g.held)),(6,.ptr 3 3 0 0),(4,.ptr 2 3 0 0),(8,.own 7)],8,[(3,some ⟨51,3,true,false,[[.own 6,lv k,lv b]]⟩),(2,some ⟨51,3,true,false,[[.sl 0 true [],lv 0,lv 0]]⟩),(6,some ⟨124,4,false,false,[]⟩),(7,some ⟨209,5,false,false,Pv acc⟩)],0⟩):=⟨_,rfl⟩;refine lX I (id) (by rw[hI];exact⟨0,g.bytes,[],by simp,rfl,⟨by simp,by simp⟩,rfl⟩) ?_;intro kk ss hIk _;rw[hI]at hIk;obtain⟨i,b,acc,hi,rfl,hx,rfl⟩:=hIk;obtain⟨hx1,hx2⟩:=hx;refine au1 @hLl ?_;intros;apply wr;refine AB rfl (fun hh=>?_) (fun hh=>?_)
  ·simp at hh;obtain⟨o,ho,hd,-,-⟩:=get_at hh;have hget:=Ff ho;rw[hd]at hx1;have hla:=Pw acc;have hLl3:g.held.length<=50000:=by omega
   by_cases hk:o.kind=1
   ·have hE:Fx b (o::g.held.drop (i+1))=((Fx (lw (b+1)) (g.held.drop (i+1))).1,(o,b)::(Fx (lw (b+1)) (g.held.drop (i+1))).2):=by rw[Fx,if_pos hk]
    rw[hE]at hx1;refine au1 @hget ?_;intros;apply wr
    (refine au1 (kX3 @hk @hla @maxLen.eq_1) ?_;intros;apply wr)
    repeat' ((first|(refine AB rfl (fun h=>?_) (fun h=>?_)<;>(first|(simp[hk,hla,maxLen]at h;done)|(simp[hk,hla,maxLen]at h)|skip)<;>(first|(exfalso;omega)|skip))|exact rt1 (kX3 @hk @hla @maxLen.eq_1)|fail)<;>(refine au1 (kX3 @hk @hla @maxLen.eq_1) ?_;intros;apply wr))
    exact aX (fun x=>if x=7 then 10 else x) (by rw[hI];exact⟨i+1,(lw (b+1)),(acc++[(o,b)]),by omega,rfl,⟨by simpa using hx1,by simp;omega⟩,rfl⟩) (kX4 (AA (n:=(i:Int)+1) (by omega) (by omega)) @IV @Pv.eq_1 @hk)
   have hE:Fx b (o::g.held.drop (i+1))=((Fx b (g.held.drop (i+1))).1,(o,0)::(Fx b (g.held.drop (i+1))).2):=by rw[Fx,if_neg hk]
   rw[hE]at hx1;refine au1 @hget ?_;intros;apply wr
   (refine au1 (kX3 @hk @hla @maxLen.eq_1) ?_;intros;apply wr)
   repeat' ((first|(refine AB rfl (fun h=>?_) (fun h=>?_)<;>(first|(simp[hk,hla,maxLen]at h;done)|(simp[hk,hla,maxLen]at h)|skip)<;>(first|(exfalso;omega)|skip))|exact rt1 (kX3 @hk @hla @maxLen.eq_1)|fail)<;>(refine au1 (kX3 @hk @hla @maxLen.eq_1) ?_;intros;apply wr))
   exact aX (fun x=>if x=7 then 10 else x) (by rw[hI];exact⟨i+1,b,(acc++[(o,0)]),by omega,rfl,⟨by simpa using hx1,by simp;omega⟩,rfl⟩) (kX4 (AA (n:=(i:Int)+1) (by omega) (by omega)) @IV @Pv.eq_1 @hk)
  simp at hh;rw[Cc hh]at hx1;refine au ?_;refine aw ?_;simp[hx1,Fx,hl]
 have hE:Pu g k=(g,[]):=by unfold Pu;rw[if_neg hg]
 rw[hE];cases hg1:DI g with
 | true =>
  rw[hg1]at hv;have hg2:¬g.acked<k:=fun z=>hg ⟨hg1,z⟩;refine sY func52 ntmps52 @hl ?_;exact wx1 (qX2 (hc) (hv)) trivial @hg2
 | false =>
  rw[hg1]at hv;refine sY func52 ntmps52 @hl ?_;exact wx (qX2 (hc) (hv)) trivial
theorem or128f:∀k:Fin 256,ior .u8 (k.val:Int) 128=(k.val:Int)%128+128:=by decide +kernel
theorem or128(x:Int):ior .u8 (IntKind.u8.wrap x) 128=x%128+128:=by
 have e:IntKind.u8.wrap x=x%256:=by rw[IntKind.wrap_u8]
 have h:=or128f ⟨(x%256).toNat,by omega⟩;simp only at h;rw[show(((x%256).toNat:Nat):Int)=x%256 by omega]at h;rw[e,h];omega
theorem Mi{k:Nat}(h:k<256):((UInt8.ofNat k).toNat:Int)=k:=by rw[UInt8.toNat_ofNat'];omega
theorem HB(a:Str)(b:UInt8):AO a++[[V.int .u8 (b.toNat:Int)]]=AO (a++[b]):=by simp[AO]
theorem KQ{k n:Nat}(h:n<128):N4 k n=[UInt8.ofNat n]:=by cases k<;>simp[N4,h]
theorem Pm:∀k n:Nat,(N4 k n).length<=k+1
 | 0,n=>by simp[N4]
 | k+1,n=>by unfold N4;split<;>simp;exact Pm k _
theorem Aj(n:Int):(BQ n).length<=11:=Pm _ _
theorem fd128(x:Int):x.fdiv 128=x/128:=eS _ (by decide)
theorem fdsh7(x:Int):x.fdiv (2^min 7 IntKind.u64.bits)=x/128:=fd128 x
theorem Fv(n:Int)(h:L64 n):AC prog 76 [lv n] (.str (BQ n)):=by
 refine sX func76 ntmps76 ?_;intros;apply wr;refine AU 3 5 1 (by decide) rfl ?_;obtain⟨I,hI⟩:∃I:Nat->St->Prop,I=(fun kk ss=>∃(i:Nat)(x:Int)(out:Str),i<=10/\kk=10-i/\(out++N4 (10-i) x.toNat=BQ n/\0<=x/\x.toNat<2^(70-7*i)/\out.length<=i)/\ss=⟨20,[(0,lv x),(3,.own 0)],1,[(0,some ⟨5,1,false,false,AO out⟩)],0⟩):=⟨_,rfl⟩;refine lX I (id) (by rw[hI];exact⟨0,n,[],by simp,rfl,⟨rfl,h.1,by have:=h.2;simp;omega,by simp⟩,rfl⟩) ?_;intro kk ss hIk _;rw[hI]at hIk;obtain⟨i,x,out,hi,rfl,hx,rfl⟩:=hIk;obtain⟨hx1,hx2,hx3,hx4⟩:=hx;refine au ?_;intros;apply wr;have hbl:(AO out).length=out.length:=by simp[AO]
 have hi10:out.length<=10:=by omega
 refine AB rfl (fun hh=>?_) (fun hh=>?_)
 ·simp at hh;have hlt:i<10:=by
   rcases Nat.lt_or_ge i 10 with q|q
   ·exact q
   rw[show 70-7*i=0 by omega]at hx3;omega
  have hst:N4 (10-i) x.toNat=UInt8.ofNat (x.toNat%128+128)::N4 (10-(i+1)) (x.toNat/128):=by
   rw[show 10-i=(10-(i+1))+1 by omega,N4,if_neg (by omega)]
  rw[hst]at hx1;have hb:x%128+128=((UInt8.ofNat (x.toNat%128+128)).toNat:Int):=by rw[Mi (by omega)];omega
  have hpow:x.toNat/128<2^(70-7*(i+1)):=by
   rw[Nat.div_lt_iff_lt_mul (by decide),show(128:Nat)=2^7 from rfl,<- Nat.pow_add,show 70-7*(i+1)+7=70-7*i by omega];exact hx3
  have hdv:(x/128).toNat=x.toNat/128:=by omega
  generalize UInt8.ofNat (x.toNat%128+128)=b at *;refine au1 (kX6 @or128 @hb @hbl @fd128 @maxLen.eq_1 @HB) ?_;intros;apply wr;exact aX (fun x=>if x=0 then 2 else x) (by rw[hI];exact⟨i+1,(x/128),(out++[b]),by omega,rfl,⟨by rw[hdv];simpa using hx1,by omega,by rw[hdv];exact hpow,by simp;omega⟩,rfl⟩) (kX3 (AA (n:=(i:Int)+1) (by omega) (by omega)) @HB @fdsh7)
 simp at hh;rw[KQ (by omega)]at hx1;have hb:IntKind.u8.wrap x=((UInt8.ofNat x.toNat).toNat:Int):=by rw[Mi (by omega),IntKind.wrap_u8];omega
 generalize UInt8.ofNat x.toNat=b at *;have hB:=EN (BQ n);have hS:=EO (BQ n);refine au1 (kX7 @hb @hbl @maxLen.eq_1 @HB @hx1 @hB @hS) ?_;refine ar ?_;simp[hx1,hB,hS]
theorem Kn(e:EvD):AC prog 109 [.st e.row] (.bool (evVal e)):=by
 refine sZ func109 ntmps109 ?_;exact wx1 trivial trivial @evVal.eq_1
theorem WN(e:EvD)(hk:L64 e.kind)(hn:W32 e.n)(hd:e.data.length<=1000000):AC prog 253 [.st e.row] (.str (Ee e)):=by
 have w1:IntKind.u64.wrap e.kind=e.kind:=u64_in hk.1 hk.2;have w2:IntKind.u64.wrap e.n=e.n:=u64_in hn.1 (by have:=hn.2;omega);have w3:IntKind.u64.wrap (e.data.length:Int)=e.data.length:=u64_in (by omega) (by omega);have p1:=Aj e.kind;have p2:=Aj e.n;have p3:=Aj (e.data.length:Int);refine sZ func253 ntmps253 ?_
 (refine af1 (kX4 @w1 @w2 @w3 @Ee.eq_1) ?_;intros;apply wr)
 repeat' ((first|(refine AB rfl (fun h=>?_) (fun h=>?_)<;>(first|(simp[w1,w2,w3,Ee]at h;done)|(simp[w1,w2,w3,Ee]at h)|skip)<;>(first|(exfalso;omega)|skip))|refine cc1 (Fv e.kind hk) (kX4 @w1 @w2 @w3 @Ee.eq_1) ?_|refine cc1 (Fv e.n ⟨hn.1,by have:=hn.2;omega⟩) (kX4 @w1 @w2 @w3 @Ee.eq_1) ?_|refine cc1 (Fv e.data.length ⟨by omega,by omega⟩) (kX4 @w1 @w2 @w3 @Ee.eq_1) ?_|(refine AG 9 [0,1,3,7,15,0,32,127,255] [(7,([[],[0],[0,1],[0,1,2],[0,1,2,3],[],[5]],[(6,4)])),(1,([],[])),(1,([],[]))] ?_)|exact rt1 (kX4 @w1 @w2 @w3 @Ee.eq_1)|fail)<;>(refine af1 (kX4 @w1 @w2 @w3 @Ee.eq_1) ?_;intros;apply wr))
theorem Yr(l:List EntD):AC prog 196 [Br l] (.bool (ordD l)):=by
 have hl:=BA l;refine AC.lens (by kernel_rfl) fun hlens=>?_;simp[Ny,Nz,G2,maxLen]at hlens;refine sX func196 ntmps196 ?_;intros;apply wr;simp only[hl]at hlens;obtain⟨I,hI⟩:∃I:Nat->St->Prop,I=(fun kk ss=>∃(i:Nat),i<=l.length/\kk=l.length-i/\(ordD l=ordD (l.drop i))/\ss=⟨39,[(3,.int .i64 (i+1)),(0,Br l)],0,[],0⟩):=⟨_,rfl⟩;refine lX I (id) (by rw[hI];exact⟨0,by simp,rfl,rfl,rfl⟩) ?_;intro kk ss hIk _;rw[hI]at hIk;obtain⟨i,hi,rfl,hx,rfl⟩:=hIk;refine au1 @hl ?_;intros;apply wr;refine AB rfl (fun hh=>?_) (fun hh=>?_)
 ·simp at hh;obtain⟨a,ha,hd,-,-⟩:=get_at (show i<l.length by omega);obtain⟨b,hb,hd2,-,-⟩:=get_at (show i+1<l.length by omega);have hga:=B0 ha;have hgb:=B0 hb;have hw:IntKind.i64.wrap ((i:Int)+1+1)=(i:Int)+1+1:=AA (by omega) (by omega);rw[hd,hd2,ordD,<- hd2]at hx;have hwi:IntKind.i64.wrap (i:Int)=i:=AA (by omega) (by omega);refine au1 (kX4 @hga @hgb @hl @hwi) ?_;intros;apply wr
  (refine af1 (kX5 @hga @hgb @hl @hwi @hx) ?_;intros;apply wr)
  repeat' ((first|(refine AB rfl (fun h=>?_) (fun h=>?_)<;>(first|(simp[hga,hgb,hl,hwi,hx]at h;done)|(simp[hga,hgb,hl,hwi,hx]at h)|skip)<;>(first|(exfalso;omega)|skip))|(refine An (.node 9 10 (.leaf [0,1,2,3,4,5,6,7,8,9,10,11,12] (bN [0,0,2,7,15,0,0,96,224,0,512,1567,4095]) [(12,([[],[],[1],[0,1,2],[0,1,2,3],[],[],[5,6],[5,6,7],[],[9],[0,1,2,3,4,9,10]],[(3,9),(3,10),(4,9),(4,10),(7,9),(7,10),(7,11),(8,9),(8,10),(8,11)])),(1,([],[]))]) (.leaf [0,1,2,3,4,5,6,7,8,10,9,11,12] (bN [0,0,2,7,15,0,0,96,224,0,512,1567,4095]) [(12,([[],[],[1],[0,1,2],[0,1,2,3],[],[],[5,6],[5,6,7],[],[9],[0,1,2,3,4,9,10]],[(3,9),(3,10),(4,9),(4,10),(7,9),(7,10),(7,11),(8,9),(8,10),(8,11)])),(1,([],[]))])) (by kernel_rfl) (by kernel_rfl) ?_;simp only[PT.run];repeat' (with_reducible apply And.intro);all_goals (simp only[Bo,fJ,gI,fC,fK]))|exact rt1 (kX5 @hga @hgb @hl @hwi @hx)|fail)<;>(refine af1 (kX5 @hga @hgb @hl @hwi @hx) ?_;intros;apply wr))
  all_goals ((exact aX (id) (by rw[hI];exact⟨i+1,by omega,rfl,(by rw[hx];grind),rfl⟩) (kX2 (AA (n:=(i:Int)+1) (by omega) (by omega)) @hw)))
 simp at hh;have hx2:ordD l=true:=by
  rw[hx];rcases Nat.lt_or_ge i l.length with q|q
  ·obtain⟨a,ha,hd,-,-⟩:=get_at q;rw[hd,Cc (by omega)];rfl
  rw[Cc q];rfl
 refine au ?_;refine ar ?_;simp[hx2]
theorem Jm(o:EntD)(k:Int):AC prog 251 [.st o.row,.iptr [lv k]] (.bool (decide (k<o.at_))):=by
 refine sZ func251 ntmps251 ?_;exact wx trivial trivial
theorem TT(l:List EntD)(k:Int):∃n:Int,(0<=n↔DV l k=true)/\AC prog 313 [Br l,.clo 251 [.iptr [lv k]]] (iv n):=by
 refine⟨match l.findIdx? (fun e=>decide (k<e.at_))with|some j=>j|none=>-1,?_,?_⟩
 ·cases q:l.findIdx? (fun e=>decide (k<e.at_))with
  | none=>simp[DV];intro x hx;have:=List.findIdx?_eq_none_iff.1 q x hx;simpa using this
  | some j =>
   simp[DV];obtain⟨h1,h2⟩:=List.findIdx?_eq_some_iff_getElem.1 q;exact⟨l[j],List.getElem_mem h1,by simpa using h2.1⟩
 have hl:=BA l;refine AC.lens (by kernel_rfl) fun hlens=>?_;simp[Ny,Nz,G2,maxLen]at hlens;refine sY func313 ntmps313 @hl ?_;intros;apply wr;simp only[hl]at hlens;obtain⟨I,hI⟩:∃I:Nat->St->Prop,I=(fun kk ss=>∃(i:Nat),i<=l.length/\kk=l.length-i/\(l.findIdx? (fun e=>decide (k<e.at_))=((l.drop i).findIdx? (fun e=>decide (k<e.at_))).map (·+i))/\ss=⟨19,[(8,.int .i64 i),(7,.int .i64 l.length),(1,.clo 251 [.iptr [lv k]]),(0,Br l)],0,[],0⟩):=⟨_,rfl⟩;refine lX I (id) (by rw[hI];exact⟨0,by simp,rfl,by simp,rfl⟩) ?_;intro kk ss hIk _;rw[hI]at hIk;obtain⟨i,hi,rfl,hx,rfl⟩:=hIk;refine au1 @hl ?_;intros;apply wr;refine AB rfl (fun hh=>?_) (fun hh=>?_)
 ·simp at hh;obtain⟨o,ho,hd,-,-⟩:=get_at hh;have hget:=B0 ho;rw[hd,List.findIdx?_cons]at hx;by_cases hk:k<o.at_
  ·simp[hk]at hx;refine au1 (kX2 @hget @hl) ?_;exact wx1 (qX1 (Jm o k)) trivial (kX5 @hk @hget @hl @hx @hh)
  simp[hk]at hx;refine au1 (kX2 @hget @hl) ?_;intros;apply wr
  (refine au1 (kX3 @hk @hget @hl) ?_;intros;apply wr)
  repeat' ((first|(refine AB rfl (fun h=>?_) (fun h=>?_)<;>(first|(simp[hk,hget,hl]at h;done)|(simp[hk,hget,hl]at h)|skip)<;>(first|(exfalso;omega)|skip))|refine cc1 (Jm o k) (kX3 @hk @hget @hl) ?_|exact rt1 (kX3 @hk @hget @hl)|fail)<;>(refine au1 (kX3 @hk @hget @hl) ?_;intros;apply wr))
  exact aX (id) (by rw[hI];exact⟨i+1,by omega,rfl,(by rw[hx];cases (l.drop (i+1)).findIdx? (fun e=>decide (k<e.at_))<;>simp<;>omega),rfl⟩) (AA (n:=(i:Int)+1) (by omega) (by omega))
 simp at hh;rw[Cc hh]at hx;have hx2:=hx.trans (show _=none by simp);refine au ?_;intros;apply wr;refine ar ?_;rw[hx2];simp
theorem Ls(l:List EntD)(k:Int):AC prog 182 [Br l,lv k] (.bool (DV l k)):=by
 obtain⟨n,hn,hi⟩:=TT l k;have hc:AC prog 250 [Br l,.clo 251 [.iptr [lv k]]] (.bool (DV l k)):=by
  have hb:decide (0<=n)=DV l k:=by cases q:DV l k<;>simp[q]at hn ⊢<;>omega
  refine sZ func250 ntmps250 ?_;exact wx1 (qX1 (hi)) trivial @hb
 refine sZ func182 ntmps182 ?_;exact wx (qX1 (hc)) trivial
theorem YJ{e:EvD}(h:evVal e=true):1<=e.kind/\e.kind<=6:=by
 unfold evVal at h
 (repeat' split at h)<;>first|omega|(simp at h)
theorem Q0{e:EvD}(h:evVal e=true):e.data.length<=128:=by
 unfold evVal at h
 (repeat' split at h)<;>simp at h<;>first|omega|(rcases h with h|h<;>simp[h])|(simp[h])|(simp[h.2])
theorem MM{e:EvD}(h:evVal e=true):(Ee e).length<=200:=by
 have p1:=Aj e.kind;have p2:=Aj e.n;have p3:=Aj (e.data.length:Int);have p4:=Q0 h;unfold Ee
 (repeat' split)<;>simp<;>omega
theorem IK{l:List EntD}{from_ k:Int}(h:Dt l from_=k)(hk:k≠0):Lh l from_=([],k):=by unfold Lh;rw[h,if_neg hk]
theorem Qu{l:List EntD}{from_:Int}(h:¬400<l.length)(ha:l.all (fun e=>evVal e.ev)=false):Dt l from_=1900:=by unfold Dt;rw[if_neg h,if_pos ha]
theorem Qv{l:List EntD}{from_:Int}(h:¬400<l.length)(ha:l.all (fun e=>evVal e.ev)=true)(ho:ordD l=false\/firstOk from_ l=false):Dt l from_=1901:=by unfold Dt;rw[if_neg h,if_neg (by simp[ha]),if_pos ho]
theorem KI{l:List EntD}{from_:Int}(h:¬400<l.length)(ha:l.all (fun e=>evVal e.ev)=true)(ho:¬(ordD l=false\/firstOk from_ l=false)):Dt l from_=if 65536<(BQ l.length++Dn from_ l).length then 1902 else 0:=by unfold Dt;rw[if_neg h,if_neg (by simp[ha]),if_neg ho]
theorem Ph{a:EntD}{r:List EntD}(h:ordD (a::r)=true):firstOk a.at_ r=true/\ordD r=true:=by
 cases r with
 | nil=>exact⟨rfl,rfl⟩
 | cons b r =>
  rw[ordD]at h;simp at h;exact⟨by simp[firstOk];omega,h.2⟩
theorem Si(l:List EntD)(from_:Int)(hf:L64 from_)(hE:∀e∈l,OkT e)(hb:l.length<=100000):AC prog 183 [Br l,lv from_] (.tup [.str (Lh l from_).1,iv (Lh l from_).2]):=by
 have hl:=BA l;by_cases h400:400<l.length
 ·have hR:Lh l from_=([],1902):=IK (by unfold Dt;rw[if_pos h400]) (by decide);rw[hR];have h4:(400:Int)<l.length:=by omega
  refine sZ func183 ntmps183 ?_;exact wx1 trivial trivial (kX2 @hl @h4)
 have h4:¬(400:Int)<l.length:=by omega
 refine sY func183 ntmps183 (kX2 @hl @h4) ?_;refine EL @h4 @hl ?_;(repeat intro K hK);apply wr;obtain⟨I,hI⟩:∃I:Nat->St->Prop,I=(fun kk ss=>∃(i:Nat),i<=l.length/\kk=l.length-i/\(l.all (fun e=>evVal e.ev)=(l.drop i).all (fun e=>evVal e.ev))/\ss=⟨68,[(16,.int .i64 i),(15,.int .i64 l.length),(14,Br l),(0,Br l),(1,lv from_)],0,[],0⟩):=⟨_,rfl⟩;refine lX I (id) (by rw[hI];exact⟨0,by simp,rfl,rfl,rfl⟩) ?_;intro kk ss hIk _;rw[hI]at hIk;obtain⟨i,hi,rfl,hx,rfl⟩:=hIk;refine au1 @hl ?_;(repeat intro K hK);apply wr;refine AB rfl (fun hh=>?_) (fun hh=>?_)
 ·simp at hh;obtain⟨o,ho,hd,-,-⟩:=get_at hh;have hget:=B0 ho;rw[hd,List.all_cons]at hx;refine au1 @hget ?_;(repeat intro K hK);apply wr;cases hv:evVal o.ev with
  | false =>
   have hR:Lh l from_=([],1900):=IK (Qu h400 (by rw[hx,hv];rfl)) (by decide);rw[hR];exact wx1 (qX1 (Kn o.ev)) trivial @hv
  | true =>
   rw[hv,Bool.true_and]at hx
   (refine au1 @hv ?_;(repeat intro K hK);apply wr)
   repeat' ((first|(refine AB rfl (fun h=>?_) (fun h=>?_)<;>(first|(simp[hv]at h;done)|(simp[hv]at h)|skip)<;>(first|(exfalso;omega)|skip))|refine cc1 (Kn o.ev) @hv ?_|exact rt1 @hv|fail)<;>(refine au1 @hv ?_;(repeat intro K hK);apply wr))
   exact aX (id) (by rw[hI];exact⟨i+1,by omega,rfl,hx,rfl⟩) (AA (n:=(i:Int)+1) (by omega) (by omega))
 simp at hh;rw[Cc hh]at hx;have hall:l.all (fun e=>evVal e.ev)=true:=hx.trans rfl;have ho:=Yr l;refine au ?_;(repeat intro K hK);apply wr;by_cases hor:ordD l=false\/firstOk from_ l=false
 ·have hR:Lh l from_=([],1901):=IK (Qv h400 hall hor) (by decide);rw[hR];have hne:l≠[]:=by rintro rfl;rcases hor with q|q<;>cases q
  obtain⟨a,r,rfl⟩:∃a r,l=a::r:=by cases l with|nil=>exact absurd rfl hne|cons a r=>exact⟨a,r,rfl⟩
  have hg0:(ents (a::r))[0]? =some a.row:=rfl;have hpos:0<(ents (a::r)).length:=by rw[hl];simp
  simp only[firstOk]at hor;refine cc1 (ho) (kX3 @hpos @hg0 (N3 hg0)) ?_;refine au ?_;have hct:(!ordD (a::r)||decide (a.at_<from_))=true:=by rcases hor with q|q<;>(try simp at q)<;>simp[q]
  refine EM @hct ?_;refine ar ?_;simp[hR]
 have hR:=KI h400 hall hor;have hor1:ordD l=true:=by simpa using(fun z=>hor (.inl z))
 have hfo:firstOk from_ l=true:=by simpa using(fun z=>hor (.inr z))
 rw[hor1]at ho;refine CH (α:=Unit) (fun _=>(⟨68,[(40,.bool false),(0,Br l),(1,lv from_)],1,[],0⟩:St)) (fun _=>True) hK (fun _ hxhJ=>?_) (fun hJ=>?_);all_goals clear hK
 ·refine cF0 rfl ?_;have w1:IntKind.u64.wrap (l.length:Int)=l.length:=u64_in (by omega) (by omega);refine au1 (kX2 @hl @w1) ?_;refine cc (Fv l.length ⟨by omega,by omega⟩) ?_;(repeat intro K hK)
  refine cO ?_;refine(YP 1 (BQ l.length) (by simp[lookO]) (by decide) (by have:=Aj (l.length:Int);omega)).mono fun r nx' ob' hp=>?_;simp only[BS];obtain⟨rfl,k1,hk,hkn,hkb,hki,hko⟩:=hp;simp;refine au1 @hl ?_;(repeat intro K hK);apply wr;clear hko;obtain⟨I,hI⟩:∃I:Nat->St->Prop,I=(fun kk ss=>∃(i:Nat)(fr:Int)(s:Str),i<=l.length/\kk=l.length-i/\(BQ l.length++Dn from_ l=s++Dn fr (l.drop i)/\L64 fr/\s.length<=11+250*i/\firstOk fr (l.drop i)=true/\ordD (l.drop i)=true)/\ss=⟨68,[(48,.int .i64 i),(47,.int .i64 l.length),(46,Br l),(8,.ptr 1 2 0 0),(1,lv fr)],3,[(1,some (Vv (.ptr 1 2 0 0) (.own 2))),(2,some (bufO s))],0⟩):=⟨_,rfl⟩;refine lX1 I (fun x=>if x=2 then k1 else x) (by rw[hI];exact⟨0,from_,(BQ l.length),by simp,rfl,⟨rfl,hf,Aj _,hfo,hor1⟩,rfl⟩) (kX2 @hki @hkb) ?_;intro kk ss hIk _;rw[hI]at hIk;obtain⟨i,fr,s,hi,rfl,hx,rfl⟩:=hIk;obtain⟨hx1,hx2,hx3,hx4,hx5⟩:=hx;refine au ?_;(repeat intro K hK);apply wr;refine AB rfl (fun hh2=>?_) (fun hh2=>?_)
  ·simp at hh2;obtain⟨o,ho,hd,-,hmem⟩:=get_at hh2;have hget:=B0 ho;obtain⟨hoa,hon⟩:=hE o hmem;rw[hd]at hx1 hx4 hx5;obtain⟨hf2,ho2⟩:=Ph hx5;have hle:fr<=o.at_:=by simpa[firstOk]using hx4
   have hv:evVal o.ev=true:=List.all_eq_true.1 hall o hmem;have hk:=YJ hv;have hdt:=Q0 hv;have hw:IntKind.u64.wrap (o.at_-fr)=o.at_-fr:=u64_in (by omega) (by have:=hoa.2;have:=hx2.1;omega);have hp1:=Aj (o.at_-fr);have hp2:=MM hv;refine au1 (kX2 @hget @hw) ?_;refine cc (Fv (o.at_-fr) ⟨by omega,by have:=hoa.2;have:=hx2.1;omega⟩) ?_;(repeat intro K hK)
   refine cO ?_;refine(VW 1 2 (.ptr 1 2 0 0) s (BQ (o.at_-fr)) (by simp[lookO]) (by simp[lookO]) (.inr rfl) (by decide) (by decide) (by decide) (by omega)).mono fun r nx' ob' hp=>?_;simp only[BS];obtain⟨rfl,k2,g0,g1,g2,g3,g4⟩:=hp;have g5:=g4 3 (by decide) (by decide) (by decide);simp[lookO]at g5;simp;refine au1 @g5 ?_;refine cc (WN o.ev ⟨by omega,by omega⟩ hon (by omega)) ?_;(repeat intro K hK)
   refine cO ?_;refine(VW 1 k2 (.ptr 1 2 0 0) (s++BQ (o.at_-fr)) (Ee o.ev) g3 g2 (.inr rfl) (by omega) (by omega) (by omega) (by simp;omega)).mono fun r nx' ob' hp=>?_;simp only[BS];obtain⟨rfl,k3,j0,j1,j2,j3,j4⟩:=hp;simp;refine au ?_;(repeat intro K hK);apply wr;exact aX (fun x=>if x=2 then k3 else x) (by rw[hI];exact⟨i+1,o.at_,(s++BQ (o.at_-fr)++Ee o.ev),by omega,rfl,⟨by rw[hx1,Dn];simp,hoa,by simp;omega,hf2,ho2⟩,rfl⟩) (kX3 (AA (n:=(i:Int)+1) (by omega) (by omega)) @j3 @j2)
  simp at hh2;rw[Cc hh2,Dn,f7]at hx1;rw[hx1]at hR;refine au ?_;(repeat intro K hK);apply wr;refine cO ?_;refine(Za 1 2 (.ptr 1 2 0 0) s (by simp[lookO]) (by simp[lookO])).mono fun r nx' ob' hp=>?_;simp only[BS];obtain⟨rfl,rfl,rfl⟩:=hp;simp;refine au ?_;(repeat intro K hK);apply wr;by_cases hs:65536<s.length
  ·rw[if_pos hs]at hR;rw[IK hR (by decide)];exact wx1 trivial trivial @hs
  rw[if_neg hs]at hR;have hE2:Lh l from_=(s,0):=by unfold Lh;rw[if_pos hR,hx1]
  rw[hE2];have hs2:¬(65536:Int)<s.length:=by omega
  refine B1 @hs2 ?_;(repeat intro K hK);apply wr;refine cO ?_;refine(Zb 1 2 (.ptr 1 2 0 0) s (by simp[lookO]) (by simp[lookO])).mono fun r nx' ob' hp=>?_;simp only[BS];obtain rfl:=hp;simp;refine au ?_;refine ar ?_;simp[hE2]
 rcases Nat.eq_zero_or_pos (ents l).length with hz|hpos
 ·refine cc1 (ho) @hz ?_;refine hJ () _ (id) (trivial) ⟨rfl,?_,?_,?_,by simp⟩
  ·simp[leT,ltV,lt1,ren,Ao]
  ·simp[leO,lt1,Ao]
  (simp;try omega)
 obtain⟨a,ha0,-,-,-⟩:=get_at (show 0<l.length by omega);have hg0:=B0 ha0;have hfa:¬a.at_<from_:=by cases l with|nil=>cases ha0|cons b r=>cases ha0;simpa[firstOk]using hfo
 refine cc1 (ho) (kX4 @hpos @hg0 (N3 hg0) @hfa) ?_;refine hJ () _ (id) (trivial) ⟨rfl,?_,?_,?_,by simp⟩
 ·simp[leT,ltV,lt1,ren,Ao]
 ·simp[leO,lt1,Ao]
 (simp;try omega)
structure OkG(g:SegD):Prop where
 f:L64 g.from_
 k:L64 g.known
 e:∀e∈g.ents,OkT e
 n:g.ents.length<=50000
theorem Ib(g:SegD)(h:OkG g):AC prog 123 [.st g.row] (.tup [.str (Af g).1,iv (Af g).2]):=by
 have hb:=Ls g.ents g.known;have he:=Si g.ents g.from_ h.f h.e (by have:=h.n;omega);have hxd:Af g=if(decide (g.known<g.from_)||DV g.ents g.known)=true then([],2400)else Lh g.ents g.from_:=by unfold Af;simp
 rw[hxd];refine sX func123 ntmps123 ?_;refine cX (hb) ?_;intros;apply wr;refine AB rfl (fun hx=>?_) (fun hx=>?_)
 ·rw[if_pos hx];exact wx trivial trivial
 rw[if_neg (by simp[hx])];exact wx (qX1 (he)) trivial
theorem Zw(g:SegD)(h:OkG g):AC prog 127 [.st g.row] (.bool (segOk g)):=by
 refine sZ func127 ntmps127 ?_;exact wx1 (qX1 (Ib g h)) trivial @segOk.eq_1
theorem MC(g:SegD)(h:g.ents.length<=100000):AC prog 124 [.st g.row] (.st g.row):=by
 refine sZ func124 ntmps124 ?_;exact wx (qX1 (H7 (ents g.ents) false 4 (.inl rfl) (by rw[BA];exact h))) trivial
theorem K1(s:SndD)(h:∀g∈s.queue,OkG g):AC prog 72 [.st s.row] (.bool (CM s)):=by
 have hl:=Db s.queue;by_cases h0:s.base<1\/4611686018427387904<s.base\/8<s.queue.length
 ·have hE:CM s=false:=by unfold CM;rw[if_pos h0]
  rw[hE];have h1:s.base<1\/4611686018427387904<s.base\/(8:Int)<s.queue.length:=by omega
  refine sY func72 ntmps72 @hl ?_;have h2:(decide (s.base<1)||decide (4611686018427387904<s.base)||decide ((8:Int)<s.queue.length))=true:=by simpa[or_assoc]using h1
  refine EM @h2 ?_;refine ar ?_;simp[hE]
 obtain⟨b1,b2,b3⟩:¬s.base<1/\¬4611686018427387904<s.base/\¬(8:Int)<s.queue.length:=by omega
 cases hq:s.queue with
 | nil =>
  have hE:CM s=decide (s.known<=s.tail):=by unfold CM;rw[if_neg h0];simp only[hq]
  have hz:(s.queue.length:Int)=0:=by rw[hq];rfl
  rw[hE];refine sZ func72 ntmps72 ?_
  (refine af1 (kX5 @hl @b1 @b2 @b3 @hz) ?_;intros;apply wr)
  repeat' ((first|(refine AB rfl (fun h=>?_) (fun h=>?_)<;>(first|(simp[hl,b1,b2,b3,hz]at h;done)|(simp[hl,b1,b2,b3,hz]at h)|skip)<;>(first|(exfalso;omega)|skip))|(refine AG 8 [0,1,3,7,15,0,32,127] [(7,([[],[0],[0,1],[0,1,2],[0,1,2,3],[],[5]],[])),(1,([],[]))] ?_)|exact rt1 (kX5 @hl @b1 @b2 @b3 @hz)|fail)<;>(refine af1 (kX5 @hl @b1 @b2 @b3 @hz) ?_;intros;apply wr))
 | cons g0 q =>
  have hE:CM s=(decide (s.known<=g0.from_)&&chainOk g0.from_ s.queue&&decide (s.tail=lastAt g0.from_ s.queue)):=by unfold CM;rw[if_neg h0];simp only[hq]
  have hg0:=Gl (show s.queue[0]? =some g0 by rw[hq];rfl);have hpos:0<s.queue.length:=by rw[hq];simp
  have hz:¬(s.queue.length:Int)=0:=by omega
  have hne:¬s.queue=[]:=by rw[hq];simp
  clear hq;rw[hE];refine sY func72 ntmps72 (kX4 @hl @b1 @b2 @b3) ?_;refine EE @hl ?_;refine EL @hne (kX4 @hl @hpos @hg0 (N3 hg0)) ?_;intros;apply wr;refine AG 8 [0,1,3,7,15,0,32,127] [(7,([[],[0],[0,1],[0,1,2],[0,1,2,3],[],[5]],[])),(1,([],[]))] ?_;refine af1 (kX4 @hl @hpos @hg0 (N3 hg0)) ?_;intros;apply wr;by_cases hk:g0.from_<s.known
  ·have hn:¬s.known<=g0.from_:=by omega
   refine Eh @hk ?_;refine ar ?_;simp[hn]
  have hn:s.known<=g0.from_:=by omega
  refine EA @hk (kX4 @hl @hpos @hg0 (N3 hg0)) ?_;intros;apply wr;obtain⟨I,hI⟩:∃I:Nat->St->Prop,I=(fun kk ss=>∃(i:Nat)(a:Int),i<=s.queue.length/\kk=s.queue.length-i/\(chainOk g0.from_ s.queue=chainOk a (s.queue.drop i)/\lastAt g0.from_ s.queue=lastAt a (s.queue.drop i))/\ss=⟨65,[(45,.int .i64 i),(44,.int .i64 s.queue.length),(43,.sl 3 false (segs s.queue)),(1,.ptr 0 4 0 0),(3,lv a)],1,[(0,some ⟨54,4,true,false,[s.row]⟩)],0⟩):=⟨_,rfl⟩;refine lX I (id) (by rw[hI];exact⟨0,g0.from_,by simp,rfl,⟨rfl,rfl⟩,rfl⟩) ?_;intro kk ss hIk _;rw[hI]at hIk;obtain⟨i,a,hi,rfl,hx,rfl⟩:=hIk;obtain⟨hx1,hx2⟩:=hx;refine af1 @hl ?_;intros;apply wr;refine AB rfl (fun hh=>?_) (fun hh=>?_)
  ·simp at hh;obtain⟨g,hg,hd,-,hmem⟩:=get_at hh;have hget:=Gl hg;rw[hd,chainOk]at hx1;rw[hd,lastAt]at hx2;refine af1 @hget ?_;refine cXf (Zw g (h g hmem)) ?_;intros;apply wr;refine AB rfl (fun hb=>?_) (fun hb=>?_)
   ·have hF:chainOk g0.from_ s.queue=false:=by
     rw[hx1];cases hs:segOk g<;>simp[hs]at hb ⊢;intro z;exact absurd z hb
    refine af ?_;refine ar ?_;simp[hF]
   have hF:chainOk g0.from_ s.queue=chainOk g.known (s.queue.drop (i+1)):=by
    rw[hx1];cases hs:segOk g<;>simp[hs]at hb ⊢;simp[hb]
   refine af ?_;intros;apply wr;exact aX (id) (by rw[hI];exact⟨i+1,g.known,by omega,rfl,⟨hF,hx2⟩,rfl⟩) (AA (n:=(i:Int)+1) (by omega) (by omega))
  simp at hh;rw[Cc hh,chainOk]at hx1;rw[Cc hh,lastAt]at hx2;refine af ?_;intros;apply wr;refine ar ?_;simp[hx1,hx2,hn];rfl
theorem Qe(s:SndD)(h:∀g∈s.queue,g.ents.length<=100000)(hn:s.queue.length<=1000):AC prog 122 [.st s.row] (.st [lv s.base,lv s.tail,lv s.known,.new 145 3 (segs s.queue)]):=by
 have hl:=Db s.queue;have hw:IntKind.i64.wrap ((s.queue.length:Int)+1)=s.queue.length+1:=AA (by omega) (by omega);refine sZ func122 ntmps122 ?_;refine J4 (kX3 @hl @hw @maxLen.eq_1) ?_;intros;apply wr;obtain⟨I,hI⟩:∃I:Nat->St->Prop,I=(fun kk ss=>∃(i:Nat),i<=s.queue.length/\kk=s.queue.length-i/\(True)/\ss=⟨27,[(14,.int .i64 i),(13,.int .i64 s.queue.length),(12,.sl 3 false (segs s.queue)),(1,.ptr 0 4 0 0),(2,.ptr 1 4 0 0),(3,.own 2)],3,[(0,some ⟨54,4,true,false,[s.row]⟩),(1,some ⟨54,4,true,false,[[lv 0,lv 0,lv 0,.sl 0 true []]]⟩),(2,some ⟨145,3,false,false,segs (s.queue.take i)⟩)],0⟩):=⟨_,rfl⟩;refine lX I (id) (by rw[hI];exact⟨0,by simp,rfl,trivial,rfl⟩) ?_;intro kk ss hIk _;rw[hI]at hIk;obtain⟨i,hi,rfl,hx,rfl⟩:=hIk;refine au1 @hl ?_;intros;apply wr;refine AB rfl (fun hh=>?_) (fun hh=>?_)
 ·simp at hh;obtain⟨g,hg,-,ht,hmem⟩:=get_at hh;have hget:=Gl hg;have hlt:(segs (s.queue.take i)).length=i:=by rw[Db,fE];omega
  refine au1 @hget ?_;refine cc (MC g (h g hmem)) ?_;have hts:segs (s.queue.take (i+1))=segs (s.queue.take i)++[[lv g.from_,lv g.known,Br g.ents]]:=by rw[ht,Da];rfl
  refine J4 (kX2 @hlt @maxLen.eq_1) ?_;intros;apply wr;exact aX (fun x=>if x=2 then 8 else x) (by rw[hI];exact⟨i+1,by omega,rfl,trivial,rfl⟩) (kX2 (AA (n:=(i:Int)+1) (by omega) (by omega)) @hts)
 simp at hh;rw[Gp hh];refine au ?_;refine ar ?_;simp
theorem NR{C D E G:Prop}(c:C)(d:D)(e:E)(t:C->D->E->G:=by intro c d e;(refine au1 e ?_;(repeat intro K hK);apply wr);repeat' ((first|(refine AB rfl (fun h=>?_) (fun h=>?_)<;>(first|(simp[e]at h;done)|(simp[e]at h)|skip)<;>(first|(exfalso;omega)|skip))|((first|refine .inl ⟨1,_,d.1,?_⟩|refine⟨1,_,d.1,?_⟩);simp[CZ,C9,noX,Ct,C5,e];first|refine And.intro AP ?_|skip)|((first|refine .inl ⟨1,_,d.2.1,?_⟩|refine⟨1,_,d.2.1,?_⟩);simp[CZ,C9,noX,Ct,C5,e];first|refine And.intro AP ?_|skip)|refine cc1 c.1 e ?_|refine cc1 c.2.1 e ?_|refine cc1 c.2.2.1 e ?_|refine cc1 c.2.2.2.1 e ?_|refine cc1 c.2.2.2.2.1 e ?_|refine cc1 c.2.2.2.2.2.1 e ?_|refine Ad 3 ?_|refine BE fun K hK=>?_|exact rt1 e|fail)<;>(refine au1 e ?_;(repeat intro K hK);apply wr))):G:=t c d e
theorem infoE:∃(j:TypeInfo)(z:Value),prog.info? 108=some j/\j.size=4/\j.bytes=40/\j.zero=some z/\z.cells.size=4:=by
 have h:(prog.info? 108).map (fun j=>(j.size,j.bytes,j.zero.map fun z=>z.cells.size))=some (4,40,some 4):=by kernel_rfl
 obtain⟨j,hj,e⟩:=Option.map_eq_some_iff.1 h;simp only[Prod.mk.injEq]at e;obtain⟨z,hz,e3⟩:=Option.map_eq_some_iff.1 e.2.2;exact⟨j,z,hj,e.1,e.2.1,hz,e3⟩
theorem WZ(n:Nat)(h0:0<n)(hn:n<=100000)(w:World):Calls prog 121 #[.slice none 0 0,.int .i64 n] w fun e w' =>
  ∃(cap:Nat)(cur:Array Value),e=.returned (.slice (some ⟨w.heap.size,0,none⟩) 0 cap)/\cap<=maxLen/\cur.size=cap*4/\w'=w.drew.alloc (.cells cur 108):=by
 obtain⟨j,z,hj,hs,hb,hz,hzs⟩:=infoE;have h1:¬((n:Int)<0):=by omega
 have h2:wrap64 ((0:Int)-(0:Int))=0:=by unfold wrap64;omega
 have h3:wrap64 ((n:Int)-0)=(n:Int):=by unfold wrap64;omega
 have h4:(n:Int) > 0:=by omega
 have hrz:∀ty,(Builtin.append_ #[43,3] ty #[.slice none 0 0,.int .i64 (n:Int)]).run prog w =
   .ok (.slice (some ⟨w.heap.size,0,none⟩) n (grownCap w n 0 108)) (w.drew.alloc (.cells (Builtin.zeroCells z.cells n++Builtin.zeroCells z.cells (grownCap w n 0 108-n)) 108)):=fun ty=>by
  have h:=Lib.run_append_grow_zeros w 43 3 ty 108 j z .i64 .i64 Tryz.underlying43 Tryz.underlying3 hj hz none 0 0 [] (run_firstCells_none w.drew j.size 0 0 0) n h0 (by omega) (by omega) (by omega)
   (by rw[hb];omega) (by rw[hb];exact growslice_fits (by omega) (by omega))
  simpa using h
 clear hz;generalize z.cells=zc at *;have hGn:n<=grownCap w n 0 108:=grownCap_ge w _ _ _;have hG63:=grownCap_le_maxLen w n 0 108 (by unfold maxLen;omega);generalize grownCap w n 0 108=G at *;have hG':G<=9223372036854775807:=by unfold maxLen at hG63;omega
 go_enter func121,ntmps121
 go_wp2_with (at_builtin;refine Lib.wpList_append_run _ rfl _ _ _ _ rfl _ _ rfl rfl _ _ (hrz _) ?_)
 all_goals (go_ret;exact⟨G,rfl,hG63,_,by simp only[Array.size_append,size_zeroCells,hzs];omega,rfl⟩)
theorem aS(n:Nat)(h0:0<n)(hn:n<=100000):AC prog 121 [.sl 0 true [],iv n] (.new 108 4 []):=by
 refine⟨by kernel_rfl,fun w Xa vals M hXa hs hrr=>?_⟩;obtain⟨A,c',f,hu,_,_,_,hnil,_⟩:=Ri (hrr 0 _ rfl);obtain⟨rfl,rfl⟩:=hnil rfl;have hv1:=DG (hrr 1 _ rfl);have hv:vals=#[.slice none 0 0,.int .i64 (n:Int)]:=by
  apply Array.ext
  ·simpa using hs
  intro i hi hi';have:i=0\/i=1:=by simp at hi';omega
  rcases this with rfl|rfl
  ·simpa[Array.getD,hi]using hu
  simpa[Array.getD,hi]using hv1
 rw[hv];refine(WZ n h0 hn w).mono ?_;rintro e w' ⟨cap,cur,rfl,hcap,hcur,rfl⟩;have hB:Below w.heap.size w (w.drew.alloc (.cells cur 108)):=⟨rfl,rfl,rfl,by simp,fun k hk=>by
  rw[Below.heap_alloc _ _ _ (by simpa using hk)];rfl⟩
 have hnew:(w.drew.alloc (.cells cur 108)).heap[w.heap.size]? =some (.cells cur 108 (0,0)):=World.alloc_heap_new w.drew _;refine⟨_,rfl,hB,fun M n' hM=>?_⟩;have hM0:=hM 0 (by simp[V.fcells,V.cells]);simp[J1,Value.cells]at hM0;refine⟨?_,?_,?_⟩
 ·exact .own _ _ _ _ _ (by simp[V.fcells,V.cells]) hM0
 ·intro id o ho;simp[V.fcells,V.cells,BV,lookO]at ho;obtain⟨rfl,rfl⟩:=ho;refine⟨fun _=>by decide,fun _=>by rw[hM0];rfl,by simp,[],?_,by simp,fun j u h=>by simp at h⟩;rw[hM0];exact⟨by simp,.inr (.inl ⟨w.heap.size,0,cap,cur,rfl,fA _,.plain hnew,Nat.zero_le _,hcap,by rw[gB];exact hcur,by simp⟩)⟩
 intro id id' o o' g ho ho' hne;simp[V.fcells,V.cells,BV,lookO]at ho ho';omega
theorem I8(a b:List EntD)(ha:a.length<=50000)(hb:b.length<=50000):AC prog 69 [.sl 1 false [[Br a],[Br b]]] (Br (a++b)):=by
 rcases Nat.eq_zero_or_pos (a.length+b.length)with hz|hpos
 ·obtain rfl:a=[]:=List.length_eq_zero_iff.1 (by omega);obtain rfl:b=[]:=List.length_eq_zero_iff.1 (by omega);have hg0:AC prog 121 [.sl 0 true [],iv 0] (.sl 0 true []):=by
   refine sZ func121 ntmps121 ?_;exact wx1 trivial trivial @HJ
  refine sX func69 ntmps69 ?_;exact NR (qX1 (hg0)) trivial @HJ
 have la:=BA a;have lb:=BA b;have hab:=Kj a b;have hg:=aS (a.length+b.length) hpos (by omega)
 push_cast at hg
 have w1:IntKind.i64.wrap (a.length:Int)=a.length:=AA (by omega) (by omega);have w2:IntKind.i64.wrap ((a.length:Int)+b.length)=a.length+b.length:=AA (by omega) (by omega);have n1:¬(a.length:Int)<0:=by omega
 have n2:¬(a.length:Int)+b.length<0:=by omega
 refine sX func69 ntmps69 ?_;exact NR (qX1 (hg)) trivial (kX9 @la @lb @w1 @w2 @n1 @n2 @maxLen.eq_1 @hab @HJ)
theorem Gf(l:List Int)(o:Nat)(t:Str):∀n k:Nat,(Hj l o t n)[k]? =if o<=k/\k<o+n/\k<l.length then some (E6 t (k-o))else l[k]?
 | 0,k=>by rw[if_neg (by omega)];rfl
 | n+1,k=>by
  rw[Hj,List.getElem?_set,Gg,Gf l o t n k];by_cases h:o+n=k
  ·subst h;rw[if_pos rfl];by_cases hl:o+n<l.length
   ·rw[if_pos hl,if_pos (by omega),Nat.add_sub_cancel_left]
   rw[if_neg hl,if_neg (by omega),fX (by omega)]
  rw[if_neg h];by_cases h2:o<=k/\k<o+n/\k<l.length
  ·rw[if_pos h2,if_pos (by omega)]
  rw[if_neg h2,if_neg (by omega)]
theorem QK(t:Str)(n k:Nat)(b:UInt8)(hn:n<t.length):(t.set n b).getD k 0=if k=n then b else t.getD k 0:=by
 simp only[eP,List.getElem?_set];by_cases h:n=k
 ·subst h;simp[hn]
 rw[if_neg h,if_neg (fun q=>h q.symm)]
theorem VU(t:Str)(n:Nat)(b:UInt8)(hn:n<t.length):E6 (t.set n b) (n/4)=XH (E6 t (n/4)) ((n%4:Nat):Int) b.toNat:=by
 have b0:=(t.getD (4*(n/4)) 0).toNat_lt;have b1:=(t.getD (4*(n/4)+1) 0).toNat_lt;have b2:=(t.getD (4*(n/4)+2) 0).toNat_lt;have b3:=(t.getD (4*(n/4)+3) 0).toNat_lt;have bb:=b.toNat_lt;have h4:n%4=0\/n%4=1\/n%4=2\/n%4=3:=by omega
 unfold XH byteAt E6;simp only[QK t n _ b hn];rcases h4 with h|h|h|h
 ·rw[if_pos (by omega),if_neg (by omega),if_neg (by omega),if_neg (by omega),h];generalize (t.getD (4*(n/4)) 0).toNat=x0 at *;generalize (t.getD (4*(n/4)+1) 0).toNat=x1 at *;generalize (t.getD (4*(n/4)+2) 0).toNat=x2 at *;generalize (t.getD (4*(n/4)+3) 0).toNat=x3 at *;generalize b.toNat=y at *;simp;omega
 ·rw[if_neg (by omega),if_pos (by omega),if_neg (by omega),if_neg (by omega),h];generalize (t.getD (4*(n/4)) 0).toNat=x0 at *;generalize (t.getD (4*(n/4)+1) 0).toNat=x1 at *;generalize (t.getD (4*(n/4)+2) 0).toNat=x2 at *;generalize (t.getD (4*(n/4)+3) 0).toNat=x3 at *;generalize b.toNat=y at *;simp;omega
 ·rw[if_neg (by omega),if_neg (by omega),if_pos (by omega),if_neg (by omega),h];generalize (t.getD (4*(n/4)) 0).toNat=x0 at *;generalize (t.getD (4*(n/4)+1) 0).toNat=x1 at *;generalize (t.getD (4*(n/4)+2) 0).toNat=x2 at *;generalize (t.getD (4*(n/4)+3) 0).toNat=x3 at *;generalize b.toNat=y at *;simp;omega
 rw[if_neg (by omega),if_neg (by omega),if_neg (by omega),if_pos (by omega),h];generalize (t.getD (4*(n/4)) 0).toNat=x0 at *;generalize (t.getD (4*(n/4)+1) 0).toNat=x1 at *;generalize (t.getD (4*(n/4)+2) 0).toNat=x2 at *;generalize (t.getD (4*(n/4)+3) 0).toNat=x3 at *;generalize b.toNat=y at *;simp;omega
theorem VT(t:Str)(n i:Nat)(b:UInt8)(hn:n<t.length)(hi:i≠n/4):E6 (t.set n b) i=E6 t i:=by
 unfold E6;simp only[QK t n _ b hn];rw[if_neg (by omega),if_neg (by omega),if_neg (by omega),if_neg (by omega)]
theorem XI(l:List Int)(o:Nat)(t:Str)(n:Nat)(b:UInt8)(ht:t.length=128)(hn:n<128):(Hj l o t 32).set (o+n/4) (XH (E6 t (n/4)) ((n%4:Nat):Int) b.toNat)=Hj l o (t.set n b) 32:=by
 apply List.ext_getElem?;intro k;rw[List.getElem?_set,Gg,Gf,Gf];by_cases h:o+n/4=k
 ·subst h;rw[if_pos rfl];by_cases hl:o+n/4<l.length
  ·rw[if_pos hl,if_pos (by omega),Nat.add_sub_cancel_left,VU t n b (by omega)]
  rw[if_neg hl,if_neg (by omega),fX (by omega)]
 rw[if_neg h];by_cases h2:o<=k/\k<o+32/\k<l.length
 ·rw[if_pos h2,if_pos h2,VT t n (k-o) b (by omega) (by omega)]
 rw[if_neg h2,if_neg h2]
theorem YK{w:Int}(h:W32 w):(w%256).toNat+(w/256%256).toNat*256+(w/65536%256).toNat*65536+(w/16777216%256).toNat*16777216=w:=by
 have h0:=h.1;have h1:=h.2;omega
theorem FD:∀(P:List Int)(i k:Nat),k<4->(P.flatMap Bi).getD (4*i+k) 0=((P[i]?).map fun w=>(Bi w).getD k 0).getD 0
 | [],i,k,_=>by simp
 | w::P,0,k,h=>by
  have hl:(Bi w).length=4:=rfl;simp only[List.flatMap_cons,Nat.mul_zero,gB,eP,fV,Option.map_some,Option.getD_some];rw[fO (by omega)]
 | w::P,i+1,k,h=>by
  have hl:(Bi w).length=4:=rfl;have e:=FD P i k h;simp only[List.flatMap_cons,eP,List.getElem?_cons_succ]at e ⊢;rw[fP (by omega),show 4*(i+1)+k-(Bi w).length=4*i+k by omega,e]
theorem Rf{P:List Int}(hP:OkW P){i:Nat}{w:Int}(h:P[i]? =some w):E6 (P.flatMap Bi) i=w:=by
 have hw:W32 w:=hP w (fD h);have e:=YK hw;have f0:=FD P i 0 (by omega);have f1:=FD P i 1 (by omega);have f2:=FD P i 2 (by omega);have f3:=FD P i 3 (by omega);rw[h]at f0 f1 f2 f3;simp only[Option.map_some,Option.getD_some,Nat.add_zero]at f0 f1 f2 f3;unfold E6;rw[f0,f1,f2,f3];have u:∀x:Int,(UInt8.ofNat (x%256).toNat).toNat=(x%256).toNat:=fun x=>by rw[UInt8.toNat_ofNat'];omega
 simp only[Bi,fC,fK,u];omega
theorem UD{l:List Int}(hl:OkW l){f:Int}(h0:0<=f)(h1:f<pagesD l):Hj l (f*32).toNat (Bm l f) 32=l:=by
 have hp:=Gd h0 h1;apply List.ext_getElem?;intro k;rw[Gf];by_cases h2:(f*32).toNat<=k/\k<(f*32).toNat+32/\k<l.length
 ·rw[if_pos h2,eR h2.2.2];congr 1;have hk:((l.take (f*32+32).toNat).drop (f*32).toNat)[k-(f*32).toNat]? =some l[k]:=by
   rw[fS,fN,if_pos (by omega),show(f*32).toNat+(k-(f*32).toNat)=k by omega,eR h2.2.2]
  exact Rf (fun x hx=>hl x (gA (List.mem_of_mem_drop hx))) hk
 rw[if_neg h2]
def If(l:List Int)(f:Int)(s:Str):Nat->List Int
 | 0=>l
 | n+1=>C6 (If l f s n) (f*128+n) 1 ((s.getD n 0).toNat:Int)
theorem MV(l:List Int)(f:Int)(s:Str):∀n,(If l f s n).length=l.length
 | 0=>rfl
 | n+1=>by unfold If C6;rw[List.length_set,MV l f s n]
theorem Ty{l:List Int}{f:Int}(h0:0<=f)(h1:f<pagesD l):(Bm l f).length=128:=by
 unfold Bm;rw[MX,Gd h0 h1]
theorem PO{l:List Int}(hl:OkW l){f:Int}(h0:0<=f)(h1:f<pagesD l)(hin:f*32+32<=l.length)(s:Str):∀n:Nat,n<=s.length->n<=128->If l f s n=Hj l (f*32).toNat (s.take n++(Bm l f).drop n) 32
 | 0,_,_=>by rw[List.take_zero,f9,List.drop_zero,UD hl h0 h1];rfl
 | n+1,hs,hn=>by
  have ih:=PO hl h0 h1 hin s n (by omega) (by omega);have hB:=Ty h0 h1;have ht:(s.take n++(Bm l f).drop n).length=128:=by rw[eX,fE,fF,hB];omega
  have hset:s.take (n+1)++(Bm l f).drop (n+1)=(s.take n++(Bm l f).drop n).set n (s.getD n 0):=by
   apply List.ext_getElem?;intro k;rw[List.getElem?_set,ht,List.getElem?_append,List.getElem?_append];simp only[fE,fN,fS,eP];by_cases hk:n=k
   ·subst hk;rw[if_pos (by omega),if_pos (by omega),if_pos rfl,if_pos (by omega),eR (by omega)];rfl
   rw[if_neg hk];by_cases hk2:k<n
   ·rw[if_pos (by omega),if_pos (by omega),if_pos (by omega),if_pos (by omega)]
   rw[if_neg (by omega),if_neg (by omega)];congr 1;omega
  have hw:wAt (Hj l (f*32).toNat (s.take n++(Bm l f).drop n) 32) ((f*128+n)/4)=E6 (s.take n++(Bm l f).drop n) (n/4):=by
   unfold wAt;rw[eP,Gf,if_pos (by omega),Option.getD_some];congr 1;omega
  have hm:(f*128+(n:Int))%4=((n%4:Nat):Int):=by omega
  have hd:((f*128+(n:Int))/4).toNat=(f*32).toNat+n/4:=by omega
  rw[If,ih];unfold C6;rw[if_pos rfl,hw,hm,hd,XI _ _ _ n _ ht (by omega),hset]
end Go.Proofs.YtjkmhmepljamoaaGreat
end
