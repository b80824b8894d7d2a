/- A part of the proof of ReplicaDisk. -/
import Derived.Test.YtjkmhmepljamoaaGreatK05
import Derived.Test.YtjkmhmepljamoaaGreatK08
import Derived.Lib.AppendZerosOnto
import Derived.Lib.SliceRun
import Derived.Lib.Walk
set_option linter.all false
set_option maxHeartbeats 16000000
set_option maxRecDepth 100000
section
namespace Go.Proofs.YtjkmhmepljamoaaGreat
open Go.Ab Go.RowKit Tryz
def cF(s:Str):Int:=match s with|[]=>4294967295|b::_=>(b.toNat:Int)
def Ed(s:Str)(port:Int):Str×Int:=if port=0 then(s.tail,cF s)else if port=1 then(s,s.length)else(s,0)
def FZ(s:Str)(b:UInt8):Str×Bool:=if 16<=s.length then(s,false)else(s++[b],true)
def WM(v:Int):TimD:=⟨!decide (v=0),v,false⟩
def FG(t:TimD):TimD×Bool:=if t.armed=true then(⟨false,t.dl,true⟩,true)else(t,false)
def dueD(t:TimD)(now:Int):Bool:=t.armed&&decide (t.dl<=now)
def SA(t:TimD):Int:=b2w t.fired
def OB(d:DskD)(port:Int):Int:=if port=4 then d.block else if port=5 then d.frame else if port=6 then uw d.state else 0
def CL(d:DskD):Bool:=decide (d.state=2)||decide (d.state=3)
def B1(w:Int):Str:=[UInt8.ofNat (w%256).toNat,UInt8.ofNat (w/256%256).toNat,UInt8.ofNat (w/65536%256).toNat,UInt8.ofNat (w/16777216%256).toNat]
def Bh(mem:List Int)(f:Int):Str:=((mem.take (f*32+32).toNat).drop (f*32).toNat).flatMap B1
def E8(s:Str)(i:Nat):Int:=(s.getD (4*i) 0).toNat+(s.getD (4*i+1) 0).toNat*256+(s.getD (4*i+2) 0).toNat*65536+(s.getD (4*i+3) 0).toNat*16777216
def Hx(mem:List Int)(o:Nat)(s:Str):Nat->List Int
 | 0=>mem
 | i+1=>(Hx mem o s i).set (o+i) (E8 s i)
def Br(mem:List Int)(f:Int)(s:Str):List Int:=Hx mem (f*32).toNat s 32
def Ag(d:DskD)(at_:Int):OutD×Bool :=
 if d.state=1/\d.cmd=1 then(⟨3,at_,d.opBlock,[]⟩,true)else if d.state=1/\d.cmd=2 then(⟨4,at_,d.opBlock,d.opData⟩,true)else(⟨0,0,0,[]⟩,false)
def Am(d:DskD)(mem:List Int)(cmd at_:Int):DskD×List OutD :=
 if d.state≠0 then(d,[])
 else if d.blocks<=d.block\/pagesD mem<=d.frame then({d with state:=3},[])
 else({d with state:=1,cmd:=cmd,opBlock:=d.block,opFrame:=d.frame,opData:=if cmd=2 then Bh mem d.frame else []},
  [(Ag {d with state:=1,cmd:=cmd,opBlock:=d.block,opFrame:=d.frame,opData:=if cmd=2 then Bh mem d.frame else []} at_).1])
def Ak(d:DskD)(mem:List Int)(port v at_:Int):DskD×List OutD :=
 if port=4 then({d with block:=v},[])
 else if port=5 then({d with frame:=v},[])
 else if port=6 then
  if v=1\/v=2 then Am d mem v at_
  else if v=0/\CL d=true then({d with state:=0},[])
  else(d,[])
 else(d,[])
def doneD(d:DskD)(n:Int):DskD:={d with state:=if n=1 then 2 else 3,cmd:=0,opBlock:=0,opFrame:=0,opData:=[]}
def AI(d:DskD)(mem:List Int)(e:EvD):DskD×List Int×Bool :=
 if d.state≠1\/e.kind≠4\/1<e.n then(d,mem,false)
 else if e.n=1/\d.cmd=1 then
  if d.opFrame<pagesD mem/\e.data.length=128 then(doneD d e.n,Br mem d.opFrame e.data,true)else(d,mem,false)
 else if e.data=[]then(doneD d e.n,mem,true)else(d,mem,false)
def OX(n:NicD)(port:Int):Int:=if port=7 then n.frame else if port=8 then n.got else if port=9 then b2w n.posted+b2w n.received*2 else 0
def AZ(n:NicD)(mem:List Int)(port v at_:Int):NicD×List OutD :=
 if port=7 then({n with frame:=v},[])
 else if port=8 then({n with len:=v},[])
 else if port=9 then
  if v=1 then(n,if 1<=n.len/\n.len<=128/\n.frame<pagesD mem then [⟨2,at_,0,(Bh mem n.frame).take n.len.toNat⟩]else [])
  else if v=2 then(if n.frame<pagesD mem/\n.posted=false/\n.received=false then {n with posted:=true,buffer:=n.frame}else n,[])
  else if v=0 then({n with received:=false,got:=0},[])
  else(n,[])
 else(n,[])
def Ah(n:NicD)(mem:List Int)(s:Str):NicD×List Int×Bool :=
 if n.posted=true/\1<=s.length/\s.length<=128/\n.buffer<pagesD mem then
  ({n with posted:=false,buffer:=0,received:=true,got:=s.length},Br mem n.buffer (s++(Bh mem n.buffer).drop s.length),true)
 else(n,mem,false)
def countB(g:Int):Int:=(List.range 32).foldl (fun n i=>n+g/2^i%2) 0
def MG(t g port:Int):Int:=if port=10 then t else if port=11 then countB g else 0
def Bf(t g:Int):Bool:=!decide (countB g=t)
def Cj:Str:=List.replicate 128 0
def Aj(g:Int)(mem:List Int)(port v:Int):Int×List Int :=
 if 32<=v then(g,mem)
 else if port=10 then
  if v<pagesD mem/\g/2^v.toNat%2=0 then(ior .u32 g (2^v.toNat),Br mem v Cj)else(g,mem)
 else if port=11 then(Da .u32 g (2^v.toNat),mem)
 else(g,mem)
def Hn(m:MchD):Int:=b2w m.tim.fired+b2w (!decide (m.keys=[]))*2+b2w (CL m.dk)*4+b2w m.nc.received*8+b2w (Bf m.tgt m.given)*16
def enD(m:MchD):Int:=Bg .u32 (Hn m) (m.cpu.csr 7)
def SQ(e:Int):Option Int:=if e%2=1 then some 0 else if e/2%2=1 then some 1 else if e/4%2=1 then some 2 else if e/8%2=1 then some 3 else if e/16%2=1 then some 4 else none
def OK(m:MchD):Bool:=m.waiting&&decide (enD m=0)
def runsD(m:MchD):Bool:=mayD m&&!m.halted&&!OK m&&decide (m.count<1152921504606846976)
def AL(m:MchD):MchD :=
 if m.cpu.csr 0/2%2=0 then {m with waiting:=false}
 else match SQ (enD m)with
  | none=>{m with waiting:=false}
  | some i=>{m with waiting:=false,cpu:=BP m.cpu (16+i) 0}
def GB(m:MchD):EffD:=(Az (AL m).cpu m.mem).2.2
def readsD(m:MchD):Bool:=runsD m&&(decide ((GB m).kind=1)&&decide ((GB m).port=2))
def AO(m:MchD)(port clock:Int):MchD×Int :=
 if port=0\/port=1 then({m with keys:=(Ed m.keys port).1},(Ed m.keys port).2)
 else if port=2 then(m,clock)
 else if port=3 then(m,SA m.tim)
 else if port=4\/port=5\/port=6 then(m,OB m.dk port)
 else if port=7\/port=8\/port=9 then(m,OX m.nc port)
 else if port=10\/port=11 then(m,MG m.tgt m.given port)
 else(m,0)
def AH(m:MchD)(port v at_:Int):MchD×List OutD :=
 if port=0 then(m,[⟨1,at_,0,[UInt8.ofNat (v%256).toNat]⟩])
 else if port=3 then({m with tim:=WM v},[])
 else if port=4\/port=5\/port=6 then({m with dk:=(Ak m.dk m.mem port v at_).1},(Ak m.dk m.mem port v at_).2)
 else if port=7\/port=8\/port=9 then({m with nc:=(AZ m.nc m.mem port v at_).1},(AZ m.nc m.mem port v at_).2)
 else if port=10\/port=11 then({m with given:=(Aj m.given m.mem port v).1,mem:=(Aj m.given m.mem port v).2},[])
 else(m,[])
def BZ(m:MchD)(e:EffD)(clock at_:Int):MchD×List OutD :=
 if e.kind=1 then({(AO m e.port clock).1 with cpu:=(AO m e.port clock).1.cpu.setR e.reg (AO m e.port clock).2},[])
 else if e.kind=2 then AH m e.port e.val at_
 else if e.kind=3 then({m with waiting:=true},[])
 else if e.kind=4 then({m with halted:=true},[])
 else(m,[])
def CM(m:MchD):MchD:={AL m with cpu:=(Az (AL m).cpu m.mem).1,mem:=(Az (AL m).cpu m.mem).2.1}
def goD(m:MchD)(clock:Int):MchD×List OutD :=
 ({(BZ (CM m) (GB m) clock m.count).1 with count:=(BZ (CM m) (GB m) clock m.count).1.count+1},(BZ (CM m) (GB m) clock m.count).2)
def stepD(m:MchD)(clock:Int):MchD×List OutD:=if runsD m=true then goD m clock else(m,[])
def applyD(m:MchD)(e:EvD):MchD×Bool :=
 if mayD m=false\/m.halted=true then(m,false)
 else if e.kind=2 then if e.n=0/\e.data=[]then({m with tim:=(FG m.tim).1},(FG m.tim).2)else(m,false)
 else if e.kind=3 then if e.n<=255/\e.data=[]then({m with keys:=(FZ m.keys (UInt8.ofNat e.n.toNat)).1},(FZ m.keys (UInt8.ofNat e.n.toNat)).2)else(m,false)
 else if e.kind=4 then({m with dk:=(AI m.dk m.mem e).1,mem:=(AI m.dk m.mem e).2.1},(AI m.dk m.mem e).2.2)
 else if e.kind=5 then if e.n=0 then({m with nc:=(Ah m.nc m.mem e.data).1,mem:=(Ah m.nc m.mem e.data).2.1},(Ah m.nc m.mem e.data).2.2)else(m,false)
 else if e.kind=6 then if e.data=[]then({m with tgt:=e.n},true)else(m,false)
 else(m,false)
theorem u8_of(w:Int):((UInt8.ofNat (w%256).toNat).toNat:Int)=IntKind.u8.wrap w:=by rw[UInt8.toNat_ofNat',IntKind.wrap_u8];omega
theorem Kn(w:Int):AM (B1 w)=[[.int .u8 (IntKind.u8.wrap w)],[.int .u8 (IntKind.u8.wrap (w/256))],[.int .u8 (IntKind.u8.wrap (w/65536))],[.int .u8 (IntKind.u8.wrap (w/16777216))]]:=by
 simp only[AM,B1,iI,List.map_nil,u8_of]
@[simp] theorem bytesX_nil:AM []=[]:=rfl
@[simp] theorem putW_zero(l:List Int)(o:Nat)(s:Str):Hx l o s 0=l:=rfl
theorem KH(a b:Str):AM (a++b)=AM a++AM b:=by simp[AM]
theorem Mg(l:List Int):(l.flatMap B1).length=4*l.length:=by
 induction l with
 | nil=>rfl
 | cons a r ih=>rw[List.flatMap_cons,gV,ih];simp[B1];omega
theorem IF(x:Int):x.fdiv 256=x/256:=gU _ (by decide)
theorem Du(x:Int):x.fdiv 65536=x/65536:=gU _ (by decide)
theorem Bi(x:Int):x.fdiv 16777216=x/16777216:=gU _ (by decide)
theorem fP(l:List Int)(hb:l.length<=1024):AC prog 289 [DO l] (.str (l.flatMap B1)):=by
 have e3:=AN .u32 l;have w1:IntKind.i64.wrap (4*(l.length:Int))=4*l.length:=AA;have hb0:AM []=[]:=rfl;refine sY func289 ntmps289 (kX3 @e3 @w1 @maxLen.eq_1) ?_;intros;apply wr;obtain⟨I,hI⟩:∃I:Nat->St->Prop,I=(fun kk ss=>∃(i:Nat)(x:Str),i<=l.length/\kk=l.length-i/\(x=(l.take i).flatMap B1/\x.length=4*i)/\ss=⟨33,[(12,.int .i64 i),(11,.int .i64 l.length),(10,DO l),(3,.own 0)],1,[(0,some ⟨5,1,false,false,AM x⟩)],0⟩):=⟨_,rfl⟩;refine lX I (id) (by rw[hI];exact⟨0,[],by simp,rfl,⟨by simp,rfl⟩,rfl⟩) ?_;intro kk ss hIk _;rw[hI]at hIk;obtain⟨i,x,hi,rfl,hx,rfl⟩:=hIk;obtain⟨hx1,hx2⟩:=hx;refine au ?_;intros;apply wr;refine AB rfl (fun hh=>?_) (fun hh=>?_)
 ·simp at hh;obtain⟨w,hw⟩:∃w,l[i]? =some w:=⟨_,gR hh⟩;have hget:=CN (k:=.u32) hw;have hnx:(l.take (i+1)).flatMap B1=x++B1 w:=by
   rw[List.take_add_one,hw,List.flatMap_append,<- hx1];simp
  have hrow:AM (x++B1 w)=AM x++[[.int .u8 (IntKind.u8.wrap w)],[.int .u8 (IntKind.u8.wrap (w/256))],[.int .u8 (IntKind.u8.wrap (w/65536))],[.int .u8 (IntKind.u8.wrap (w/16777216))]]:=by rw[KH,Kn]
  have hbl:(AM x).length=4*i:=by simp[AM,hx2]
  refine au1 (kX7 @hget @hbl @IF @Du @Bi @e3 @maxLen.eq_1) ?_;intros;apply wr;exact aX (fun x=>if x=0 then 2 else x) (by rw[hI];exact⟨i+1,(x++B1 w),by omega,rfl,⟨hnx.symm,by rw[gV,hx2];rfl⟩,rfl⟩) (kX2 (AA (n:=(i:Int)+1)) @hrow)
 simp at hh;have hi:l.take i=l:=iZ (by omega);rw[hi]at hx1;refine au1 (Dk x) ?_;refine ar ?_;simp[hx1,Dl]
theorem HW(l:List Int)(f:Int):AC prog 288 [DO l,iv f] (.bool (decide (0<=f)&&decide (f<pagesD l))):=by
 refine sZ func288 ntmps288 ?_;exact wx (qX1 (Cq l)) trivial
theorem cC(l:List Int)(a b:Nat):((ints .u32 l).take a).drop b=ints .u32 ((l.take a).drop b):=by simp[ints,List.map_take,List.map_drop]
theorem Gt{l:List Int}{f:Int}(h0:0<=f)(h1:f<pagesD l):((l.take (f*32+32).toNat).drop (f*32).toNat).length=32:=by
 have:=C4 (l:=l) (by omega);simp only[iE,iD];omega
theorem Oa(l:List Int)(f:Int)(h0:0<=f)(h1:f<pagesD l):AC prog 231 [DO l,iv f] (.tup [.str (Bh l f),.bool true]):=by
 have hp:=Ad l;have hl:=C4 (l:=l) (by omega);have e3:=AN .u32 l;have hh:=HW l f;rw[show(decide (0<=f)&&decide (f<pagesD l))=true by simp[h0,h1]]at hh;have w1:IntKind.i64.wrap (f*32)=f*32:=AA;have w2:IntKind.i64.wrap (f*32+32)=f*32+32:=AA;have ht:=fP ((l.take (f*32+32).toNat).drop (f*32).toNat) (by rw[Gt h0 h1];omega);refine sZ func231 ntmps231 ?_;exact wx1 (qX2 (hh) (ht)) trivial (kX5 @e3 @w1 @w2 @cC @Bh.eq_1)
theorem LM(a b:Int):ior .u32 a b=ior .u32 b a:=by unfold ior;rw[BitVec.or_comm]
theorem or4(a b c d:UInt8):ior .u32 (ior .u32 (ior .u32 (a.toNat:Int) ((b.toNat:Int)*256)) ((c.toNat:Int)*65536)) ((d.toNat:Int)*16777216)=(a.toNat:Int)+b.toNat*256+c.toNat*65536+d.toNat*16777216:=by
 have:=a.toNat_lt;have:=b.toNat_lt;have:=c.toNat_lt;have:=d.toNat_lt;have q1:ior .u32 (a.toNat:Int) ((b.toNat:Int)*256)=(b.toNat:Int)*256+a.toNat:=by
  rw[LM];exact O8 _ _ 8 (by omega) (by omega) (by omega) (by omega) (by omega) (by omega)
 have q2:ior .u32 ((b.toNat:Int)*256+a.toNat) ((c.toNat:Int)*65536)=(c.toNat:Int)*65536+((b.toNat:Int)*256+a.toNat):=by
  rw[LM];exact O8 _ _ 16 (by omega) (by omega) (by omega) (by omega) (by omega) (by omega)
 have q3:ior .u32 ((c.toNat:Int)*65536+((b.toNat:Int)*256+a.toNat)) ((d.toNat:Int)*16777216)=(d.toNat:Int)*16777216+((c.toNat:Int)*65536+((b.toNat:Int)*256+a.toNat)):=by
  rw[LM];exact O8 _ _ 24 (by omega) (by omega) (by omega) (by omega) (by omega) (by omega)
 rw[q1,q2,q3];omega
theorem V4(a:UInt8):IntKind.u32.wrap (a.toNat:Int)=a.toNat:=by have:=a.toNat_lt;rw[IntKind.wrap_u32];omega
theorem fV(a:UInt8):IntKind.u32.wrap ((a.toNat:Int)*256)=(a.toNat:Int)*256:=by have:=a.toNat_lt;rw[IntKind.wrap_u32];omega
theorem fW(a:UInt8):IntKind.u32.wrap ((a.toNat:Int)*65536)=(a.toNat:Int)*65536:=by have:=a.toNat_lt;rw[IntKind.wrap_u32];omega
theorem fX(a:UInt8):IntKind.u32.wrap ((a.toNat:Int)*16777216)=(a.toNat:Int)*16777216:=by have:=a.toNat_lt;rw[IntKind.wrap_u32];omega
theorem Gw(l:List Int)(o:Nat)(s:Str)(n:Nat):(Hx l o s n).length=l.length:=by
 induction n with
 | zero=>rfl
 | succ n ih=>rw[Hx,List.length_set,ih]
theorem Hf(l:List Int)(f:Int)(s:Str)(h0:0<=f)(h1:f<pagesD l)(hs:s.length=128):AC prog 229 [DO l,iv f,.str s] (.tup [DO (Br l f s),.bool true]):=by
 have hp:=Ad l;have hl:=C4 (l:=l) (by omega);have e3:=AN .u32 l;have hh:=HW l f;rw[show(decide (0<=f)&&decide (f<pagesD l))=true by simp[h0,h1]]at hh;have w1:IntKind.i64.wrap (f*32)=f*32:=AA;have hcl:=DL (ints .u32 l) false 1 (.inl rfl) (by rw[e3];omega);refine sX func229 ntmps229 ?_;refine cn (hcl) ?_;refine au ?_;refine cZ (hh) @hs @hs ?_;refine EP @hs @w1 ?_;intros;apply wr;obtain⟨I,hI⟩:∃I:Nat->St->Prop,I=(fun kk ss=>∃(i:Nat),i<=32/\kk=32-i/\(True)/\ss=⟨61,[(26,.int .i64 i),(2,.str s),(8,.own 0),(9,.int .i64 (f*32))],1,[(0,some ⟨25,1,false,false,ints .u32 (Hx l (f*32).toNat s i)⟩)],0⟩):=⟨_,rfl⟩;refine lX I (id) (by rw[hI];exact⟨0,by simp,rfl,trivial,rfl⟩) ?_;intro kk ss hIk _;rw[hI]at hIk;obtain⟨i,hi,rfl,hx,rfl⟩:=hIk;refine au ?_;intros;apply wr;refine AB rfl (fun hi=>?_) (fun hi=>?_)
 ·simp at hi;have g1:IntKind.i64.wrap (4*(i:Int))=4*i:=AA;have g2:IntKind.i64.wrap (4*(i:Int)+4)=4*i+4:=AA;have g3:(4*(i:Int)).toNat=4*i:=by omega
  have g4:(4*(i:Int)+4).toNat=4*i+4:=by omega
  have g5:IntKind.i64.wrap (f*32+i)=f*32+i:=AA;have g6:(f*32+(i:Int)).toNat=(f*32).toNat+i:=by omega
  obtain⟨a,b,c,d,hq⟩:∃a b c d,(s.take (4*i+4)).drop (4*i)=[a,b,c,d]:=by
   have hlen:((s.take (4*i+4)).drop (4*i)).length=4:=by simp;omega
   match(s.take (4*i+4)).drop (4*i),hlen with
   | [a,b,c,d],_=>exact⟨a,b,c,d,rfl⟩
  have hk:∀k,k<4->s.getD (4*i+k) 0=[a,b,c,d].getD k 0:=fun k hk=>by
   rw[<- hq,gP,gP,iP,iL,nH]
  have hw4:E8 s i=(a.toNat:Int)+b.toNat*256+c.toNat*65536+d.toNat*16777216:=by
   unfold E8;rw[show s.getD (4*i) 0=a from hk 0 (by omega),hk 1 (by omega),hk 2 (by omega),hk 3 (by omega)];rfl
  have hpl:=Gw l (f*32).toNat s i;have hpl':=AN .u32 (Hx l (f*32).toNat s i);obtain⟨w0,hw0⟩:∃w0,(Hx l (f*32).toNat s i)[(f*32).toNat+i]? =some w0:=⟨_,gR (by omega)⟩;have hw1:=CN (k:=.u32) hw0;have hset:=ints_set .u32 (Hx l (f*32).toNat s i) ((f*32).toNat+i) (E8 s i);rw[show(Hx l (f*32).toNat s i).set ((f*32).toNat+i) (E8 s i)=Hx l (f*32).toNat s (i+1)from rfl,hw4]at hset;have hor:=or4 a b c d;refine au1 (kX6 @g1 @g2 @g3 @g4 @hs @hq) ?_;intros;apply wr;refine AD 24 [0,0,0,6,0,16,48,0,128,384,896,2032,0,4096,12288,28672,65520,0,131072,393216,917504,2097136,4194303,8388607] [(22,([[],[],[],[1,2],[],[4],[4,5],[],[7],[7,8],[7,8,9],[4,5,6,7,8,9,10],[],[12],[12,13],[12,13,14],[4,5,6,7,8,9,10,11,12,13,14,15],[],[17],[17,18],[17,18,19],[4,5,6,7,8,9,10,11,12,13,14,15,16,17,18,19,20]],[])),(1,([],[])),(1,([],[]))] ?_;refine af1 (SL @g5 @g6 @hpl @hpl' @hor @V4 @fV @fW @fX @hw1 @hset) ?_;refine af ?_;intros;apply wr;exact aX (id) (by rw[hI];exact⟨i+1,by omega,rfl,trivial,rfl⟩) (kX3 (AA (n:=(i:Int)+1)) @hw1 @hset)
 simp at hi;refine af ?_;intros;apply wr;refine aw ?_;simp;have e:i=32:=by omega
 subst e;rfl
abbrev L64(n:Int):Prop:=0<=n/\n<18446744073709551616
abbrev lw(n:Int):Int:=IntKind.u64.wrap n
structure OkT(e:EntD):Prop where
 a:L64 e.at_
 n:W32 e.ev.n
def No:Nat->Nat->Str
 | 0,n=>[UInt8.ofNat n]
 | k+1,n=>if n<128 then [UInt8.ofNat n]else UInt8.ofNat (n%128+128)::No k (n/128)
def BG(n:Int):Str:=No 10 n.toNat
def Ji:Nat->Nat->Str->Option (Nat×Nat)
 | _,_,[]=>none
 | i,x,b::r=>if 10<=i then none else if i=9/\1<b.toNat then none else if 128<=b.toNat then Ji (i+1) (x+b.toNat%128*2^(7*i)) r
  else if b=0/\0<i then none else some (x+b.toNat*2^(7*i),i+1)
def N7(s:Str):Option (Nat×Nat):=Ji 0 0 s
def evVal(e:EvD):Bool :=
 if e.kind=1\/e.kind=6 then e.data==[]
 else if e.kind=2 then decide (e.n=0)&&(e.data==[])
 else if e.kind=3 then decide (e.n<=255)&&(e.data==[])
 else if e.kind=4 then if e.n=1 then(e.data==[])||decide (e.data.length=128)else decide (e.n=0)&&(e.data==[])
 else if e.kind=5 then decide (e.n=0)&&decide (1<=e.data.length)&&decide (e.data.length<=128)
 else false
def Ef(e:EvD):Str :=
 if e.kind=1\/e.kind=3\/e.kind=6 then BG e.kind++BG e.n
 else if e.kind=4 then BG e.kind++(BG e.n++(BG e.data.length++e.data))
 else if e.kind=5 then BG e.kind++(BG e.data.length++e.data)
 else BG e.kind
def Dt:Int->List EntD->Str
 | _,[]=>[]
 | from_,e::r=>BG (e.at_-from_)++(Ef e.ev++Dt e.at_ r)
def ordD:List EntD->Bool
 | a::b::r=>!(decide (b.at_<a.at_)||(decide (b.at_=a.at_)&&decide (a.ev.kind=1)))&&ordD (b::r)
 | _=>true
def firstOk(from_:Int):List EntD->Bool
 | []=>true
 | e::_=>decide (from_<=e.at_)
def Dx(l:List EntD)(from_:Int):Int :=
 if 400<l.length then 1902 else if l.all (fun e=>evVal e.ev)=false then 1900 else if ordD l=false\/firstOk from_ l=false then 1901
 else if 65536<(BG l.length++Dt from_ l).length then 1902 else 0
def Ly(l:List EntD)(from_:Int):Str×Int:=if Dx l from_=0 then(BG l.length++Dt from_ l,0)else([],Dx l from_)
def DY(l:List EntD)(known:Int):Bool:=l.any fun e=>decide (known<e.at_)
def Ai(g:SegD):Str×Int:=if g.known<g.from_\/DY g.ents g.known=true then([],2400)else Ly g.ents g.from_
def En(g:SegD):Bool:=decide ((Ai g).2=0)
def Ey(r:RecD)(e:EvD):RecD×Bool:=if evVal e=true/\e.kind≠1/\r.queue.length<16 then({r with queue:=r.queue++[e]},true)else(r,false)
def AW(r:RecD)(e:EvD):RecD:=if(applyD r.m e).2=true then {r with m:=(applyD r.m e).1,log:=r.log++[⟨r.m.count,e⟩]}else r
def BF(r:RecD):RecD:=if dueD r.m.tim r.clock=true then AW r ⟨2,0,[]⟩else r
def Ep(m:MchD):Bool:=m.halted||OK m||decide (m.count=1152921504606846976)
def Ir(r:RecD):RecD:=if readsD r.m=true then {r with log:=r.log++[⟨r.m.count,⟨1,r.clock,[]⟩⟩]}else r
def goR(r:RecD):RecD×List OutD:=({Ir r with m:=(stepD r.m r.clock).1,clock:=uw (r.clock+1)},(stepD r.m r.clock).2)
def DW:Nat->RecD->List OutD->RecD×List OutD
 | 0,r,o=>(r,o)
 | n+1,r,o=>if Ep (BF r).m=true then(BF r,o)else DW n (goR (BF r)).1 (o++(goR (BF r)).2)
def DC(steps:Int):Nat:=(min (max steps 0) 4000).toNat
def CX(r:RecD)(clock:Int):RecD:={r.queue.foldl AW {r with clock:=max r.clock clock}with queue:=[]}
def Cv(r:RecD)(steps clock:Int):RecD×List OutD:=if mayD r.m=true then DW (DC steps) (CX r clock) []else(r,[])
def Qz(r:RecD):RecD:={r with log:=[]}
def fitsD(o:OutD):Bool:=decide (o.block=0)&&(if o.kind=1 then decide (o.data.length=1)else if o.kind=2 then decide (o.data.length<=128)else false)
def heldOk:Int->List OutD->Bool
 | _,[]=>true
 | last,o::r=>(fitsD o&&decide (last<=o.at_))&&heldOk o.at_ r
def DN(g:GateD):Bool:=heldOk g.acked g.held
def D2(g:GateD)(o:OutD):GateD :=
 if o.kind≠1/\o.kind≠2 then g else if g.acked<=o.at_ then {g with held:=g.held++[o]}else if o.kind=1 then {g with bytes:=lw (g.bytes+1)}else g
def FO(g:GateD)(l:List OutD):GateD×Bool:=if DN g=true/\DN (l.foldl D2 g)=true then(l.foldl D2 g,true)else(g,false)
def GM(bytes:Int):List OutD->Int×List (OutD×Int)
 | []=>(bytes,[])
 | o::r=>if o.kind=1 then((GM (lw (bytes+1)) r).1,(o,bytes)::(GM (lw (bytes+1)) r).2)else((GM bytes r).1,(o,0)::(GM bytes r).2)
def Kf(acked:Int)(l:List OutD):List OutD:=l.takeWhile fun o=>decide (o.at_<acked)
def GL(g:GateD)(acked:Int):GateD×List (OutD×Int) :=
 if DN g=true/\g.acked<acked then(⟨g.held.drop (Kf acked g.held).length,acked,(GM g.bytes (Kf acked g.held)).1⟩,(GM g.bytes (Kf acked g.held)).2)else(g,[])
def chainOk:Int->List SegD->Bool
 | _,[]=>true
 | at_,g::r=>(decide (g.from_=at_)&&En g)&&chainOk g.known r
def lastAt:Int->List SegD->Int
 | at_,[]=>at_
 | _,g::r=>lastAt g.known r
def CH(s:SndD):Bool :=
 if s.base<1\/4611686018427387904<s.base\/8<s.queue.length then false
 else match s.queue with
  | []=>decide (s.known<=s.tail)
  | g::_=>decide (s.known<=g.from_)&&chainOk g.from_ s.queue&&decide (s.tail=lastAt g.from_ s.queue)
def Dc(s:SndD)(g:SegD):SndD×Int :=
 if g.from_≠s.tail\/CH s=false then(s,2400)
 else if(Ai g).2≠0 then(s,(Ai g).2)
 else if 8<=s.queue.length then(s,2401)
 else({s with queue:=s.queue++[g],tail:=g.known},0)
def GF(r:RepD):Bool:=decide (r.role=1)||decide (r.role=3)
def EE(r:RepD):Bool:=GF r&&decide (r.rec_.m.dk.state=1)
def SJ(c:Int×Int)(o:OutD):Int×Int:=if o.kind=3\/o.kind=4 then(0,o.at_)else c
def Kw(c:Int×Int)(l:List OutD):Int×Int:=l.foldl SJ c
def YK(r:RepD)(a:RecD)(o:List OutD):RepD :=
 {r with rec_:=a,gate:=(FO r.gate o).1,cmd:=if EE {r with rec_:=a}=true then(Kw (r.cmd,r.cmdAt) o).1 else 0,cmdAt:=(Kw (r.cmd,r.cmdAt) o).2}
def segA(r:RepD):SegD:=⟨r.out.tail,r.rec_.m.count,r.rec_.log⟩
def XE(r:RepD):RepD :=
 {r with rec_:=Qz r.rec_,hist:=r.hist++r.rec_.log,out:=if r.role=1/\(r.rec_.log≠[]\/r.rec_.m.count≠r.out.tail)then(Dc r.out (segA r)).1 else r.out}
def Dd(r:RepD)(steps clock:Int):RepD:=XE (YK r (Cv r.rec_ steps clock).1 (Cv r.rec_ steps clock).2)
theorem BA(l:List OutD):(outs l).length=l.length:=by simp[outs]
theorem Df(l:List SegD):(segs l).length=l.length:=by simp[segs]
theorem M3(l:List (Int×SegD)):(Iz l).length=l.length:=by simp[Iz]
theorem B7{l:List EntD}{i:Nat}{x:EntD}(h:l[i]? =some x):(ents l)[i]? =some x.row:=by simp[ents,h]
theorem bC{l:List EvD}{i:Nat}{x:EvD}(h:l[i]? =some x):(evs l)[i]? =some x.row:=by simp[evs,h]
theorem Em{l:List OutD}{i:Nat}{x:OutD}(h:l[i]? =some x):(outs l)[i]? =some x.row:=by simp[outs,h]
theorem HA{l:List SegD}{i:Nat}{x:SegD}(h:l[i]? =some x):(segs l)[i]? =some x.row:=by simp[segs,h]
theorem TE{l:List (Int×SegD)}{i:Nat}{x:Int×SegD}(h:l[i]? =some x):(Iz l)[i]? =some [lv x.1,lv x.2.from_,lv x.2.known,Bo x.2.ents]:=by simp[Iz,h]
theorem LF(a b:List EntD):ents (a++b)=ents a++ents b:=by simp[ents]
theorem bB(a b:List EvD):evs (a++b)=evs a++evs b:=by simp[evs]
theorem Bc(a b:List OutD):outs (a++b)=outs a++outs b:=by simp[outs]
theorem De(a b:List SegD):segs (a++b)=segs a++segs b:=by simp[segs]
theorem P1(a:EntD):ents [a]=[a.row]:=rfl
theorem XS(a:OutD):outs [a]=[a.row]:=rfl
theorem BL(a:SegD):segs [a]=[a.row]:=rfl
theorem get_at{α:Type}{l:List α}{i:Nat}(h:i<l.length):∃x,l[i]? =some x/\l.drop i=x::l.drop (i+1)/\l.take (i+1)=l.take i++[x]/\x∈l :=
 ⟨l[i],gR h,List.drop_eq_getElem_cons h,(List.take_append_getElem h).symm,List.getElem_mem h⟩
theorem Nn{α:Type}{L:List α}{i:Nat}{x:α}(h:L[i]? =some x)(h':i<L.length):L[i]'h'=x:=by rw[gR h']at h;exact Option.some.inj h
theorem Cf{α:Type}{l:List α}{i:Nat}(h:l.length<=i):l.drop i=[]:=List.drop_eq_nil_of_le h
theorem HD{α:Type}{l:List α}{i:Nat}(h:l.length<=i):l.take i=l:=iZ h
theorem bV(o:OutD):AC prog 168 [.st o.row] (.bool (fitsD o)):=by
 refine sZ func168 ntmps168 ?_;exact wx1 trivial trivial @fitsD.eq_1
theorem OI(g:GateD):AC prog 105 [.st g.row] (.bool (DN g)):=by
 have hl:=BA g.held;refine AC.lens (by kernel_rfl) fun hlens=>?_;simp[OP,OQ,Gh,maxLen]at hlens;refine sY func105 ntmps105 @hl ?_;intros;apply wr;simp only[hl]at hlens;obtain⟨I,hI⟩:∃I:Nat->St->Prop,I=(fun kk ss=>∃(i:Nat)(la:Int),i<=g.held.length/\kk=g.held.length-i/\(heldOk g.acked g.held=heldOk la (g.held.drop i))/\ss=⟨27,[(11,.int .i64 i),(10,.int .i64 g.held.length),(9,.sl 4 false (outs g.held)),(3,lv la)],1,[],0⟩):=⟨_,rfl⟩;refine lX I (id) (by rw[hI];exact⟨0,g.acked,by simp,rfl,rfl,rfl⟩) ?_;intro kk ss hIk _;rw[hI]at hIk;obtain⟨i,la,hi,rfl,hx,rfl⟩:=hIk;refine au1 @hl ?_;intros;apply wr;refine AB rfl (fun hh=>?_) (fun hh=>?_)
 ·simp at hh;obtain⟨o,ho,hd,-,-⟩:=get_at hh;have hget:=Em ho;rw[hd,heldOk]at hx;refine au1 @hget ?_;intros;apply wr
  (refine au1 (kX2 @DN.eq_1 @hx) ?_;intros;apply wr)
  repeat' ((first|(refine AB rfl (fun h=>?_) (fun h=>?_)<;>(first|(simp[DN,hx]at h;done)|(simp[DN,hx]at h)|skip)<;>(first|(exfalso;omega)|skip))|refine cc1 (bV o) (kX2 @DN.eq_1 @hx) ?_|exact rt1 (kX2 @DN.eq_1 @hx)|fail)<;>(refine au1 (kX2 @DN.eq_1 @hx) ?_;intros;apply wr))
  exact aX (id) (by rw[hI];exact⟨i+1,o.at_,by omega,rfl,(by simpa[h]using hx),rfl⟩) (AA (n:=(i:Int)+1))
 simp at hh;rw[Cf hh,heldOk]at hx;refine au ?_;refine ar ?_;simp[DN,hx]
theorem Ti(g:GateD)(l:List OutD)(h1:g.held.length<=50000)(h2:l.length<=10000):AC prog 67 [.st g.row,.sl 4 false (outs l)] (.tup [.st (FO g l).1.row,.bool (FO g l).2]):=by
 have hl:=BA g.held;have hl2:=BA l;have hc:=PU (outs g.held) false 4 (.inl rfl) (by omega);have hv:=OI g;cases hg:DN g with
 | false =>
  rw[hg]at hv;refine sY func67 ntmps67 @hl ?_;exact wx1 (qX2 (hc) (hv)) trivial (kX2 @FO.eq_1 @hg)
 | true =>
  rw[hg]at hv;refine sY func67 ntmps67 @hl ?_;refine cX (hc) ?_;refine cX (hv) ?_;refine C3 ?_;refine cY (hc) @hl2 ?_;intros;apply wr;obtain⟨I,hI⟩:∃I:Nat->St->Prop,I=(fun kk ss=>∃(i:Nat)(x:GateD),i<=l.length/\kk=l.length-i/\(x=(l.take i).foldl D2 g/\x.acked=g.acked/\x.held.length<=50000+i)/\ss=⟨62,[(26,.int .i64 i),(25,.int .i64 l.length),(24,.sl 4 false (outs l)),(2,.ptr 0 3 0 0),(7,.ptr 5 3 0 0),(6,.ptr 2 3 0 0),(4,.ptr 1 3 0 0)],7,[(0,some ⟨51,3,true,false,[g.row]⟩),(1,some ⟨51,3,true,false,[[.sl 0 true [],lv 0,lv 0]]⟩),(2,some ⟨51,3,true,false,[[.own 3,lv g.acked,lv g.bytes]]⟩),(3,some ⟨124,4,false,false,outs g.held⟩),(5,some ⟨51,3,true,false,[[.own 6,lv x.acked,lv x.bytes]]⟩),(6,some ⟨124,4,false,false,outs x.held⟩)],0⟩):=⟨_,rfl⟩;refine lX I (id) (by rw[hI];exact⟨0,g,by simp,rfl,⟨rfl,rfl,by omega⟩,rfl⟩) ?_;intro kk ss hIk _;rw[hI]at hIk;obtain⟨i,x,hi,rfl,hx,rfl⟩:=hIk;obtain⟨hx1,hx2,hx3⟩:=hx;refine au1 @hl2 ?_;intros;apply wr;refine AB rfl (fun hh=>?_) (fun hh=>?_)
  ·simp at hh;obtain⟨o,ho,-,ht,-⟩:=get_at hh;have hget:=Em ho;have hnx:(l.take (i+1)).foldl D2 g=D2 x o:=by rw[ht,List.foldl_append,<- hx1];rfl
   have hlx:=BA x.held;refine au1 @hget ?_;intros;apply wr;by_cases hk:o.kind≠1/\o.kind≠2
   ·have hE:D2 x o=x:=by unfold D2;rw[if_pos hk]
    rw[hE]at hnx;obtain⟨k1,k2⟩:=hk
    (refine au1 (kX2 @k1 @k2) ?_;intros;apply wr)
    repeat' ((first|(refine AB rfl (fun h=>?_) (fun h=>?_)<;>(first|(simp[k1,k2]at h;done)|(simp[k1,k2]at h)|skip)<;>(first|(exfalso;omega)|skip))|exact rt1 (kX2 @k1 @k2)|fail)<;>(refine au1 (kX2 @k1 @k2) ?_;intros;apply wr))
    exact aX (id) (by rw[hI];exact⟨i+1,x,by omega,rfl,⟨hnx.symm,hx2,by omega⟩,rfl⟩) (AA (n:=(i:Int)+1))
   by_cases ha:g.acked<=o.at_
   ·have hE:D2 x o={x with held:=x.held++[o]}:=by unfold D2;rw[if_neg hk,hx2,if_pos ha]
    rw[hE]at hnx
    (refine au1 (kX3 @ha @hlx @maxLen.eq_1) ?_;intros;apply wr)
    repeat' ((first|(refine AB rfl (fun h=>?_) (fun h=>?_)<;>(first|(simp[ha,hlx,maxLen]at h;done)|(simp[ha,hlx,maxLen]at h)|skip)<;>(first|(exfalso;omega)|skip))|exact rt1 (kX3 @ha @hlx @maxLen.eq_1)|fail)<;>(refine au1 (kX3 @ha @hlx @maxLen.eq_1) ?_;intros;apply wr))
    exact aX (fun x=>if x=6 then 9 else x) (by rw[hI];exact⟨i+1,({x with held:=x.held++[o]}),by omega,rfl,⟨hnx.symm,hx2,by simp;omega⟩,rfl⟩) (kX3 (AA (n:=(i:Int)+1)) @Bc @XS)
   by_cases hb:o.kind=1
   ·have hE:D2 x o={x with bytes:=lw (x.bytes+1)}:=by unfold D2;rw[if_neg hk,hx2,if_neg ha,if_pos hb]
    rw[hE]at hnx
    (refine au1 (kX2 @ha @hb) ?_;intros;apply wr)
    repeat' ((first|(refine AB rfl (fun h=>?_) (fun h=>?_)<;>(first|(simp[ha,hb]at h;done)|(simp[ha,hb]at h)|skip)<;>(first|(exfalso;omega)|skip))|exact rt1 (kX2 @ha @hb)|fail)<;>(refine au1 (kX2 @ha @hb) ?_;intros;apply wr))
    exact aX (id) (by rw[hI];exact⟨i+1,({x with bytes:=lw (x.bytes+1)}),by omega,rfl,⟨hnx.symm,hx2,by simp;omega⟩,rfl⟩) (AA (n:=(i:Int)+1))
   have hE:D2 x o=x:=by unfold D2;rw[if_neg hk,hx2,if_neg ha,if_neg hb]
   rw[hE]at hnx;have hk2:o.kind=2:=by omega
   (refine au1 (kX2 @ha @hk2) ?_;intros;apply wr)
   repeat' ((first|(refine AB rfl (fun h=>?_) (fun h=>?_)<;>(first|(simp[ha,hk2]at h;done)|(simp[ha,hk2]at h)|skip)<;>(first|(exfalso;omega)|skip))|exact rt1 (kX2 @ha @hk2)|fail)<;>(refine au1 (kX2 @ha @hk2) ?_;intros;apply wr))
   exact aX (id) (by rw[hI];exact⟨i+1,x,by omega,rfl,⟨hnx.symm,hx2,by omega⟩,rfl⟩) (AA (n:=(i:Int)+1))
  simp at hh;rw[HD hh]at hx1;have hv2:=OI x;refine au ?_;exact wx1 (qX1 (hv2)) trivial (kX2 @FO.eq_1 @hg)
def NU(l:List (OutD×Int)):List (List V):=l.map fun p=>[iv p.1.kind,lv p.1.at_,uv p.1.block,.str p.1.data,lv p.2]
@[simp] theorem nil_rels:NU []=[]:=rfl
theorem QN(l:List (OutD×Int)):(NU l).length=l.length:=by simp[NU]
theorem Ib(a b:List (OutD×Int)):NU (a++b)=NU a++NU b:=by simp[NU]
theorem Ui(o:OutD)(k:Int):AC prog 107 [.st o.row,.iptr [lv k]] (.bool (decide (k<=o.at_))):=by
 refine sZ func107 ntmps107 ?_;exact wx trivial trivial
theorem dV(k:Int)(l:List OutD):(Kf k l).length<=l.length:=(List.takeWhile_sublist _).length_le
theorem NT(k:Int):∀l:List OutD,Kf k l=l.take (Kf k l).length
 | []=>rfl
 | o::l=>by
  unfold Kf at *;rw[List.takeWhile_cons];split
  ·rw[iO,List.take_succ_cons];exact congrArg _ (NT k l)
  rfl
theorem Wt(l:List OutD)(k:Int):AC prog 106 [.sl 4 false (outs l),.clo 107 [.iptr [lv k]]] (iv (if(Kf k l).length<l.length then((Kf k l).length:Int)else -1)):=by
 have hl:=BA l;refine AC.lens (by kernel_rfl) fun hlens=>?_;simp[OP,OQ,Gh,maxLen]at hlens;refine sY func106 ntmps106 @hl ?_;intros;apply wr;simp only[hl]at hlens;obtain⟨I,hI⟩:∃I:Nat->St->Prop,I=(fun kk ss=>∃(i:Nat),i<=l.length/\kk=l.length-i/\((Kf k l).length=i+(Kf k (l.drop i)).length)/\ss=⟨19,[(8,.int .i64 i),(7,.int .i64 l.length),(1,.clo 107 [.iptr [lv k]]),(0,.sl 4 false (outs l))],0,[],0⟩):=⟨_,rfl⟩;refine lX I (id) (by rw[hI];exact⟨0,by simp,rfl,by simp,rfl⟩) ?_;intro kk ss hIk _;rw[hI]at hIk;obtain⟨i,hi,rfl,hx,rfl⟩:=hIk;refine au1 @hl ?_;intros;apply wr;refine AB rfl (fun hh=>?_) (fun hh=>?_)
 ·simp at hh;obtain⟨o,ho,hd,-,-⟩:=get_at hh;have hget:=Em ho;rw[hd]at hx;have ht:Kf k (o::l.drop (i+1))=if o.at_<k then o::Kf k (l.drop (i+1))else []:=by
   unfold Kf;rw[List.takeWhile_cons];simp
  rw[ht]at hx;by_cases hk:k<=o.at_
  ·rw[nG]at hx;simp at hx;refine au1 (kX2 @hget @hl) ?_;exact wx1 (qX1 (Ui o k)) trivial (kX5 @hk @hget @hl @hx @hh)
  rw[nH]at hx;simp at hx;refine au1 (kX2 @hget @hl) ?_;intros;apply wr
  (refine au1 (kX3 @hk @hget @hl) ?_;intros;apply wr)
  repeat' ((first|(refine AB rfl (fun h=>?_) (fun h=>?_)<;>(first|(simp[hk,hget,hl]at h;done)|(simp[hk,hget,hl]at h)|skip)<;>(first|(exfalso;omega)|skip))|refine cc1 (Ui o k) (kX3 @hk @hget @hl) ?_|exact rt1 (kX3 @hk @hget @hl)|fail)<;>(refine au1 (kX3 @hk @hget @hl) ?_;intros;apply wr))
  exact aX (id) (by rw[hI];exact⟨i+1,by omega,rfl,by omega,rfl⟩) (AA (n:=(i:Int)+1))
 simp at hh;rw[Cf hh]at hx;have hn:¬(Kf k l).length<l.length:=by rw[hx];simp[Kf];omega
 refine au ?_;refine ar ?_;simp[hn]
theorem dB(l:List OutD)(n:Nat):(outs l).take n=outs (l.take n):=by simp[outs,List.map_take]
theorem dA(l:List OutD)(n:Nat):(outs l).drop n=outs (l.drop n):=by simp[outs,List.map_drop]
theorem EY(g:GateD)(k:Int)(h1:g.held.length<=50000):AC prog 52 [.st g.row,lv k] (.tup [.st (GL g k).1.row,.sl 5 false (NU (GL g k).2)]):=by
 have hl:=BA g.held;have hc:=PU (outs g.held) false 4 (.inl rfl) (by omega);have hv:=OI g;by_cases hg:DN g=true/\g.acked<k
 ·obtain⟨hg1,hg2⟩:=hg;have hE:GL g k=(⟨g.held.drop (Kf k g.held).length,k,(GM g.bytes (Kf k g.held)).1⟩,(GM g.bytes (Kf k g.held)).2):=by unfold GL;rw[if_pos ⟨hg1,hg2⟩]
  rw[hE,NT k g.held];have hi:=Wt g.held k;have hle:=dV k g.held;generalize (Kf k g.held).length=n at *;have hmin:min n g.held.length=n:=gY hle;rw[hg1]at hv;have hc2:=PU (outs (g.held.drop n)) false 4 (.inl rfl) (by rw[BA];simp;omega);have hlt:(g.held.take n).length=n:=by simp;omega
  obtain⟨L,hL⟩:∃L,L=g.held.take n:=⟨_,rfl⟩;rw[<- hL]at hlt ⊢;have hLl:=BA L;have htd:=dB g.held n;have hdd:=dA g.held n;rw[<- hL]at htd;have hg3:¬k<=g.acked:=by omega
  have hdl:(outs (g.held.drop n)).length=g.held.length-n:=by rw[BA,iE]
  have hdl2:(outs g.held).drop g.held.length=[]:=by rw[<- hl];exact List.drop_length
  have htl:(outs g.held).take g.held.length=outs g.held:=by rw[<- hl];exact List.take_length
  by_cases hn:n<g.held.length
  ·have hn0:¬(n:Int)<0:=by omega
   simp only[hn,if_true]at hi;refine sY func52 ntmps52 @hl ?_;refine cY (hv) @hg3 ?_;refine BU @hg3 ?_;refine cX (hi) ?_;refine EP @hn0 (kX6 @htd @hdd @hmin @hle @hl @htl) ?_;refine cY (hc2) (kX7 @htd @hdd @hmin @hle @hl @htl @hLl) ?_;intros;apply wr;refine AT 8 209 5 (by decide) rfl ?_;obtain⟨I,hI⟩:∃I:Nat->St->Prop,I=(fun kk ss=>∃(i:Nat)(b:Int)(acc:List (OutD×Int)),i<=L.length/\kk=L.length-i/\(GM g.bytes L=((GM b (L.drop i)).1,acc++(GM b (L.drop i)).2)/\acc.length<=i)/\ss=⟨71,[(49,.int .i64 i),(48,.int .i64 L.length),(47,.sl 4 false (outs L)),(6,.ptr 3 3 0 0),(4,.ptr 2 3 0 0),(8,.own 7)],8,[(3,some ⟨51,3,true,false,[[.own 6,lv k,lv b]]⟩),(2,some ⟨51,3,true,false,[[.sl 0 true [],lv 0,lv 0]]⟩),(6,some ⟨124,4,false,false,outs (g.held.drop n)⟩),(7,some ⟨209,5,false,false,NU acc⟩)],0⟩):=⟨_,rfl⟩;refine lX I (id) (by rw[hI];exact⟨0,g.bytes,[],by simp,rfl,⟨by simp,by simp⟩,rfl⟩) ?_;intro kk ss hIk _;rw[hI]at hIk;obtain⟨i,b,acc,hi,rfl,hx,rfl⟩:=hIk;obtain⟨hx1,hx2⟩:=hx;refine au1 @hLl ?_;intros;apply wr;refine AB rfl (fun hh=>?_) (fun hh=>?_)
   ·simp at hh;obtain⟨o,ho,hd,-,-⟩:=get_at hh;have hget:=Em ho;rw[hd]at hx1;have hla:=QN acc;have hLl3:L.length<=50000:=by omega
    by_cases hk:o.kind=1
    ·have hE:GM b (o::L.drop (i+1))=((GM (lw (b+1)) (L.drop (i+1))).1,(o,b)::(GM (lw (b+1)) (L.drop (i+1))).2):=by rw[GM,if_pos hk]
     rw[hE]at hx1;refine au1 @hget ?_;intros;apply wr
     (refine au1 (kX3 @hk @hla @maxLen.eq_1) ?_;intros;apply wr)
     repeat' ((first|(refine AB rfl (fun h=>?_) (fun h=>?_)<;>(first|(simp[hk,hla,maxLen]at h;done)|(simp[hk,hla,maxLen]at h)|skip)<;>(first|(exfalso;omega)|skip))|exact rt1 (kX3 @hk @hla @maxLen.eq_1)|fail)<;>(refine au1 (kX3 @hk @hla @maxLen.eq_1) ?_;intros;apply wr))
     exact aX (fun x=>if x=7 then 10 else x) (by rw[hI];exact⟨i+1,(lw (b+1)),(acc++[(o,b)]),by omega,rfl,⟨by simpa using hx1,by simp;omega⟩,rfl⟩) (kX4 (AA (n:=(i:Int)+1)) @Ib @NU.eq_1 @hk)
    have hE:GM b (o::L.drop (i+1))=((GM b (L.drop (i+1))).1,(o,0)::(GM b (L.drop (i+1))).2):=by rw[GM,if_neg hk]
    rw[hE]at hx1;refine au1 @hget ?_;intros;apply wr
    (refine au1 (kX3 @hk @hla @maxLen.eq_1) ?_;intros;apply wr)
    repeat' ((first|(refine AB rfl (fun h=>?_) (fun h=>?_)<;>(first|(simp[hk,hla,maxLen]at h;done)|(simp[hk,hla,maxLen]at h)|skip)<;>(first|(exfalso;omega)|skip))|exact rt1 (kX3 @hk @hla @maxLen.eq_1)|fail)<;>(refine au1 (kX3 @hk @hla @maxLen.eq_1) ?_;intros;apply wr))
    exact aX (fun x=>if x=7 then 10 else x) (by rw[hI];exact⟨i+1,b,(acc++[(o,0)]),by omega,rfl,⟨by simpa using hx1,by simp;omega⟩,rfl⟩) (kX4 (AA (n:=(i:Int)+1)) @Ib @NU.eq_1 @hk)
   simp at hh;rw[Cf hh]at hx1;refine au ?_;refine aw ?_;simp[hx1,GM,hlt]
  have hn2:n=g.held.length:=by omega
  simp only[hn,if_false]at hi;subst hn2;rw[List.take_length]at hL;subst hL;rw[List.drop_length]at hc2 ⊢;simp only[XM]at hc2 ⊢;refine sY func52 ntmps52 @hl ?_;refine cY (hv) @hg3 ?_;refine BU @hg3 ?_;refine cX (hi) ?_;refine IZ (kX3 @hl @htl @hdl2) ?_;refine cY (hc2) (kX4 @hl @htl @hdl2 @hLl) ?_;intros;apply wr;refine AT 8 209 5 (by decide) rfl ?_;obtain⟨I,hI⟩:∃I:Nat->St->Prop,I=(fun kk ss=>∃(i:Nat)(b:Int)(acc:List (OutD×Int)),i<=g.held.length/\kk=g.held.length-i/\(GM g.bytes g.held=((GM b (g.held.drop i)).1,acc++(GM b (g.held.drop i)).2)/\acc.length<=i)/\ss=⟨71,[(49,.int .i64 i),(48,.int .i64 g.held.length),(47,.sl 4 false (outs g.held)),(6,.ptr 3 3 0 0),(4,.ptr 2 3 0 0),(8,.own 7)],8,[(3,some ⟨51,3,true,false,[[.own 6,lv k,lv b]]⟩),(2,some ⟨51,3,true,false,[[.sl 0 true [],lv 0,lv 0]]⟩),(6,some ⟨124,4,false,false,[]⟩),(7,some ⟨209,5,false,false,NU acc⟩)],0⟩):=⟨_,rfl⟩;refine lX I (id) (by rw[hI];exact⟨0,g.bytes,[],by simp,rfl,⟨by simp,by simp⟩,rfl⟩) ?_;intro kk ss hIk _;rw[hI]at hIk;obtain⟨i,b,acc,hi,rfl,hx,rfl⟩:=hIk;obtain⟨hx1,hx2⟩:=hx;refine au1 @hLl ?_;intros;apply wr;refine AB rfl (fun hh=>?_) (fun hh=>?_)
  ·simp at hh;obtain⟨o,ho,hd,-,-⟩:=get_at hh;have hget:=Em ho;rw[hd]at hx1;have hla:=QN acc;have hLl3:g.held.length<=50000:=by omega
   by_cases hk:o.kind=1
   ·have hE:GM b (o::g.held.drop (i+1))=((GM (lw (b+1)) (g.held.drop (i+1))).1,(o,b)::(GM (lw (b+1)) (g.held.drop (i+1))).2):=by rw[GM,if_pos hk]
    rw[hE]at hx1;refine au1 @hget ?_;intros;apply wr
    (refine au1 (kX3 @hk @hla @maxLen.eq_1) ?_;intros;apply wr)
    repeat' ((first|(refine AB rfl (fun h=>?_) (fun h=>?_)<;>(first|(simp[hk,hla,maxLen]at h;done)|(simp[hk,hla,maxLen]at h)|skip)<;>(first|(exfalso;omega)|skip))|exact rt1 (kX3 @hk @hla @maxLen.eq_1)|fail)<;>(refine au1 (kX3 @hk @hla @maxLen.eq_1) ?_;intros;apply wr))
    exact aX (fun x=>if x=7 then 10 else x) (by rw[hI];exact⟨i+1,(lw (b+1)),(acc++[(o,b)]),by omega,rfl,⟨by simpa using hx1,by simp;omega⟩,rfl⟩) (kX4 (AA (n:=(i:Int)+1)) @Ib @NU.eq_1 @hk)
   have hE:GM b (o::g.held.drop (i+1))=((GM b (g.held.drop (i+1))).1,(o,0)::(GM b (g.held.drop (i+1))).2):=by rw[GM,if_neg hk]
   rw[hE]at hx1;refine au1 @hget ?_;intros;apply wr
   (refine au1 (kX3 @hk @hla @maxLen.eq_1) ?_;intros;apply wr)
   repeat' ((first|(refine AB rfl (fun h=>?_) (fun h=>?_)<;>(first|(simp[hk,hla,maxLen]at h;done)|(simp[hk,hla,maxLen]at h)|skip)<;>(first|(exfalso;omega)|skip))|exact rt1 (kX3 @hk @hla @maxLen.eq_1)|fail)<;>(refine au1 (kX3 @hk @hla @maxLen.eq_1) ?_;intros;apply wr))
   exact aX (fun x=>if x=7 then 10 else x) (by rw[hI];exact⟨i+1,b,(acc++[(o,0)]),by omega,rfl,⟨by simpa using hx1,by simp;omega⟩,rfl⟩) (kX4 (AA (n:=(i:Int)+1)) @Ib @NU.eq_1 @hk)
  simp at hh;rw[Cf hh]at hx1;refine au ?_;refine aw ?_;simp[hx1,GM,hl]
 have hE:GL g k=(g,[]):=by unfold GL;rw[if_neg hg]
 rw[hE];cases hg1:DN g with
 | true =>
  rw[hg1]at hv;have hg2:¬g.acked<k:=fun z=>hg ⟨hg1,z⟩;refine sY func52 ntmps52 @hl ?_;exact wx1 (qX2 (hc) (hv)) trivial @hg2
 | false =>
  rw[hg1]at hv;refine sY func52 ntmps52 @hl ?_;exact wx (qX2 (hc) (hv)) trivial
theorem or128f:∀k:Fin 256,ior .u8 (k.val:Int) 128=(k.val:Int)%128+128:=by decide +kernel
theorem or128(x:Int):ior .u8 (IntKind.u8.wrap x) 128=x%128+128:=by
 have e:IntKind.u8.wrap x=x%256:=by rw[IntKind.wrap_u8]
 have h:=or128f ⟨(x%256).toNat,by omega⟩;simp only at h;rw[show(((x%256).toNat:Nat):Int)=x%256 by omega]at h;rw[e,h];omega
theorem NA{k:Nat}(h:k<256):((UInt8.ofNat k).toNat:Int)=k:=by rw[UInt8.toNat_ofNat'];omega
theorem HQ(a:Str)(b:UInt8):AM a++[[V.int .u8 (b.toNat:Int)]]=AM (a++[b]):=by simp[AM]
theorem Kb{k n:Nat}(h:n<128):No k n=[UInt8.ofNat n]:=by cases k<;>simp[No,h]
theorem QG:∀k n:Nat,(No k n).length<=k+1
 | 0,n=>by simp[No]
 | k+1,n=>by unfold No;split<;>simp;exact QG k _
theorem Ae(n:Int):(BG n).length<=11:=QG _ _
theorem fd128(x:Int):x.fdiv 128=x/128:=gU _ (by decide)
theorem fdsh7(x:Int):x.fdiv (2^min 7 IntKind.u64.bits)=x/128:=fd128 x
theorem FV(n:Int)(h:L64 n):AC prog 76 [lv n] (.str (BG n)):=by
 refine sX func76 ntmps76 ?_;intros;apply wr;refine AT 3 5 1 (by decide) rfl ?_;obtain⟨I,hI⟩:∃I:Nat->St->Prop,I=(fun kk ss=>∃(i:Nat)(x:Int)(out:Str),i<=10/\kk=10-i/\(out++No (10-i) x.toNat=BG n/\0<=x/\x.toNat<2^(70-7*i)/\out.length<=i)/\ss=⟨20,[(0,lv x),(3,.own 0)],1,[(0,some ⟨5,1,false,false,AM out⟩)],0⟩):=⟨_,rfl⟩;refine lX I (id) (by rw[hI];exact⟨0,n,[],by simp,rfl,⟨rfl,h.1,by have:=h.2;simp;omega,by simp⟩,rfl⟩) ?_;intro kk ss hIk _;rw[hI]at hIk;obtain⟨i,x,out,hi,rfl,hx,rfl⟩:=hIk;obtain⟨hx1,hx2,hx3,hx4⟩:=hx;refine au ?_;intros;apply wr;have hbl:(AM out).length=out.length:=by simp[AM]
 have hi10:out.length<=10:=by omega
 refine AB rfl (fun hh=>?_) (fun hh=>?_)
 ·simp at hh;have hlt:i<10:=by
   rcases Nat.lt_or_ge i 10 with q|q
   ·exact q
   rw[show 70-7*i=0 by omega]at hx3;omega
  have hst:No (10-i) x.toNat=UInt8.ofNat (x.toNat%128+128)::No (10-(i+1)) (x.toNat/128):=by
   rw[show 10-i=(10-(i+1))+1 by omega,No,nG]
  rw[hst]at hx1;have hb:x%128+128=((UInt8.ofNat (x.toNat%128+128)).toNat:Int):=by rw[NA (by omega)];omega
  have hpow:x.toNat/128<2^(70-7*(i+1)):=by
   rw[Nat.div_lt_iff_lt_mul (by decide),show(128:Nat)=2^7 from rfl,<- Nat.pow_add,show 70-7*(i+1)+7=70-7*i by omega];exact hx3
  have hdv:(x/128).toNat=x.toNat/128:=by omega
  generalize UInt8.ofNat (x.toNat%128+128)=b at *;refine au1 (kX6 @or128 @hb @hbl @fd128 @maxLen.eq_1 @HQ) ?_;intros;apply wr;exact aX (fun x=>if x=0 then 2 else x) (by rw[hI];exact⟨i+1,(x/128),(out++[b]),by omega,rfl,⟨by rw[hdv];simpa using hx1,by omega,by rw[hdv];exact hpow,by simp;omega⟩,rfl⟩) (kX3 (AA (n:=(i:Int)+1)) @HQ @fdsh7)
 simp at hh;rw[Kb (by omega)]at hx1;have hb:IntKind.u8.wrap x=((UInt8.ofNat x.toNat).toNat:Int):=by rw[NA (by omega),IntKind.wrap_u8];omega
 generalize UInt8.ofNat x.toNat=b at *;have hB:=Dk (BG n);have hS:=Dl (BG n);refine au1 (kX7 @hb @hbl @maxLen.eq_1 @HQ @hx1 @hB @hS) ?_;refine ar ?_;simp[hx1,hB,hS]
theorem IW(e:EvD):AC prog 109 [.st e.row] (.bool (evVal e)):=by
 refine sZ func109 ntmps109 ?_;exact wx1 trivial trivial @evVal.eq_1
theorem Wa(e:EvD)(hk:L64 e.kind)(hn:W32 e.n)(hd:e.data.length<=1000000):AC prog 253 [.st e.row] (.str (Ef e)):=by
 have w1:IntKind.u64.wrap e.kind=e.kind:=u64_in hk.1 hk.2;have w2:IntKind.u64.wrap e.n=e.n:=u64_in hn.1 (by have:=hn.2;omega);have w3:IntKind.u64.wrap (e.data.length:Int)=e.data.length:=u64_in;have p1:=Ae e.kind;have p2:=Ae e.n;have p3:=Ae (e.data.length:Int);refine sZ func253 ntmps253 ?_
 (refine af1 (kX4 @w1 @w2 @w3 @Ef.eq_1) ?_;intros;apply wr)
 repeat' ((first|(refine AB rfl (fun h=>?_) (fun h=>?_)<;>(first|(simp[w1,w2,w3,Ef]at h;done)|(simp[w1,w2,w3,Ef]at h)|skip)<;>(first|(exfalso;omega)|skip))|refine cc1 (FV e.kind hk) (kX4 @w1 @w2 @w3 @Ef.eq_1) ?_|refine cc1 (FV e.n ⟨hn.1,by have:=hn.2;omega⟩) (kX4 @w1 @w2 @w3 @Ef.eq_1) ?_|refine cc1 (FV e.data.length ⟨by omega,by omega⟩) (kX4 @w1 @w2 @w3 @Ef.eq_1) ?_|(refine AD 9 [0,1,3,7,15,0,32,127,255] [(7,([[],[0],[0,1],[0,1,2],[0,1,2,3],[],[5]],[(6,4)])),(1,([],[])),(1,([],[]))] ?_)|exact rt1 (kX4 @w1 @w2 @w3 @Ef.eq_1)|fail)<;>(refine af1 (kX4 @w1 @w2 @w3 @Ef.eq_1) ?_;intros;apply wr))
theorem ZT(l:List EntD):AC prog 196 [Bo l] (.bool (ordD l)):=by
 have hl:=Ay l;refine AC.lens (by kernel_rfl) fun hlens=>?_;simp[OP,OQ,Gh,maxLen]at hlens;refine sX func196 ntmps196 ?_;intros;apply wr;simp only[hl]at hlens;obtain⟨I,hI⟩:∃I:Nat->St->Prop,I=(fun kk ss=>∃(i:Nat),i<=l.length/\kk=l.length-i/\(ordD l=ordD (l.drop i))/\ss=⟨39,[(3,.int .i64 (i+1)),(0,Bo l)],0,[],0⟩):=⟨_,rfl⟩;refine lX I (id) (by rw[hI];exact⟨0,by simp,rfl,rfl,rfl⟩) ?_;intro kk ss hIk _;rw[hI]at hIk;obtain⟨i,hi,rfl,hx,rfl⟩:=hIk;refine au1 @hl ?_;intros;apply wr;refine AB rfl (fun hh=>?_) (fun hh=>?_)
 ·simp at hh;obtain⟨a,ha,hd,-,-⟩:=get_at (show i<l.length by omega);obtain⟨b,hb,hd2,-,-⟩:=get_at (show i+1<l.length by omega);have hga:=B7 ha;have hgb:=B7 hb;have hw:IntKind.i64.wrap ((i:Int)+1+1)=(i:Int)+1+1:=AA;rw[hd,hd2,ordD,<- hd2]at hx;have hwi:IntKind.i64.wrap (i:Int)=i:=AA;refine au1 (kX4 @hga @hgb @hl @hwi) ?_;intros;apply wr
  (refine af1 (kX5 @hga @hgb @hl @hwi @hx) ?_;intros;apply wr)
  repeat' ((first|(refine AB rfl (fun h=>?_) (fun h=>?_)<;>(first|(simp[hga,hgb,hl,hwi,hx]at h;done)|(simp[hga,hgb,hl,hwi,hx]at h)|skip)<;>(first|(exfalso;omega)|skip))|(refine BH (.node 9 10 (.leaf [0,1,2,3,4,5,6,7,8,9,10,11,12] (bN [0,0,2,7,15,0,0,96,224,0,512,1567,4095]) [(12,([[],[],[1],[0,1,2],[0,1,2,3],[],[],[5,6],[5,6,7],[],[9],[0,1,2,3,4,9,10]],[(3,9),(3,10),(4,9),(4,10),(7,9),(7,10),(7,11),(8,9),(8,10),(8,11)])),(1,([],[]))]) (.leaf [0,1,2,3,4,5,6,7,8,10,9,11,12] (bN [0,0,2,7,15,0,0,96,224,0,512,1567,4095]) [(12,([[],[],[1],[0,1,2],[0,1,2,3],[],[],[5,6],[5,6,7],[],[9],[0,1,2,3,4,9,10]],[(3,9),(3,10),(4,9),(4,10),(7,9),(7,10),(7,11),(8,9),(8,10),(8,11)])),(1,([],[]))])) (by kernel_rfl) (by kernel_rfl) ?_;simp only[PT.run];repeat' (with_reducible apply And.intro);all_goals (simp only[CE,iI,List.map_nil,iC,iK]))|exact rt1 (kX5 @hga @hgb @hl @hwi @hx)|fail)<;>(refine af1 (kX5 @hga @hgb @hl @hwi @hx) ?_;intros;apply wr))
  all_goals ((exact aX (id) (by rw[hI];exact⟨i+1,by omega,rfl,(by rw[hx];grind),rfl⟩) (kX2 (AA (n:=(i:Int)+1)) @hw)))
 simp at hh;have hx2:ordD l=true:=by
  rw[hx];rcases Nat.lt_or_ge i l.length with q|q
  ·obtain⟨a,ha,hd,-,-⟩:=get_at q;rw[hd,Cf (by omega)];rfl
  rw[Cf q];rfl
 refine au ?_;refine ar ?_;simp[hx2]
theorem KE(o:EntD)(k:Int):AC prog 251 [.st o.row,.iptr [lv k]] (.bool (decide (k<o.at_))):=by
 refine sZ func251 ntmps251 ?_;exact wx trivial trivial
theorem To(l:List EntD)(k:Int):∃n:Int,(0<=n↔DY l k=true)/\AC prog 313 [Bo l,.clo 251 [.iptr [lv k]]] (iv n):=by
 refine⟨match l.findIdx? (fun e=>decide (k<e.at_))with|some j=>j|none=>-1,?_,?_⟩
 ·cases q:l.findIdx? (fun e=>decide (k<e.at_))with
  | none=>simp[DY];intro x hx;have:=List.findIdx?_eq_none_iff.1 q x hx;simpa using this
  | some j =>
   simp[DY];obtain⟨h1,h2⟩:=List.findIdx?_eq_some_iff_getElem.1 q;exact⟨l[j],List.getElem_mem h1,by simpa using h2.1⟩
 have hl:=Ay l;refine AC.lens (by kernel_rfl) fun hlens=>?_;simp[OP,OQ,Gh,maxLen]at hlens;refine sY func313 ntmps313 @hl ?_;intros;apply wr;simp only[hl]at hlens;obtain⟨I,hI⟩:∃I:Nat->St->Prop,I=(fun kk ss=>∃(i:Nat),i<=l.length/\kk=l.length-i/\(l.findIdx? (fun e=>decide (k<e.at_))=((l.drop i).findIdx? (fun e=>decide (k<e.at_))).map (·+i))/\ss=⟨19,[(8,.int .i64 i),(7,.int .i64 l.length),(1,.clo 251 [.iptr [lv k]]),(0,Bo l)],0,[],0⟩):=⟨_,rfl⟩;refine lX I (id) (by rw[hI];exact⟨0,by simp,rfl,by simp,rfl⟩) ?_;intro kk ss hIk _;rw[hI]at hIk;obtain⟨i,hi,rfl,hx,rfl⟩:=hIk;refine au1 @hl ?_;intros;apply wr;refine AB rfl (fun hh=>?_) (fun hh=>?_)
 ·simp at hh;obtain⟨o,ho,hd,-,-⟩:=get_at hh;have hget:=B7 ho;rw[hd,List.findIdx?_cons]at hx;by_cases hk:k<o.at_
  ·simp[hk]at hx;refine au1 (kX2 @hget @hl) ?_;exact wx1 (qX1 (KE o k)) trivial (kX5 @hk @hget @hl @hx @hh)
  simp[hk]at hx;refine au1 (kX2 @hget @hl) ?_;intros;apply wr
  (refine au1 (kX3 @hk @hget @hl) ?_;intros;apply wr)
  repeat' ((first|(refine AB rfl (fun h=>?_) (fun h=>?_)<;>(first|(simp[hk,hget,hl]at h;done)|(simp[hk,hget,hl]at h)|skip)<;>(first|(exfalso;omega)|skip))|refine cc1 (KE o k) (kX3 @hk @hget @hl) ?_|exact rt1 (kX3 @hk @hget @hl)|fail)<;>(refine au1 (kX3 @hk @hget @hl) ?_;intros;apply wr))
  exact aX (id) (by rw[hI];exact⟨i+1,by omega,rfl,(by rw[hx];cases (l.drop (i+1)).findIdx? (fun e=>decide (k<e.at_))<;>simp<;>omega),rfl⟩) (AA (n:=(i:Int)+1))
 simp at hh;rw[Cf hh]at hx;have hx2:=hx.trans (show _=none by simp);refine au ?_;intros;apply wr;refine ar ?_;rw[hx2];simp
theorem MJ(l:List EntD)(k:Int):AC prog 182 [Bo l,lv k] (.bool (DY l k)):=by
 obtain⟨n,hn,hi⟩:=To l k;have hc:AC prog 250 [Bo l,.clo 251 [.iptr [lv k]]] (.bool (DY l k)):=by
  have hb:decide (0<=n)=DY l k:=by cases q:DY l k<;>simp[q]at hn ⊢<;>omega
  refine sZ func250 ntmps250 ?_;exact wx1 (qX1 (hi)) trivial @hb
 refine sZ func182 ntmps182 ?_;exact wx (qX1 (hc)) trivial
theorem Ya{e:EvD}(h:evVal e=true):1<=e.kind/\e.kind<=6:=by
 unfold evVal at h
 (repeat' split at h)<;>first|omega|(simp at h)
theorem Qi{e:EvD}(h:evVal e=true):e.data.length<=128:=by
 unfold evVal at h
 (repeat' split at h)<;>simp at h<;>first|omega|(rcases h with h|h<;>simp[h])|(simp[h])|(simp[h.2])
theorem M6{e:EvD}(h:evVal e=true):(Ef e).length<=200:=by
 have p1:=Ae e.kind;have p2:=Ae e.n;have p3:=Ae (e.data.length:Int);have p4:=Qi h;unfold Ef
 (repeat' split)<;>simp<;>omega
theorem I0{l:List EntD}{from_ k:Int}(h:Dx l from_=k)(hk:k≠0):Ly l from_=([],k):=by unfold Ly;rw[h,if_neg hk]
theorem RV{l:List EntD}{from_:Int}(h:¬400<l.length)(ha:l.all (fun e=>evVal e.ev)=false):Dx l from_=1900:=by unfold Dx;rw[if_neg h,if_pos ha]
theorem RX{l:List EntD}{from_:Int}(h:¬400<l.length)(ha:l.all (fun e=>evVal e.ev)=true)(ho:ordD l=false\/firstOk from_ l=false):Dx l from_=1901:=by unfold Dx;rw[if_neg h,if_neg (by simp[ha]),if_pos ho]
theorem K4{l:List EntD}{from_:Int}(h:¬400<l.length)(ha:l.all (fun e=>evVal e.ev)=true)(ho:¬(ordD l=false\/firstOk from_ l=false)):Dx l from_=if 65536<(BG l.length++Dt from_ l).length then 1902 else 0:=by unfold Dx;rw[if_neg h,if_neg (by simp[ha]),if_neg ho]
theorem Py{a:EntD}{r:List EntD}(h:ordD (a::r)=true):firstOk a.at_ r=true/\ordD r=true:=by
 cases r with
 | nil=>exact⟨rfl,rfl⟩
 | cons b r =>
  rw[ordD]at h;simp at h;exact⟨by simp[firstOk];omega,h.2⟩
theorem TF(l:List EntD)(from_:Int)(hf:L64 from_)(hE:∀e∈l,OkT e)(hb:l.length<=100000):AC prog 183 [Bo l,lv from_] (.tup [.str (Ly l from_).1,iv (Ly l from_).2]):=by
 have hl:=Ay l;by_cases h400:400<l.length
 ·have hR:Ly l from_=([],1902):=I0 (by unfold Dx;rw[if_pos h400]) (by decide);rw[hR];have h4:(400:Int)<l.length:=by omega
  refine sZ func183 ntmps183 ?_;exact wx1 trivial trivial (kX2 @hl @h4)
 have h4:¬(400:Int)<l.length:=by omega
 refine sY func183 ntmps183 (kX2 @hl @h4) ?_;refine EP @h4 @hl ?_;(repeat intro K hK);apply wr;obtain⟨I,hI⟩:∃I:Nat->St->Prop,I=(fun kk ss=>∃(i:Nat),i<=l.length/\kk=l.length-i/\(l.all (fun e=>evVal e.ev)=(l.drop i).all (fun e=>evVal e.ev))/\ss=⟨68,[(16,.int .i64 i),(15,.int .i64 l.length),(14,Bo l),(0,Bo l),(1,lv from_)],0,[],0⟩):=⟨_,rfl⟩;refine lX I (id) (by rw[hI];exact⟨0,by simp,rfl,rfl,rfl⟩) ?_;intro kk ss hIk _;rw[hI]at hIk;obtain⟨i,hi,rfl,hx,rfl⟩:=hIk;refine au1 @hl ?_;(repeat intro K hK);apply wr;refine AB rfl (fun hh=>?_) (fun hh=>?_)
 ·simp at hh;obtain⟨o,ho,hd,-,-⟩:=get_at hh;have hget:=B7 ho;rw[hd,List.all_cons]at hx;refine au1 @hget ?_;(repeat intro K hK);apply wr;cases hv:evVal o.ev with
  | false =>
   have hR:Ly l from_=([],1900):=I0 (RV h400 (by rw[hx,hv];rfl)) (by decide);rw[hR];exact wx1 (qX1 (IW o.ev)) trivial @hv
  | true =>
   rw[hv,Bool.true_and]at hx
   (refine au1 @hv ?_;(repeat intro K hK);apply wr)
   repeat' ((first|(refine AB rfl (fun h=>?_) (fun h=>?_)<;>(first|(simp[hv]at h;done)|(simp[hv]at h)|skip)<;>(first|(exfalso;omega)|skip))|refine cc1 (IW o.ev) @hv ?_|exact rt1 @hv|fail)<;>(refine au1 @hv ?_;(repeat intro K hK);apply wr))
   exact aX (id) (by rw[hI];exact⟨i+1,by omega,rfl,hx,rfl⟩) (AA (n:=(i:Int)+1))
 simp at hh;rw[Cf hh]at hx;have hall:l.all (fun e=>evVal e.ev)=true:=hx.trans rfl;have ho:=ZT l;refine au ?_;(repeat intro K hK);apply wr;by_cases hor:ordD l=false\/firstOk from_ l=false
 ·have hR:Ly l from_=([],1901):=I0 (RX h400 hall hor) (by decide);rw[hR];have hne:l≠[]:=by rintro rfl;rcases hor with q|q<;>cases q
  obtain⟨a,r,rfl⟩:∃a r,l=a::r:=by cases l with|nil=>exact absurd rfl hne|cons a r=>exact⟨a,r,rfl⟩
  have hg0:(ents (a::r))[0]? =some a.row:=rfl;have hpos:0<(ents (a::r)).length:=by rw[hl];simp
  simp only[firstOk]at hor;refine cc1 (ho) (kX3 @hpos @hg0 (Nn hg0)) ?_;refine au ?_;have hct:(!ordD (a::r)||decide (a.at_<from_))=true:=by rcases hor with q|q<;>(try simp at q)<;>simp[q]
  refine ED @hct ?_;refine ar ?_;simp[hR]
 have hR:=K4 h400 hall hor;have hor1:ordD l=true:=by simpa using(fun z=>hor (.inl z))
 have hfo:firstOk from_ l=true:=by simpa using(fun z=>hor (.inr z))
 rw[hor1]at ho;refine Cc (α:=Unit) (fun _=>(⟨68,[(40,.bool false),(0,Bo l),(1,lv from_)],1,[],0⟩:St)) (fun _=>True) hK (fun _ hxhJ=>?_) (fun hJ=>?_);all_goals clear hK
 ·refine cF0 rfl ?_;have w1:IntKind.u64.wrap (l.length:Int)=l.length:=u64_in;refine au1 (kX2 @hl @w1) ?_;refine cc (FV l.length ⟨by omega,by omega⟩) ?_;(repeat intro K hK)
  refine cO ?_;refine(Yg 1 (BG l.length) (by simp[lookO]) (by decide) (by have:=Ae (l.length:Int);omega)).mono fun r nx' ob' hp=>?_;simp only[BX];obtain⟨rfl,k1,hk,hkn,hkb,hki,hko⟩:=hp;simp;refine au1 @hl ?_;(repeat intro K hK);apply wr;clear hko;obtain⟨I,hI⟩:∃I:Nat->St->Prop,I=(fun kk ss=>∃(i:Nat)(fr:Int)(s:Str),i<=l.length/\kk=l.length-i/\(BG l.length++Dt from_ l=s++Dt fr (l.drop i)/\L64 fr/\s.length<=11+250*i/\firstOk fr (l.drop i)=true/\ordD (l.drop i)=true)/\ss=⟨68,[(48,.int .i64 i),(47,.int .i64 l.length),(46,Bo l),(8,.ptr 1 2 0 0),(1,lv fr)],3,[(1,some (WS (.ptr 1 2 0 0) (.own 2))),(2,some (bufO s))],0⟩):=⟨_,rfl⟩;refine lX1 I (fun x=>if x=2 then k1 else x) (by rw[hI];exact⟨0,from_,(BG l.length),by simp,rfl,⟨rfl,hf,Ae _,hfo,hor1⟩,rfl⟩) (kX2 @hki @hkb) ?_;intro kk ss hIk _;rw[hI]at hIk;obtain⟨i,fr,s,hi,rfl,hx,rfl⟩:=hIk;obtain⟨hx1,hx2,hx3,hx4,hx5⟩:=hx;refine au ?_;(repeat intro K hK);apply wr;refine AB rfl (fun hh2=>?_) (fun hh2=>?_)
  ·simp at hh2;obtain⟨o,ho,hd,-,hmem⟩:=get_at hh2;have hget:=B7 ho;obtain⟨hoa,hon⟩:=hE o hmem;rw[hd]at hx1 hx4 hx5;obtain⟨hf2,ho2⟩:=Py hx5;have hle:fr<=o.at_:=by simpa[firstOk]using hx4
   have hv:evVal o.ev=true:=List.all_eq_true.1 hall o hmem;have hk:=Ya hv;have hdt:=Qi hv;have hw:IntKind.u64.wrap (o.at_-fr)=o.at_-fr:=u64_in (by omega) (by have:=hoa.2;have:=hx2.1;omega);have hp1:=Ae (o.at_-fr);have hp2:=M6 hv;refine au1 (kX2 @hget @hw) ?_;refine cc (FV (o.at_-fr) ⟨by omega,by have:=hoa.2;have:=hx2.1;omega⟩) ?_;(repeat intro K hK)
   refine cO ?_;refine(Vl 1 2 (.ptr 1 2 0 0) s (BG (o.at_-fr)) (by simp[lookO]) (by simp[lookO]) (.inr rfl) (by decide) (by decide) (by decide) (by omega)).mono fun r nx' ob' hp=>?_;simp only[BX];obtain⟨rfl,k2,g0,g1,g2,g3,g4⟩:=hp;have g5:=g4 3 (by decide) (by decide) (by decide);simp[lookO]at g5;simp;refine au1 @g5 ?_;refine cc (Wa o.ev ⟨by omega,by omega⟩ hon (by omega)) ?_;(repeat intro K hK)
   refine cO ?_;refine(Vl 1 k2 (.ptr 1 2 0 0) (s++BG (o.at_-fr)) (Ef o.ev) g3 g2 (.inr rfl) (by omega) (by omega) (by omega) (by simp;omega)).mono fun r nx' ob' hp=>?_;simp only[BX];obtain⟨rfl,k3,j0,j1,j2,j3,j4⟩:=hp;simp;refine au ?_;(repeat intro K hK);apply wr;exact aX (fun x=>if x=2 then k3 else x) (by rw[hI];exact⟨i+1,o.at_,(s++BG (o.at_-fr)++Ef o.ev),by omega,rfl,⟨by rw[hx1,Dt];simp,hoa,by simp;omega,hf2,ho2⟩,rfl⟩) (kX3 (AA (n:=(i:Int)+1)) @j3 @j2)
  simp at hh2;rw[Cf hh2,Dt,iU]at hx1;rw[hx1]at hR;refine au ?_;(repeat intro K hK);apply wr;refine cO ?_;refine(aD 1 2 (.ptr 1 2 0 0) s (by simp[lookO]) (by simp[lookO])).mono fun r nx' ob' hp=>?_;simp only[BX];obtain⟨rfl,rfl,rfl⟩:=hp;simp;refine au ?_;(repeat intro K hK);apply wr;by_cases hs:65536<s.length
  ·rw[if_pos hs]at hR;rw[I0 hR (by decide)];exact wx1 trivial trivial @hs
  rw[if_neg hs]at hR;have hE2:Ly l from_=(s,0):=by unfold Ly;rw[if_pos hR,hx1]
  rw[hE2];have hs2:¬(65536:Int)<s.length:=by omega
  refine BU @hs2 ?_;(repeat intro K hK);apply wr;refine cO ?_;refine(aE 1 2 (.ptr 1 2 0 0) s (by simp[lookO]) (by simp[lookO])).mono fun r nx' ob' hp=>?_;simp only[BX];obtain rfl:=hp;simp;refine au ?_;refine ar ?_;simp[hE2]
 rcases Nat.eq_zero_or_pos (ents l).length with hz|hpos
 ·refine cc1 (ho) @hz ?_;refine hJ () _ (id) (trivial) ⟨rfl,?_,?_,?_,by simp⟩
  ·simp[leT,ltV,lt1,ren,BE]
  ·simp[leO,lt1,BE]
  (simp;try omega)
 obtain⟨a,ha0,-,-,-⟩:=get_at (show 0<l.length by omega);have hg0:=B7 ha0;have hfa:¬a.at_<from_:=by cases l with|nil=>cases ha0|cons b r=>cases ha0;simpa[firstOk]using hfo
 refine cc1 (ho) (kX4 @hpos @hg0 (Nn hg0) @hfa) ?_;refine hJ () _ (id) (trivial) ⟨rfl,?_,?_,?_,by simp⟩
 ·simp[leT,ltV,lt1,ren,BE]
 ·simp[leO,lt1,BE]
 (simp;try omega)
structure OkG(g:SegD):Prop where
 f:L64 g.from_
 k:L64 g.known
 e:∀e∈g.ents,OkT e
 n:g.ents.length<=50000
theorem JA(g:SegD)(h:OkG g):AC prog 123 [.st g.row] (.tup [.str (Ai g).1,iv (Ai g).2]):=by
 have hb:=MJ g.ents g.known;have he:=TF g.ents g.from_ h.f h.e (by have:=h.n;omega);have hxd:Ai g=if(decide (g.known<g.from_)||DY g.ents g.known)=true then([],2400)else Ly g.ents g.from_:=by unfold Ai;simp
 rw[hxd];refine sX func123 ntmps123 ?_;refine cX (hb) ?_;intros;apply wr;refine AB rfl (fun hx=>?_) (fun hx=>?_)
 ·rw[if_pos hx];exact wx trivial trivial
 rw[if_neg (by simp[hx])];exact wx (qX1 (he)) trivial
theorem aZ(g:SegD)(h:OkG g):AC prog 127 [.st g.row] (.bool (En g)):=by
 refine sZ func127 ntmps127 ?_;exact wx1 (qX1 (JA g h)) trivial @En.eq_1
theorem MS(g:SegD)(h:g.ents.length<=100000):AC prog 124 [.st g.row] (.st g.row):=by
 refine sZ func124 ntmps124 ?_;exact wx (qX1 (G6 (ents g.ents) false 4 (.inl rfl) (by rw[Ay];exact h))) trivial
theorem Fz(s:SndD)(h:∀g∈s.queue,OkG g):AC prog 72 [.st s.row] (.bool (CH s)):=by
 have hl:=Df s.queue;by_cases h0:s.base<1\/4611686018427387904<s.base\/8<s.queue.length
 ·have hE:CH s=false:=by unfold CH;rw[if_pos h0]
  rw[hE];have h1:s.base<1\/4611686018427387904<s.base\/(8:Int)<s.queue.length:=by omega
  refine sY func72 ntmps72 @hl ?_;have h2:(decide (s.base<1)||decide (4611686018427387904<s.base)||decide ((8:Int)<s.queue.length))=true:=by simpa[or_assoc]using h1
  refine ED @h2 ?_;refine ar ?_;simp[hE]
 obtain⟨b1,b2,b3⟩:¬s.base<1/\¬4611686018427387904<s.base/\¬(8:Int)<s.queue.length:=by omega
 cases hq:s.queue with
 | nil =>
  have hE:CH s=decide (s.known<=s.tail):=by unfold CH;rw[if_neg h0];simp only[hq]
  have hz:(s.queue.length:Int)=0:=by rw[hq];rfl
  rw[hE];refine sZ func72 ntmps72 ?_
  (refine af1 (kX5 @hl @b1 @b2 @b3 @hz) ?_;intros;apply wr)
  repeat' ((first|(refine AB rfl (fun h=>?_) (fun h=>?_)<;>(first|(simp[hl,b1,b2,b3,hz]at h;done)|(simp[hl,b1,b2,b3,hz]at h)|skip)<;>(first|(exfalso;omega)|skip))|(refine AD 8 [0,1,3,7,15,0,32,127] [(7,([[],[0],[0,1],[0,1,2],[0,1,2,3],[],[5]],[])),(1,([],[]))] ?_)|exact rt1 (kX5 @hl @b1 @b2 @b3 @hz)|fail)<;>(refine af1 (kX5 @hl @b1 @b2 @b3 @hz) ?_;intros;apply wr))
 | cons g0 q =>
  have hE:CH s=(decide (s.known<=g0.from_)&&chainOk g0.from_ s.queue&&decide (s.tail=lastAt g0.from_ s.queue)):=by unfold CH;rw[if_neg h0];simp only[hq]
  have hg0:=HA (show s.queue[0]? =some g0 by rw[hq];rfl);have hpos:0<s.queue.length:=by rw[hq];simp
  have hz:¬(s.queue.length:Int)=0:=by omega
  have hne:¬s.queue=[]:=by rw[hq];simp
  clear hq;rw[hE];refine sY func72 ntmps72 (kX4 @hl @b1 @b2 @b3) ?_;refine EG @hl ?_;refine EP @hne (kX4 @hl @hpos @hg0 (Nn hg0)) ?_;intros;apply wr;refine AD 8 [0,1,3,7,15,0,32,127] [(7,([[],[0],[0,1],[0,1,2],[0,1,2,3],[],[5]],[])),(1,([],[]))] ?_;refine af1 (kX4 @hl @hpos @hg0 (Nn hg0)) ?_;intros;apply wr;by_cases hk:g0.from_<s.known
  ·have hn:¬s.known<=g0.from_:=by omega
   refine Ei @hk ?_;refine ar ?_;simp[hn]
  have hn:s.known<=g0.from_:=by omega
  refine Cw @hk (kX4 @hl @hpos @hg0 (Nn hg0)) ?_;intros;apply wr;obtain⟨I,hI⟩:∃I:Nat->St->Prop,I=(fun kk ss=>∃(i:Nat)(a:Int),i<=s.queue.length/\kk=s.queue.length-i/\(chainOk g0.from_ s.queue=chainOk a (s.queue.drop i)/\lastAt g0.from_ s.queue=lastAt a (s.queue.drop i))/\ss=⟨65,[(45,.int .i64 i),(44,.int .i64 s.queue.length),(43,.sl 3 false (segs s.queue)),(1,.ptr 0 4 0 0),(3,lv a)],1,[(0,some ⟨54,4,true,false,[s.row]⟩)],0⟩):=⟨_,rfl⟩;refine lX I (id) (by rw[hI];exact⟨0,g0.from_,by simp,rfl,⟨rfl,rfl⟩,rfl⟩) ?_;intro kk ss hIk _;rw[hI]at hIk;obtain⟨i,a,hi,rfl,hx,rfl⟩:=hIk;obtain⟨hx1,hx2⟩:=hx;refine af1 @hl ?_;intros;apply wr;refine AB rfl (fun hh=>?_) (fun hh=>?_)
  ·simp at hh;obtain⟨g,hg,hd,-,hmem⟩:=get_at hh;have hget:=HA hg;rw[hd,chainOk]at hx1;rw[hd,lastAt]at hx2;refine af1 @hget ?_;refine cXf (aZ g (h g hmem)) ?_;intros;apply wr;refine AB rfl (fun hb=>?_) (fun hb=>?_)
   ·have hF:chainOk g0.from_ s.queue=false:=by
     rw[hx1];cases hs:En g<;>simp[hs]at hb ⊢;intro z;exact absurd z hb
    refine af ?_;refine ar ?_;simp[hF]
   have hF:chainOk g0.from_ s.queue=chainOk g.known (s.queue.drop (i+1)):=by
    rw[hx1];cases hs:En g<;>simp[hs]at hb ⊢;simp[hb]
   refine af ?_;intros;apply wr;exact aX (id) (by rw[hI];exact⟨i+1,g.known,by omega,rfl,⟨hF,hx2⟩,rfl⟩) (AA (n:=(i:Int)+1))
  simp at hh;rw[Cf hh,chainOk]at hx1;rw[Cf hh,lastAt]at hx2;refine af ?_;intros;apply wr;refine ar ?_;simp[hx1,hx2,hn];rfl
theorem Fb(s:SndD)(h:∀g∈s.queue,g.ents.length<=100000)(hn:s.queue.length<=1000):AC prog 122 [.st s.row] (.st [lv s.base,lv s.tail,lv s.known,.new 145 3 (segs s.queue)]):=by
 have hl:=Df s.queue;have hw:IntKind.i64.wrap ((s.queue.length:Int)+1)=s.queue.length+1:=AA;refine sZ func122 ntmps122 ?_;refine Jn (kX3 @hl @hw @maxLen.eq_1) ?_;intros;apply wr;obtain⟨I,hI⟩:∃I:Nat->St->Prop,I=(fun kk ss=>∃(i:Nat),i<=s.queue.length/\kk=s.queue.length-i/\(True)/\ss=⟨27,[(14,.int .i64 i),(13,.int .i64 s.queue.length),(12,.sl 3 false (segs s.queue)),(1,.ptr 0 4 0 0),(2,.ptr 1 4 0 0),(3,.own 2)],3,[(0,some ⟨54,4,true,false,[s.row]⟩),(1,some ⟨54,4,true,false,[[lv 0,lv 0,lv 0,.sl 0 true []]]⟩),(2,some ⟨145,3,false,false,segs (s.queue.take i)⟩)],0⟩):=⟨_,rfl⟩;refine lX I (id) (by rw[hI];exact⟨0,by simp,rfl,trivial,rfl⟩) ?_;intro kk ss hIk _;rw[hI]at hIk;obtain⟨i,hi,rfl,hx,rfl⟩:=hIk;refine au1 @hl ?_;intros;apply wr;refine AB rfl (fun hh=>?_) (fun hh=>?_)
 ·simp at hh;obtain⟨g,hg,-,ht,hmem⟩:=get_at hh;have hget:=HA hg;have hlt:(segs (s.queue.take i)).length=i:=by rw[Df,iD];omega
  refine au1 @hget ?_;refine cc (MS g (h g hmem)) ?_;have hts:segs (s.queue.take (i+1))=segs (s.queue.take i)++[[lv g.from_,lv g.known,Bo g.ents]]:=by rw[ht,De];rfl
  refine Jn (kX2 @hlt @maxLen.eq_1) ?_;intros;apply wr;exact aX (fun x=>if x=2 then 8 else x) (by rw[hI];exact⟨i+1,by omega,rfl,trivial,rfl⟩) (kX2 (AA (n:=(i:Int)+1)) @hts)
 simp at hh;rw[HD hh];refine au ?_;refine ar ?_;simp
theorem Na{C D E G:Prop}(c:C)(d:D)(e:E)(t:C->D->E->G:=by intro c d e;(refine au1 e ?_;(repeat intro K hK);apply wr);repeat' ((first|(refine AB rfl (fun h=>?_) (fun h=>?_)<;>(first|(simp[e]at h;done)|(simp[e]at h)|skip)<;>(first|(exfalso;omega)|skip))|((first|refine .inl ⟨1,_,d.1,?_⟩|refine⟨1,_,d.1,?_⟩);simp[C0,Cd,noX,Cx,C9,e];first|refine And.intro AQ ?_|skip)|((first|refine .inl ⟨1,_,d.2.1,?_⟩|refine⟨1,_,d.2.1,?_⟩);simp[C0,Cd,noX,Cx,C9,e];first|refine And.intro AQ ?_|skip)|refine cc1 c.1 e ?_|refine cc1 c.2.1 e ?_|refine cc1 c.2.2.1 e ?_|refine cc1 c.2.2.2.1 e ?_|refine cc1 c.2.2.2.2.1 e ?_|refine cc1 c.2.2.2.2.2.1 e ?_|refine Aa 3 ?_|refine BD fun K hK=>?_|exact rt1 e|fail)<;>(refine au1 e ?_;(repeat intro K hK);apply wr))):G:=t c d e
theorem infoE:∃(j:TypeInfo)(z:Value),prog.info? 108=some j/\j.size=4/\j.bytes=40/\j.zero=some z/\z.cells.size=4:=by
 have h:(prog.info? 108).map (fun j=>(j.size,j.bytes,j.zero.map fun z=>z.cells.size))=some (4,40,some 4):=by kernel_rfl
 obtain⟨j,hj,e⟩:=Option.map_eq_some_iff.1 h;simp only[Prod.mk.injEq]at e;obtain⟨z,hz,e3⟩:=Option.map_eq_some_iff.1 e.2.2;exact⟨j,z,hj,e.1,e.2.1,hz,e3⟩
theorem Wn(n:Nat)(h0:0<n)(hn:n<=100000)(w:World):Calls prog 121 #[.slice none 0 0,.int .i64 n] w fun e w' =>
  ∃(cap:Nat)(cur:Array Value),e=.returned (.slice (some ⟨w.heap.size,0,none⟩) 0 cap)/\cap<=maxLen/\cur.size=cap*4/\w'=w.drew.alloc (.cells cur 108):=by
 obtain⟨j,z,hj,hs,hb,hz,hzs⟩:=infoE;have h1:¬((n:Int)<0):=by omega
 have h2:wrap64 ((0:Int)-(0:Int))=0:=by unfold wrap64;omega
 have h3:wrap64 ((n:Int)-0)=(n:Int):=by unfold wrap64;omega
 have h4:(n:Int) > 0:=by omega
 have hrz:∀ty,(Builtin.append_ #[43,3] ty #[.slice none 0 0,.int .i64 (n:Int)]).run prog w =
   .ok (.slice (some ⟨w.heap.size,0,none⟩) n (grownCap w n 0 108)) (w.drew.alloc (.cells (Builtin.zeroCells z.cells n++Builtin.zeroCells z.cells (grownCap w n 0 108-n)) 108)):=fun ty=>by
  have h:=Lib.run_append_grow_zeros w 43 3 ty 108 j z .i64 .i64 Tryz.underlying43 Tryz.underlying3 hj hz none 0 0 [] (run_firstCells_none w.drew j.size 0 0 0) n h0 (by omega) (by omega) (by omega)
   (by rw[hb];omega) (by rw[hb];exact growslice_fits (by omega) (by omega))
  simpa using h
 clear hz;generalize z.cells=zc at *;have hGn:n<=grownCap w n 0 108:=grownCap_ge w _ _ _;have hG63:=grownCap_le_maxLen w n 0 108 (by unfold maxLen;omega);generalize grownCap w n 0 108=G at *;have hG':G<=9223372036854775807:=by unfold maxLen at hG63;omega
 go_enter func121,ntmps121
 go_wp2_with (at_builtin;refine Lib.wpList_append_run _ rfl _ _ _ _ rfl _ _ rfl rfl _ _ (hrz _) ?_)
 all_goals (go_ret;exact⟨G,rfl,hG63,_,by simp only[Array.size_append,size_zeroCells,hzs];omega,rfl⟩)
theorem bX(n:Nat)(h0:0<n)(hn:n<=100000):AC prog 121 [.sl 0 true [],iv n] (.new 108 4 []):=by
 refine⟨by kernel_rfl,fun w Xa vals M hXa hs hrr=>?_⟩;obtain⟨A,c',f,hu,_,_,_,hnil,_⟩:=SH (hrr 0 _ rfl);obtain⟨rfl,rfl⟩:=hnil rfl;have hv1:=DK (hrr 1 _ rfl);have hv:vals=#[.slice none 0 0,.int .i64 (n:Int)]:=by
  apply Array.ext
  ·simpa using hs
  intro i hi hi';have:i=0\/i=1:=by simp at hi';omega
  rcases this with rfl|rfl
  ·simpa[Array.getD,hi]using hu
  simpa[Array.getD,hi]using hv1
 rw[hv];refine(Wn n h0 hn w).mono ?_;rintro e w' ⟨cap,cur,rfl,hcap,hcur,rfl⟩;have hB:Below w.heap.size w (w.drew.alloc (.cells cur 108)):=⟨rfl,rfl,rfl,by simp,fun k hk=>by
  rw[Below.heap_alloc _ _ _ (by simpa using hk)];rfl⟩
 have hnew:(w.drew.alloc (.cells cur 108)).heap[w.heap.size]? =some (.cells cur 108 (0,0)):=World.alloc_heap_new w.drew _;refine⟨_,rfl,hB,fun M n' hM=>?_⟩;have hM0:=hM 0 (by simp[V.fcells,V.cells]);simp[Jk,Value.cells]at hM0;refine⟨?_,?_,?_⟩
 ·exact .own _ _ _ _ _ (by simp[V.fcells,V.cells]) hM0
 ·intro id o ho;simp[V.fcells,V.cells,BY,lookO]at ho;obtain⟨rfl,rfl⟩:=ho;refine⟨fun _=>by decide,fun _=>by rw[hM0];rfl,by simp,[],?_,by simp,fun j u h=>by simp at h⟩;rw[hM0];exact⟨by simp,.inr (.inl ⟨w.heap.size,0,cap,cur,rfl,g8 _,.plain hnew,Nat.zero_le _,hcap,by rw[i6];exact hcur,by simp⟩)⟩
 intro id id' o o' g ho ho' hne;simp[V.fcells,V.cells,BY,lookO]at ho ho';omega
theorem Iw(a b:List EntD)(ha:a.length<=50000)(hb:b.length<=50000):AC prog 69 [.sl 1 false [[Bo a],[Bo b]]] (Bo (a++b)):=by
 rcases Nat.eq_zero_or_pos (a.length+b.length)with hz|hpos
 ·obtain rfl:a=[]:=List.length_eq_zero_iff.1 (by omega);obtain rfl:b=[]:=List.length_eq_zero_iff.1 (by omega);have hg0:AC prog 121 [.sl 0 true [],iv 0] (.sl 0 true []):=by
   refine sZ func121 ntmps121 ?_;exact wx1 trivial trivial @HZ
  refine sX func69 ntmps69 ?_;exact Na (qX1 (hg0)) trivial @HZ
 have la:=Ay a;have lb:=Ay b;have hab:=LF a b;have hg:=bX (a.length+b.length) hpos (by omega)
 push_cast at hg
 have w1:IntKind.i64.wrap (a.length:Int)=a.length:=AA;have w2:IntKind.i64.wrap ((a.length:Int)+b.length)=a.length+b.length:=AA;have n1:¬(a.length:Int)<0:=by omega
 have n2:¬(a.length:Int)+b.length<0:=by omega
 refine sX func69 ntmps69 ?_;exact Na (qX1 (hg)) trivial (kX9 @la @lb @w1 @w2 @n1 @n2 @maxLen.eq_1 @hab @HZ)
theorem Gv(l:List Int)(o:Nat)(t:Str):∀n k:Nat,(Hx l o t n)[k]? =if o<=k/\k<o+n/\k<l.length then some (E8 t (k-o))else l[k]?
 | 0,k=>by rw[nG];rfl
 | n+1,k=>by
  rw[Hx,List.getElem?_set,Gw,Gv l o t n k];by_cases h:o+n=k
  ·subst h;rw[if_pos rfl];by_cases hl:o+n<l.length
   ·rw[if_pos hl,nH,Nat.add_sub_cancel_left]
   rw[if_neg hl,nG,iV (by omega)]
  rw[if_neg h];by_cases h2:o<=k/\k<o+n/\k<l.length
  ·rw[if_pos h2,nH]
  rw[if_neg h2,nG]
theorem Q3(t:Str)(n k:Nat)(b:UInt8)(hn:n<t.length):(t.set n b).getD k 0=if k=n then b else t.getD k 0:=by
 simp only[gP,List.getElem?_set];by_cases h:n=k
 ·subst h;simp[hn]
 rw[if_neg h,if_neg (fun q=>h q.symm)]
theorem Vi(t:Str)(n:Nat)(b:UInt8)(hn:n<t.length):E8 (t.set n b) (n/4)=X4 (E8 t (n/4)) ((n%4:Nat):Int) b.toNat:=by
 have b0:=(t.getD (4*(n/4)) 0).toNat_lt;have b1:=(t.getD (4*(n/4)+1) 0).toNat_lt;have b2:=(t.getD (4*(n/4)+2) 0).toNat_lt;have b3:=(t.getD (4*(n/4)+3) 0).toNat_lt;have bb:=b.toNat_lt;have h4:n%4=0\/n%4=1\/n%4=2\/n%4=3:=by omega
 unfold X4 byteAt E8;simp only[Q3 t n _ b hn];rcases h4 with h|h|h|h
 ·rw[nH,nG,nG,nG,h];generalize (t.getD (4*(n/4)) 0).toNat=x0 at *;generalize (t.getD (4*(n/4)+1) 0).toNat=x1 at *;generalize (t.getD (4*(n/4)+2) 0).toNat=x2 at *;generalize (t.getD (4*(n/4)+3) 0).toNat=x3 at *;generalize b.toNat=y at *;simp;omega
 ·rw[nG,nH,nG,nG,h];generalize (t.getD (4*(n/4)) 0).toNat=x0 at *;generalize (t.getD (4*(n/4)+1) 0).toNat=x1 at *;generalize (t.getD (4*(n/4)+2) 0).toNat=x2 at *;generalize (t.getD (4*(n/4)+3) 0).toNat=x3 at *;generalize b.toNat=y at *;simp;omega
 ·rw[nG,nG,nH,nG,h];generalize (t.getD (4*(n/4)) 0).toNat=x0 at *;generalize (t.getD (4*(n/4)+1) 0).toNat=x1 at *;generalize (t.getD (4*(n/4)+2) 0).toNat=x2 at *;generalize (t.getD (4*(n/4)+3) 0).toNat=x3 at *;generalize b.toNat=y at *;simp;omega
 rw[nG,nG,nG,nH,h];generalize (t.getD (4*(n/4)) 0).toNat=x0 at *;generalize (t.getD (4*(n/4)+1) 0).toNat=x1 at *;generalize (t.getD (4*(n/4)+2) 0).toNat=x2 at *;generalize (t.getD (4*(n/4)+3) 0).toNat=x3 at *;generalize b.toNat=y at *;simp;omega
theorem Vh(t:Str)(n i:Nat)(b:UInt8)(hn:n<t.length)(hi:i≠n/4):E8 (t.set n b) i=E8 t i:=by
 unfold E8;simp only[Q3 t n _ b hn];rw[nG,nG,nG,nG]
theorem X5(l:List Int)(o:Nat)(t:Str)(n:Nat)(b:UInt8)(ht:t.length=128)(hn:n<128):(Hx l o t 32).set (o+n/4) (X4 (E8 t (n/4)) ((n%4:Nat):Int) b.toNat)=Hx l o (t.set n b) 32:=by
 apply List.ext_getElem?;intro k;rw[List.getElem?_set,Gw,Gv,Gv];by_cases h:o+n/4=k
 ·subst h;rw[if_pos rfl];by_cases hl:o+n/4<l.length
  ·rw[if_pos hl,nH,Nat.add_sub_cancel_left,Vi t n b (by omega)]
  rw[if_neg hl,nG,iV (by omega)]
 rw[if_neg h];by_cases h2:o<=k/\k<o+32/\k<l.length
 ·rw[if_pos h2,if_pos h2,Vh t n (k-o) b (by omega) (by omega)]
 rw[if_neg h2,if_neg h2]
theorem Yb{w:Int}(h:W32 w):(w%256).toNat+(w/256%256).toNat*256+(w/65536%256).toNat*65536+(w/16777216%256).toNat*16777216=w:=by
 have h0:=h.1;have h1:=h.2;omega
theorem FH:∀(P:List Int)(i k:Nat),k<4->(P.flatMap B1).getD (4*i+k) 0=((P[i]?).map fun w=>(B1 w).getD k 0).getD 0
 | [],i,k,_=>by simp
 | w::P,0,k,h=>by
  have hl:(B1 w).length=4:=rfl;simp only[List.flatMap_cons,Nat.mul_zero,i6,gP,iS,Option.map_some,Option.getD_some];rw[iQ (by omega)]
 | w::P,i+1,k,h=>by
  have hl:(B1 w).length=4:=rfl;have e:=FH P i k h;simp only[List.flatMap_cons,gP,List.getElem?_cons_succ]at e ⊢;rw[iN (by omega),show 4*(i+1)+k-(B1 w).length=4*i+k by omega,e]
theorem SE{P:List Int}(hP:OkW P){i:Nat}{w:Int}(h:P[i]? =some w):E8 (P.flatMap B1) i=w:=by
 have hw:W32 w:=hP w (g9 h);have e:=Yb hw;have f0:=FH P i 0 (by omega);have f1:=FH P i 1 (by omega);have f2:=FH P i 2 (by omega);have f3:=FH P i 3 (by omega);rw[h]at f0 f1 f2 f3;simp only[Option.map_some,Option.getD_some,Nat.add_zero]at f0 f1 f2 f3;unfold E8;rw[f0,f1,f2,f3];have u:∀x:Int,(UInt8.ofNat (x%256).toNat).toNat=(x%256).toNat:=fun x=>by rw[UInt8.toNat_ofNat'];omega
 simp only[B1,iC,iK,u];omega
theorem UU{l:List Int}(hl:OkW l){f:Int}(h0:0<=f)(h1:f<pagesD l):Hx l (f*32).toNat (Bh l f) 32=l:=by
 have hp:=Gt h0 h1;apply List.ext_getElem?;intro k;rw[Gv];by_cases h2:(f*32).toNat<=k/\k<(f*32).toNat+32/\k<l.length
 ·rw[if_pos h2,gR h2.2.2];congr 1;have hk:((l.take (f*32+32).toNat).drop (f*32).toNat)[k-(f*32).toNat]? =some l[k]:=by
   rw[iP,iL,nH,show(f*32).toNat+(k-(f*32).toNat)=k by omega,gR h2.2.2]
  exact SE (fun x hx=>hl x (i5 (List.mem_of_mem_drop hx))) hk
 rw[if_neg h2]
def JE(l:List Int)(f:Int)(s:Str):Nat->List Int
 | 0=>l
 | n+1=>Ca (JE l f s n) (f*128+n) 1 ((s.getD n 0).toNat:Int)
theorem Me(l:List Int)(f:Int)(s:Str):∀n,(JE l f s n).length=l.length
 | 0=>rfl
 | n+1=>by unfold JE Ca;rw[List.length_set,Me l f s n]
theorem UQ{l:List Int}{f:Int}(h0:0<=f)(h1:f<pagesD l):(Bh l f).length=128:=by
 unfold Bh;rw[Mg,Gt h0 h1]
theorem P5{l:List Int}(hl:OkW l){f:Int}(h0:0<=f)(h1:f<pagesD l)(hin:f*32+32<=l.length)(s:Str):∀n:Nat,n<=s.length->n<=128->JE l f s n=Hx l (f*32).toNat (s.take n++(Bh l f).drop n) 32
 | 0,_,_=>by rw[List.take_zero,jA,List.drop_zero,UU hl h0 h1];rfl
 | n+1,hs,hn=>by
  have ih:=P5 hl h0 h1 hin s n (by omega) (by omega);have hB:=UQ h0 h1;have ht:(s.take n++(Bh l f).drop n).length=128:=by rw[gV,iD,iE,hB];omega
  have hset:s.take (n+1)++(Bh l f).drop (n+1)=(s.take n++(Bh l f).drop n).set n (s.getD n 0):=by
   apply List.ext_getElem?;intro k;rw[List.getElem?_set,ht,List.getElem?_append,List.getElem?_append];simp only[iD,iL,iP,gP];by_cases hk:n=k
   ·subst hk;rw[nH,nH,if_pos rfl,nH,gR (by omega)];rfl
   rw[if_neg hk];by_cases hk2:k<n
   ·rw[nH,nH,nH,nH]
   rw[nG,nG];congr 1;omega
  have hw:wAt (Hx l (f*32).toNat (s.take n++(Bh l f).drop n) 32) ((f*128+n)/4)=E8 (s.take n++(Bh l f).drop n) (n/4):=by
   unfold wAt;rw[gP,Gv,nH,Option.getD_some];congr 1;omega
  have hm:(f*128+(n:Int))%4=((n%4:Nat):Int):=by omega
  have hd:((f*128+(n:Int))/4).toNat=(f*32).toNat+n/4:=by omega
  rw[JE,ih];unfold Ca;rw[if_pos rfl,hw,hm,hd,X5 _ _ _ n _ ht (by omega),hset]
end Go.Proofs.YtjkmhmepljamoaaGreat
end
