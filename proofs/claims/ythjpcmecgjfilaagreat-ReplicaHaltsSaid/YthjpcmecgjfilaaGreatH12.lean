/- A part of the proof of ReplicaHalts. -/
import Derived.Test.YthjpcmecgjfilaaGreatH05
import Derived.Test.YthjpcmecgjfilaaGreatH08
import Derived.Lib.AppendZerosOnto
import Derived.Lib.SliceRun
import Derived.Lib.Walk
set_option linter.unusedSimpArgs false
set_option linter.unusedVariables false
set_option maxHeartbeats 16000000
set_option maxRecDepth 100000
section
namespace Go.Proofs.YthjpcmecgjfilaaGreat
open Go.Ab Go.RowKit Tryz
def keyH (s:Str):Int:=match s with|[]=>4294967295|b::_=>(b.toNat:Int)
def zHU (s:Str) (port:Int):Str × Int:=if port=0 then (s.tail,keyH s) else if port=1 then (s,s.length) else (s,0)
def zHI (s:Str) (b:UInt8):Str × Bool:=if 16<=s.length then (s,false) else (s++[b],true)
def armD (v:Int):TimD:=⟨!decide (v=0),v,false⟩
def zGc (t:TimD):TimD × Bool:=if t.armed=true then (⟨false,t.dl,true⟩,true) else (t,false)
def dueD (t:TimD) (now:Int):Bool:=t.armed&&decide (t.dl<=now)
def zVn (t:TimD):Int:=b2w t.fired
def zRH (d:DskD) (port:Int):Int:=if port=4 then d.block else if port=5 then d.frame else if port=6 then uw d.state else 0
def zBi (d:DskD):Bool:=decide (d.state=2)||decide (d.state=3)
def zDu (w:Int):Str:=[UInt8.ofNat (w % 256).toNat,UInt8.ofNat (w / 256 % 256).toNat,UInt8.ofNat (w / 65536 % 256).toNat,UInt8.ofNat (w / 16777216 % 256).toNat]
def zCx (mem:List Int) (f:Int):Str:=((mem.take (f*32+32).toNat).drop (f*32).toNat).flatMap zDu
def zLb (s:Str) (i:Nat):Int:=(s.getD (4*i) 0).toNat+(s.getD (4*i+1) 0).toNat*256+(s.getD (4*i+2) 0).toNat*65536+(s.getD (4*i+3) 0).toNat*16777216
def putW (mem:List Int) (o:Nat) (s:Str):Nat->List Int
 | 0=>mem
 | i+1=>(putW mem o s i).set (o+i) (zLb s i)
def zBd (mem:List Int) (f:Int) (s:Str):List Int:=putW mem (f*32).toNat s 32
def zBW (d:DskD) (at_:Int):OutD × Bool :=
 if d.state=1/\d.cmd=1 then (⟨3,at_,d.opBlock,[]⟩,true) else if d.state=1/\d.cmd=2 then (⟨4,at_,d.opBlock,d.opData⟩,true) else (⟨0,0,0,[]⟩,false)
def zBP (d:DskD) (mem:List Int) (cmd at_:Int):DskD × List OutD :=
 if d.state≠0 then (d,[])
 else if d.blocks<=d.block\/pagesD mem<=d.frame then ({d with state:=3},[])
 else ({d with state:=1,cmd:=cmd,opBlock:=d.block,opFrame:=d.frame,opData:=if cmd=2 then zCx mem d.frame else []},
  [(zBW {d with state:=1,cmd:=cmd,opBlock:=d.block,opFrame:=d.frame,opData:=if cmd=2 then zCx mem d.frame else []} at_).1])
def zBI (d:DskD) (mem:List Int) (port v at_:Int):DskD × List OutD :=
 if port=4 then ({d with block:=v},[])
 else if port=5 then ({d with frame:=v},[])
 else if port=6 then
  if v=1\/v=2 then zBP d mem v at_
  else if v=0/\zBi d=true then ({d with state:=0},[])
  else (d,[])
 else (d,[])
def doneD (d:DskD) (n:Int):DskD:={d with state:=if n=1 then 2 else 3,cmd:=0,opBlock:=0,opFrame:=0,opData:=[]}
def zAO (d:DskD) (mem:List Int) (e:EvD):DskD × List Int × Bool :=
 if d.state≠1\/e.kind≠4\/1<e.n then (d,mem,false)
 else if e.n=1/\d.cmd=1 then
  if d.opFrame<pagesD mem/\e.data.length=128 then (doneD d e.n,zBd mem d.opFrame e.data,true) else (d,mem,false)
 else if e.data=[] then (doneD d e.n,mem,true) else (d,mem,false)
def zRu (n:NicD) (port:Int):Int:=if port=7 then n.frame else if port=8 then n.got else if port=9 then b2w n.posted+b2w n.received*2 else 0
def zAa (n:NicD) (mem:List Int) (port v at_:Int):NicD × List OutD :=
 if port=7 then ({n with frame:=v},[])
 else if port=8 then ({n with len:=v},[])
 else if port=9 then
  if v=1 then (n,if 1<=n.len/\n.len<=128/\n.frame<pagesD mem then [⟨2,at_,0,(zCx mem n.frame).take n.len.toNat⟩] else [])
  else if v=2 then (if n.frame<pagesD mem/\n.posted=false/\n.received=false then {n with posted:=true,buffer:=n.frame} else n,[])
  else if v=0 then ({n with received:=false,got:=0},[])
  else (n,[])
 else (n,[])
def zAi (n:NicD) (mem:List Int) (s:Str):NicD × List Int × Bool :=
 if n.posted=true/\1<=s.length/\s.length<=128/\n.buffer<pagesD mem then
  ({n with posted:=false,buffer:=0,received:=true,got:=s.length},zBd mem n.buffer (s++(zCx mem n.buffer).drop s.length),true)
 else (n,mem,false)
def countB (g:Int):Int:=(List.range 32).foldl (fun n i=>n+g / 2 ^ i % 2) 0
def zQ1 (t g port:Int):Int:=if port=10 then t else if port=11 then countB g else 0
def zA8 (t g:Int):Bool:=!decide (countB g=t)
def zE5:Str:=List.replicate 128 0
def zA7 (g:Int) (mem:List Int) (port v:Int):Int × List Int :=
 if 32<=v then (g,mem)
 else if port=10 then
  if v<pagesD mem/\g / 2 ^ v.toNat % 2=0 then (ior .u32 g (2 ^ v.toNat),zBd mem v zE5) else (g,mem)
 else if port=11 then (zCi .u32 g (2 ^ v.toNat),mem)
 else (g,mem)
def zFg (m:MchD):Int:=b2w m.tim.fired+b2w (!decide (m.keys=[]))*2+b2w (zBi m.dk)*4+b2w m.nc.received*8+b2w (zA8 m.tgt m.given)*16
def enD (m:MchD):Int:=iand .u32 (zFg m) (m.cpu.csr 7)
def lowB (e:Int):Option Int:=if e % 2=1 then some 0 else if e / 2 % 2=1 then some 1 else if e / 4 % 2=1 then some 2 else if e / 8 % 2=1 then some 3 else if e / 16 % 2=1 then some 4 else none
def zIZ (m:MchD):Bool:=m.waiting&&decide (enD m=0)
def runsD (m:MchD):Bool:=mayD m&&!m.halted&&!zIZ m&&decide (m.count<1152921504606846976)
def zAK (m:MchD):MchD :=
 if m.cpu.csr 0 / 2 % 2=0 then {m with waiting:=false}
 else match lowB (enD m) with
  | none=>{m with waiting:=false}
  | some i=>{m with waiting:=false,cpu:=zBF m.cpu (16+i) 0}
def effD (m:MchD):EffD:=(zAo (zAK m).cpu m.mem).2.2
def readsD (m:MchD):Bool:=runsD m&&(decide ((effD m).kind=1)&&decide ((effD m).port=2))
def zAc (m:MchD) (port clock:Int):MchD × Int :=
 if port=0\/port=1 then ({m with keys:=(zHU m.keys port).1},(zHU m.keys port).2)
 else if port=2 then (m,clock)
 else if port=3 then (m,zVn m.tim)
 else if port=4\/port=5\/port=6 then (m,zRH m.dk port)
 else if port=7\/port=8\/port=9 then (m,zRu m.nc port)
 else if port=10\/port=11 then (m,zQ1 m.tgt m.given port)
 else (m,0)
def zAJ (m:MchD) (port v at_:Int):MchD × List OutD :=
 if port=0 then (m,[⟨1,at_,0,[UInt8.ofNat (v % 256).toNat]⟩])
 else if port=3 then ({m with tim:=armD v},[])
 else if port=4\/port=5\/port=6 then ({m with dk:=(zBI m.dk m.mem port v at_).1},(zBI m.dk m.mem port v at_).2)
 else if port=7\/port=8\/port=9 then ({m with nc:=(zAa m.nc m.mem port v at_).1},(zAa m.nc m.mem port v at_).2)
 else if port=10\/port=11 then ({m with given:=(zA7 m.given m.mem port v).1,mem:=(zA7 m.given m.mem port v).2},[])
 else (m,[])
def zBH (m:MchD) (e:EffD) (clock at_:Int):MchD × List OutD :=
 if e.kind=1 then ({(zAc m e.port clock).1 with cpu:=(zAc m e.port clock).1.cpu.setR e.reg (zAc m e.port clock).2},[])
 else if e.kind=2 then zAJ m e.port e.val at_
 else if e.kind=3 then ({m with waiting:=true},[])
 else if e.kind=4 then ({m with halted:=true},[])
 else (m,[])
def zBu (m:MchD):MchD:={zAK m with cpu:=(zAo (zAK m).cpu m.mem).1,mem:=(zAo (zAK m).cpu m.mem).2.1}
def goD (m:MchD) (clock:Int):MchD × List OutD :=
 ({(zBH (zBu m) (effD m) clock m.count).1 with count:=(zBH (zBu m) (effD m) clock m.count).1.count+1},(zBH (zBu m) (effD m) clock m.count).2)
def stepD (m:MchD) (clock:Int):MchD × List OutD:=if runsD m=true then goD m clock else (m,[])
def applyD (m:MchD) (e:EvD):MchD × Bool :=
 if mayD m=false\/m.halted=true then (m,false)
 else if e.kind=2 then if e.n=0/\e.data=[] then ({m with tim:=(zGc m.tim).1},(zGc m.tim).2) else (m,false)
 else if e.kind=3 then if e.n<=255/\e.data=[] then ({m with keys:=(zHI m.keys (UInt8.ofNat e.n.toNat)).1},(zHI m.keys (UInt8.ofNat e.n.toNat)).2) else (m,false)
 else if e.kind=4 then ({m with dk:=(zAO m.dk m.mem e).1,mem:=(zAO m.dk m.mem e).2.1},(zAO m.dk m.mem e).2.2)
 else if e.kind=5 then if e.n=0 then ({m with nc:=(zAi m.nc m.mem e.data).1,mem:=(zAi m.nc m.mem e.data).2.1},(zAi m.nc m.mem e.data).2.2) else (m,false)
 else if e.kind=6 then if e.data=[] then ({m with tgt:=e.n},true) else (m,false)
 else (m,false)
theorem u8_of (w:Int):((UInt8.ofNat (w % 256).toNat).toNat:Int)=IntKind.u8.wrap w:=by rw [UInt8.toNat_ofNat',IntKind.wrap_u8];omega
theorem zNy (w:Int):zAL (zDu w)=[[.int .u8 (IntKind.u8.wrap w)],[.int .u8 (IntKind.u8.wrap (w / 256))],[.int .u8 (IntKind.u8.wrap (w / 65536))],[.int .u8 (IntKind.u8.wrap (w / 16777216))]]:=by
 simp only [zAL,zDu,zWP,List.map_nil,u8_of]
@[simp] theorem bytesX_nil:zAL []=[]:=rfl
@[simp] theorem putW_zero (l:List Int) (o:Nat) (s:Str):putW l o s 0=l:=rfl
theorem zM9 (a b:Str):zAL (a++b)=zAL a++zAL b:=by simp [zAL]
theorem zOw (l:List Int):(l.flatMap zDu).length=4*l.length:=by
 induction l with
 | nil=>rfl
 | cons a r ih=>rw [List.flatMap_cons,zV7,ih];simp [zDu];omega
theorem zNK (x:Int):x.fdiv 256=x / 256:=zWC _ (by decide)
theorem zFI (x:Int):x.fdiv 65536=x / 65536:=zWC _ (by decide)
theorem zBx (x:Int):x.fdiv 16777216=x / 16777216:=zWC _ (by decide)
theorem zVm (l:List Int) (hb:l.length<=1024):zAD prog 288 [memV l] (.str (l.flatMap zDu)):=by
 have e3:=zAN .u32 l;have w1:IntKind.i64.wrap (4*(l.length:Int))=4*l.length:=zAA (by omega) (by omega)
 have hb0:zAL []=[]:=rfl;refine sY func288 ntmps288 (kX3 @e3 @w1 @maxLen.eq_1) ?_;intros;apply wr;obtain ⟨I,hI⟩:∃ I:Nat->St->Prop,I=(fun kk ss=>∃ (i:Nat) (x:Str),i<=l.length/\kk=l.length-i/\(x=(l.take i).flatMap zDu/\x.length=4*i)/\ss=⟨33,[(12,.int .i64 i),(11,.int .i64 l.length),(10,memV l),(3,.own 0)],1,[(0,some ⟨5,1,false,false,zAL x⟩)],0⟩):=⟨_,rfl⟩
 refine lX I (id) (by rw [hI];exact ⟨0,[],by simp,rfl,⟨by simp,rfl⟩,rfl⟩) ?_
 intro kk ss hIk _
 rw [hI] at hIk;obtain ⟨i,x,hi,rfl,hx,rfl⟩:=hIk;obtain ⟨hx1,hx2⟩:=hx;refine au ?_;intros;apply wr;refine zAC rfl (fun hh=>?_) (fun hh=>?_)
 ·simp at hh;obtain ⟨w,hw⟩:∃ w,l[i]? =some w:=⟨_,zV3 hh⟩;have hget:=zCt (k:=.u32) hw;have hnx:(l.take (i+1)).flatMap zDu=x++zDu w:=by
   rw [List.take_add_one,hw,List.flatMap_append,<- hx1];simp
  have hrow:zAL (x++zDu w)=zAL x++[[.int .u8 (IntKind.u8.wrap w)],[.int .u8 (IntKind.u8.wrap (w / 256))],[.int .u8 (IntKind.u8.wrap (w / 65536))],[.int .u8 (IntKind.u8.wrap (w / 16777216))]]:=by rw [zM9,zNy]
  have hbl:(zAL x).length=4*i:=by simp [zAL,hx2]
  refine au1 (kX7 @hget @hbl @zNK @zFI @zBx @e3 @maxLen.eq_1) ?_;intros;apply wr;exact aX (fun x=>if x=0 then 2 else x) (by rw [hI];exact ⟨i+1,(x++zDu w),by omega,rfl,⟨hnx.symm,by rw [zV7,hx2];rfl⟩,rfl⟩) (kX2 (zAA (n:=(i:Int)+1) (by omega) (by omega)) @hrow)
 simp at hh;have hi:l.take i=l:=List.take_of_length_le (by omega)
 rw [hi] at hx1;refine au1 (zFB x) ?_;intros;apply wr;refine zAB ?_;simp [hx1,zFD]
theorem zFJ (l:List Int) (f:Int):zAD prog 287 [memV l,iv f] (.bool (decide (0<=f)&&decide (f<pagesD l))):=by
 refine sZ func287 ntmps287 ?_;exact wx (qX1 (zBo l)) trivial
theorem zUl (l:List Int) (a b:Nat):((ints .u32 l).take a).drop b=ints .u32 ((l.take a).drop b):=by simp [ints,List.map_take,List.map_drop]
theorem zMP {l:List Int} {f:Int} (h0:0<=f) (h1:f<pagesD l):((l.take (f*32+32).toNat).drop (f*32).toNat).length=32:=by
 have:=zC4 (l:=l) (by omega)
 simp only [zWF,zWE];omega
theorem zLJ (l:List Int) (f:Int) (h0:0<=f) (h1:f<pagesD l):zAD prog 231 [memV l,iv f] (.tup [.str (zCx l f),.bool true]):=by
 have hp:=zAf l;have hl:=zC4 (l:=l) (by omega)
 have e3:=zAN .u32 l;have hh:=zFJ l f;rw [show (decide (0<=f)&&decide (f<pagesD l))=true by simp [h0,h1]] at hh
 have w1:IntKind.i64.wrap (f*32)=f*32:=zAA (by omega) (by omega)
 have w2:IntKind.i64.wrap (f*32+32)=f*32+32:=zAA (by omega) (by omega)
 have ht:=zVm ((l.take (f*32+32).toNat).drop (f*32).toNat) (by rw [zMP h0 h1];omega)
 refine sZ func231 ntmps231 ?_;exact wx1 (qX2 (hh) (ht)) trivial (kX5 @e3 @w1 @w2 @zUl @zCx.eq_1)
theorem zIc (a b:Int):ior .u32 a b=ior .u32 b a:=by unfold ior;rw [BitVec.or_comm]
theorem or4 (a b c d:UInt8):ior .u32 (ior .u32 (ior .u32 (a.toNat:Int) ((b.toNat:Int)*256)) ((c.toNat:Int)*65536)) ((d.toNat:Int)*16777216)=(a.toNat:Int)+b.toNat*256+c.toNat*65536+d.toNat*16777216:=by
 have:=a.toNat_lt;have:=b.toNat_lt;have:=c.toNat_lt;have:=d.toNat_lt;have q1:ior .u32 (a.toNat:Int) ((b.toNat:Int)*256)=(b.toNat:Int)*256+a.toNat:=by
  rw [zIc];exact zLH _ _ 8 (by omega) (by omega) (by omega) (by omega) (by omega) (by omega)
 have q2:ior .u32 ((b.toNat:Int)*256+a.toNat) ((c.toNat:Int)*65536)=(c.toNat:Int)*65536+((b.toNat:Int)*256+a.toNat):=by
  rw [zIc];exact zLH _ _ 16 (by omega) (by omega) (by omega) (by omega) (by omega) (by omega)
 have q3:ior .u32 ((c.toNat:Int)*65536+((b.toNat:Int)*256+a.toNat)) ((d.toNat:Int)*16777216)=(d.toNat:Int)*16777216+((c.toNat:Int)*65536+((b.toNat:Int)*256+a.toNat)):=by
  rw [zIc];exact zLH _ _ 24 (by omega) (by omega) (by omega) (by omega) (by omega) (by omega)
 rw [q1,q2,q3];omega
theorem zTe (a:UInt8):IntKind.u32.wrap (a.toNat:Int)=a.toNat:=by have:=a.toNat_lt;rw [IntKind.wrap_u32];omega
theorem zVr (a:UInt8):IntKind.u32.wrap ((a.toNat:Int)*256)=(a.toNat:Int)*256:=by have:=a.toNat_lt;rw [IntKind.wrap_u32];omega
theorem zVs (a:UInt8):IntKind.u32.wrap ((a.toNat:Int)*65536)=(a.toNat:Int)*65536:=by have:=a.toNat_lt;rw [IntKind.wrap_u32];omega
theorem zVt (a:UInt8):IntKind.u32.wrap ((a.toNat:Int)*16777216)=(a.toNat:Int)*16777216:=by have:=a.toNat_lt;rw [IntKind.wrap_u32];omega
theorem zMU (l:List Int) (o:Nat) (s:Str) (n:Nat):(putW l o s n).length=l.length:=by
 induction n with
 | zero=>rfl
 | succ n ih=>rw [putW,List.length_set,ih]
theorem zFX (l:List Int) (f:Int) (s:Str) (h0:0<=f) (h1:f<pagesD l) (hs:s.length=128):zAD prog 229 [memV l,iv f,.str s] (.tup [memV (zBd l f s),.bool true]):=by
 have hp:=zAf l;have hl:=zC4 (l:=l) (by omega)
 have e3:=zAN .u32 l;have hh:=zFJ l f;rw [show (decide (0<=f)&&decide (f<pagesD l))=true by simp [h0,h1]] at hh
 have w1:IntKind.i64.wrap (f*32)=f*32:=zAA (by omega) (by omega)
 have hcl:=zCH (ints .u32 l) false 1 (.inl rfl) (by rw [e3];omega)
 refine sX func229 ntmps229 ?_;intros;apply wr;refine cn (hcl) ?_;refine au ?_;intros;apply wr;refine cZ (hh) @hs @hs ?_;intros;apply wr;refine gF11 @hs rfl @w1 ?_;intros;apply wr;obtain ⟨I,hI⟩:∃ I:Nat->St->Prop,I=(fun kk ss=>∃ (i:Nat) ,i<=32/\kk=32-i/\(True)/\ss=⟨61,[(26,.int .i64 i),(2,.str s),(8,.own 0),(9,.int .i64 (f*32))],1,[(0,some ⟨25,1,false,false,ints .u32 (putW l (f*32).toNat s i)⟩)],0⟩):=⟨_,rfl⟩
 refine lX I (id) (by rw [hI];exact ⟨0,by simp,rfl,trivial,rfl⟩) ?_
 intro kk ss hIk _
 rw [hI] at hIk;obtain ⟨i,hi,rfl,hx,rfl⟩:=hIk;refine au ?_;intros;apply wr;refine zAC rfl (fun hi=>?_) (fun hi=>?_)
 ·simp at hi;have g1:IntKind.i64.wrap (4*(i:Int))=4*i:=zAA (by omega) (by omega)
  have g2:IntKind.i64.wrap (4*(i:Int)+4)=4*i+4:=zAA (by omega) (by omega)
  have g3:(4*(i:Int)).toNat=4*i:=by omega
  have g4:(4*(i:Int)+4).toNat=4*i+4:=by omega
  have g5:IntKind.i64.wrap (f*32+i)=f*32+i:=zAA (by omega) (by omega)
  have g6:(f*32+(i:Int)).toNat=(f*32).toNat+i:=by omega
  obtain ⟨a,b,c,d,hq⟩:∃ a b c d,(s.take (4*i+4)).drop (4*i)=[a,b,c,d]:=by
   have hlen:((s.take (4*i+4)).drop (4*i)).length=4:=by simp;omega
   match (s.take (4*i+4)).drop (4*i),hlen with
   | [a,b,c,d],_=>exact ⟨a,b,c,d,rfl⟩
  have hk:∀ k,k<4->s.getD (4*i+k) 0=[a,b,c,d].getD k 0:=fun k hk=>by
   rw [<- hq,zV1,zV1,zWS,zWJ,if_pos (by omega)]
  have hw4:zLb s i=(a.toNat:Int)+b.toNat*256+c.toNat*65536+d.toNat*16777216:=by
   unfold zLb;rw [show s.getD (4*i) 0=a from hk 0 (by omega),hk 1 (by omega),hk 2 (by omega),hk 3 (by omega)]
   rfl
  have hpl:=zMU l (f*32).toNat s i;have hpl':=zAN .u32 (putW l (f*32).toNat s i);obtain ⟨w0,hw0⟩:∃ w0,(putW l (f*32).toNat s i)[(f*32).toNat+i]? =some w0:=⟨_,zV3 (by omega)⟩
  have hw1:=zCt (k:=.u32) hw0;have hset:=ints_set .u32 (putW l (f*32).toNat s i) ((f*32).toNat+i) (zLb s i);rw [show (putW l (f*32).toNat s i).set ((f*32).toNat+i) (zLb s i)=putW l (f*32).toNat s (i+1) from rfl,hw4] at hset
  have hor:=or4 a b c d;refine au1 (kX6 @g1 @g2 @g3 @g4 @hs @hq) ?_;intros;apply wr;refine zAE 24 [0,0,0,6,0,16,48,0,128,384,896,2032,0,4096,12288,28672,65520,0,131072,393216,917504,2097136,4194303,8388607] [(22,([[],[],[],[1,2],[],[4],[4,5],[],[7],[7,8],[7,8,9],[4,5,6,7,8,9,10],[],[12],[12,13],[12,13,14],[4,5,6,7,8,9,10,11,12,13,14,15],[],[17],[17,18],[17,18,19],[4,5,6,7,8,9,10,11,12,13,14,15,16,17,18,19,20]],[])),(1,([],[])),(1,([],[]))] ?_;refine af1 (kX11 @g5 @g6 @hpl @hpl' @hor @zTe @zVr @zVs @zVt @hw1 @hset) ?_;intros;apply wr;refine af ?_;intros;apply wr;exact aX (id) (by rw [hI];exact ⟨i+1,by omega,rfl,trivial,rfl⟩) (kX3 (zAA (n:=(i:Int)+1) (by omega) (by omega)) @hw1 @hset)
 simp at hi;refine af ?_;intros;apply wr;refine zAI ?_;refine zAB ?_;simp;have e:i=32:=by omega
 subst e;rfl
theorem zGO {C D E G:Prop} (c:C) (d:D) (e:E) (t:C->D->E->G:=by intro c d e;(refine af1 e ?_;intros;apply wr);repeat' ((first|(refine zAC rfl (fun h=>?_) (fun h=>?_)<;>(first|(simp [e] at h;done)|(simp [e] at h)|skip)<;>(first|(exfalso;omega)|skip))|((first|refine .inl ⟨1,_,d.1,?_⟩|refine ⟨1,_,d.1,?_⟩);simp [aftC,aftE,noX,noXc,noX1,e];first|refine And.intro zAM ?_|skip)|((first|refine .inl ⟨1,_,d.2.1,?_⟩|refine ⟨1,_,d.2.1,?_⟩);simp [aftC,aftE,noX,noXc,noX1,e];first|refine And.intro zAM ?_|skip)|refine cc1 c.1 e ?_|refine cc1 c.2.1 e ?_|refine cc1 c.2.2.1 e ?_|refine cc1 c.2.2.2.1 e ?_|refine cc1 c.2.2.2.2.1 e ?_|refine cc1 c.2.2.2.2.2.1 e ?_|(refine zAE 7 [0,0,2,6,14,1,63] [(6,([[],[],[1],[1,2],[1,2,3],[0]],[(2,5),(3,5),(4,5)])),(1,([],[]))] ?_)|exact rt1 e|fail)<;>(refine af1 e ?_;intros;apply wr))):G:=t c d e
theorem zND (s:Str):zAD prog 290 [.st [.str s]] (.bool (!decide (s=[]))):=by
 refine sZ func290 ntmps290 ?_;exact wx trivial trivial
theorem zVq (s:Str) (n:Int) (h0:0<=n) (h1:n<=255):zAD prog 174 [.st [.str s],.int .u8 n] (.tup [.st [.str (zHI s (UInt8.ofNat n.toNat)).1],.bool (zHI s (UInt8.ofNat n.toNat)).2]):=by
 have hb:zB0 [.int .u8 n]:=⟨UInt8.ofNat n.toNat,by simp;omega⟩
 refine sZ func174 ntmps174 ?_;exact wx1 trivial trivial (kX4 @zHI.eq_1 @maxLen.eq_1 @hb @zDW.eq_1)
theorem zRE (s:Str) (p:Int) (hl:s.length<=1000):zAD prog 241 [.st [.str s],iv p] (.tup [.st [.str (zHU s p).1],uv (zHU s p).2]):=by
 by_cases h0:p=0
 ·subst h0;cases s with
  | nil =>
   refine sX func241 ntmps241 ?_;intros;apply wr;have k:keyH []=4294967295:=rfl;exact zGO trivial trivial (kX2 @zHU.eq_1 @k)
  | cons b r =>
   have w:=zTe b;have k:keyH (b::r)=b.toNat:=rfl;have hr:((r.length:Int)+1).toNat=r.length+1:=by omega
   refine sZ func241 ntmps241 ?_;exact zGO trivial trivial (kX4 @w @hr @zHU.eq_1 @k)
 by_cases h1:p=1
 ·subst h1;have w:IntKind.u32.wrap (s.length:Int)=s.length:=u32_in (by omega) (by omega)
  refine sZ func241 ntmps241 ?_;exact zGO trivial trivial (kX2 @w @zHU.eq_1)
 refine sZ func241 ntmps241 ?_;exact zGO trivial trivial (kX3 @h0 @h1 @zHU.eq_1)
theorem arm_ok (t:TimD) (v:Int):zAD prog 246 [.st t.row,uv v] (.st (armD v).row):=by
 refine sZ func246 ntmps246 ?_;exact wx1 trivial trivial @armD.eq_1
theorem zUa (t:TimD):zAD prog 173 [.st t.row] (.tup [.st (zGc t).1.row,.bool (zGc t).2]):=by
 refine sZ func173 ntmps173 ?_;exact wx1 trivial trivial @zGc.eq_1
theorem zSo (t:TimD):zAD prog 242 [.st t.row] (uv (zVn t)):=by
 refine sZ func242 ntmps242 ?_;exact wx1 trivial trivial (kX2 @zVn.eq_1 @b2w.eq_1)
theorem zNu (t:TimD):zAD prog 289 [.st t.row] (.bool t.fired):=by
 refine sZ func289 ntmps289 ?_;exact wx trivial trivial
theorem zRI (d:DskD) (p:Int):zAD prog 243 [.st d.row,iv p] (uv (zRH d p)):=by
 refine sZ func243 ntmps243 ?_;exact wx1 trivial trivial @zRH.eq_1
theorem zHw (d:DskD):zAD prog 291 [.st d.row] (.bool (zBi d)):=by
 refine sZ func291 ntmps291 ?_;exact wx1 trivial trivial @zBi.eq_1
theorem zFS (d:DskD) (k:Int):zAD prog 46 [.st d.row,lv k] (.tup [.st (zBW d k).1.row,.bool (zBW d k).2]):=by
 refine sZ func46 ntmps46 ?_;exact wx1 trivial trivial @zBW.eq_1
theorem zRv (n:NicD) (p:Int):zAD prog 244 [.st n.row,iv p] (uv (zRu n p)):=by
 refine sZ func244 ntmps244 ?_;exact wx1 trivial trivial (kX3 @zRu.eq_1 @b2w.eq_1 @u32c)
theorem zNb (n:NicD):zAD prog 292 [.st n.row] (.bool n.received):=by
 refine sZ func292 ntmps292 ?_;exact wx trivial trivial
theorem zCW (l:List Int) (f:Int) (h:W32 f):zAD prog 228 [memV l,uv f] (.bool (decide (f<pagesD l))):=by
 have e1:IntKind.u64.wrap f=f:=u64_in h.1 (by have:=h.2;omega)
 have e2:IntKind.u64.wrap (pagesD l)=pagesD l:=u64_in (zAf l).1 (by have:=zAf l;omega)
 refine sZ func228 ntmps228 ?_;exact wx1 (qX1 (zBo l)) trivial (kX2 @e1 @e2)
theorem zC3 (l:List Int) (f:Int) (h:W32 f):zAD prog 230 [memV l,uv f] (.bool (decide (f<pagesD l))):=by
 have e1:IntKind.u64.wrap f=f:=u64_in h.1 (by have:=h.2;omega)
 have e2:IntKind.u64.wrap (pagesD l)=pagesD l:=u64_in (zAf l).1 (by have:=zAf l;omega)
 refine sZ func230 ntmps230 ?_;exact wx1 (qX1 (zBo l)) trivial (kX2 @e1 @e2)
abbrev L64 (n:Int):Prop:=0<=n/\n<18446744073709551616
abbrev lw (n:Int):Int:=IntKind.u64.wrap n
structure OkT (e:EntD):Prop where
 a:L64 e.at_
 n:W32 e.ev.n
def putu:Nat->Nat->Str
 | 0,n=>[UInt8.ofNat n]
 | k+1,n=>if n<128 then [UInt8.ofNat n] else UInt8.ofNat (n % 128+128)::putu k (n / 128)
def putD (n:Int):Str:=putu 10 n.toNat
def zHL:Nat->Nat->Str->Option (Nat × Nat)
 | _,_,[]=>none
 | i,x,b::r=>if 10<=i then none else if i=9/\1<b.toNat then none else if 128<=b.toNat then zHL (i+1) (x+b.toNat % 128*2 ^ (7*i)) r
  else if b=0/\0<i then none else some (x+b.toNat*2 ^ (7*i),i+1)
def zKW (s:Str):Option (Nat × Nat):=zHL 0 0 s
def evVal (e:EvD):Bool :=
 if e.kind=1\/e.kind=6 then e.data==[]
 else if e.kind=2 then decide (e.n=0)&&(e.data==[])
 else if e.kind=3 then decide (e.n<=255)&&(e.data==[])
 else if e.kind=4 then if e.n=1 then (e.data==[])||decide (e.data.length=128) else decide (e.n=0)&&(e.data==[])
 else if e.kind=5 then decide (e.n=0)&&decide (1<=e.data.length)&&decide (e.data.length<=128)
 else false
def zCd (e:EvD):Str :=
 if e.kind=1\/e.kind=3\/e.kind=6 then putD e.kind++putD e.n
 else if e.kind=4 then putD e.kind++(putD e.n++(putD e.data.length++e.data))
 else if e.kind=5 then putD e.kind++(putD e.data.length++e.data)
 else putD e.kind
def zBj:Int->List EntD->Str
 | _,[]=>[]
 | from_,e::r=>putD (e.at_-from_)++(zCd e.ev++zBj e.at_ r)
def ordD:List EntD->Bool
 | a::b::r=>!(decide (b.at_<a.at_)||(decide (b.at_=a.at_)&&decide (a.ev.kind=1)))&&ordD (b::r)
 | _=>true
def firstOk (from_:Int):List EntD->Bool
 | []=>true
 | e::_=>decide (from_<=e.at_)
def zCl (l:List EntD) (from_:Int):Int :=
 if 400<l.length then 1902 else if l.all (fun e=>evVal e.ev)=false then 1900 else if ordD l=false\/firstOk from_ l=false then 1901
 else if 65536<(putD l.length++zBj from_ l).length then 1902 else 0
def logD (l:List EntD) (from_:Int):Str × Int:=if zCl l from_=0 then (putD l.length++zBj from_ l,0) else ([],zCl l from_)
def zCD (l:List EntD) (known:Int):Bool:=l.any fun e=>decide (known<e.at_)
def zAY (g:SegD):Str × Int:=if g.known<g.from_\/zCD g.ents g.known=true then ([],2400) else logD g.ents g.from_
def zDL (g:SegD):Bool:=decide ((zAY g).2=0)
def zAV (r:RecD) (e:EvD):RecD:=if (applyD r.m e).2=true then {r with m:=(applyD r.m e).1,log:=r.log++[⟨r.m.count,e⟩]} else r
def zAu (r:RecD):RecD:=if dueD r.m.tim r.clock=true then zAV r ⟨2,0,[]⟩ else r
def zDQ (m:MchD):Bool:=m.halted||zIZ m||decide (m.count=1152921504606846976)
def clkR (r:RecD):RecD:=if readsD r.m=true then {r with log:=r.log++[⟨r.m.count,⟨1,r.clock,[]⟩⟩]} else r
def goR (r:RecD):RecD × List OutD:=({clkR r with m:=(stepD r.m r.clock).1,clock:=uw (r.clock+1)},(stepD r.m r.clock).2)
def runR:Nat->RecD->List OutD->RecD × List OutD
 | 0,r,o=>(r,o)
 | n+1,r,o=>if zDQ (zAu r).m=true then (zAu r,o) else runR n (goR (zAu r)).1 (o++(goR (zAu r)).2)
def limS (steps:Int):Nat:=(min (max steps 0) 4000).toNat
def zBb (r:RecD) (clock:Int):RecD:={r.queue.foldl zAV {r with clock:=max r.clock clock} with queue:=[]}
def advD (r:RecD) (steps clock:Int):RecD × List OutD:=if mayD r.m=true then runR (limS steps) (zBb r clock) [] else (r,[])
def cutD (r:RecD):RecD:={r with log:=[]}
def fitsD (o:OutD):Bool:=decide (o.block=0)&&(if o.kind=1 then decide (o.data.length=1) else if o.kind=2 then decide (o.data.length<=128) else false)
def heldOk:Int->List OutD->Bool
 | _,[]=>true
 | last,o::r=>(fitsD o&&decide (last<=o.at_))&&heldOk o.at_ r
def zB9 (g:GateD):Bool:=heldOk g.acked g.held
def zCE (g:GateD) (o:OutD):GateD :=
 if o.kind≠1/\o.kind≠2 then g else if g.acked<=o.at_ then {g with held:=g.held++[o]} else if o.kind=1 then {g with bytes:=lw (g.bytes+1)} else g
def zDh (g:GateD) (l:List OutD):GateD × Bool:=if zB9 g=true/\zB9 (l.foldl zCE g)=true then (l.foldl zCE g,true) else (g,false)
def relL (bytes:Int):List OutD->Int × List (OutD × Int)
 | []=>(bytes,[])
 | o::r=>if o.kind=1 then ((relL (lw (bytes+1)) r).1,(o,bytes)::(relL (lw (bytes+1)) r).2) else ((relL bytes r).1,(o,0)::(relL bytes r).2)
def relN (acked:Int) (l:List OutD):List OutD:=l.takeWhile fun o=>decide (o.at_<acked)
def relD (g:GateD) (acked:Int):GateD × List (OutD × Int) :=
 if zB9 g=true/\g.acked<acked then (⟨g.held.drop (relN acked g.held).length,acked,(relL g.bytes (relN acked g.held)).1⟩,(relL g.bytes (relN acked g.held)).2) else (g,[])
def chainOk:Int->List SegD->Bool
 | _,[]=>true
 | at_,g::r=>(decide (g.from_=at_)&&zDL g)&&chainOk g.known r
def lastAt:Int->List SegD->Int
 | at_,[]=>at_
 | _,g::r=>lastAt g.known r
def zBQ (s:SndD):Bool :=
 if s.base<1\/4611686018427387904<s.base\/8<s.queue.length then false
 else match s.queue with
  | []=>decide (s.known<=s.tail)
  | g::_=>decide (s.known<=g.from_)&&chainOk g.from_ s.queue&&decide (s.tail=lastAt g.from_ s.queue)
def zCP (s:SndD) (g:SegD):SndD × Int :=
 if g.from_≠s.tail\/zBQ s=false then (s,2400)
 else if (zAY g).2≠0 then (s,(zAY g).2)
 else if 8<=s.queue.length then (s,2401)
 else ({s with queue:=s.queue++[g],tail:=g.known},0)
def zFK (r:RepD):Bool:=decide (r.role=1)||decide (r.role=3)
def zEG (r:RepD):Bool:=zFK r&&decide (r.rec_.m.dk.state=1)
def cmd1 (c:Int × Int) (o:OutD):Int × Int:=if o.kind=3\/o.kind=4 then (0,o.at_) else c
def cmdL (c:Int × Int) (l:List OutD):Int × Int:=l.foldl cmd1 c
def runA (r:RepD) (a:RecD) (o:List OutD):RepD :=
 {r with rec_:=a,gate:=(zDh r.gate o).1,cmd:=if zEG {r with rec_:=a}=true then (cmdL (r.cmd,r.cmdAt) o).1 else 0,cmdAt:=(cmdL (r.cmd,r.cmdAt) o).2}
def segA (r:RepD):SegD:=⟨r.out.tail,r.rec_.m.count,r.rec_.log⟩
def logA (r:RepD):RepD :=
 {r with rec_:=cutD r.rec_,hist:=r.hist++r.rec_.log,out:=if r.role=1/\(r.rec_.log≠[]\/r.rec_.m.count≠r.out.tail) then (zCP r.out (segA r)).1 else r.out}
def zCR (r:RepD) (steps clock:Int):RepD:=logA (runA r (advD r.rec_ steps clock).1 (advD r.rec_ steps clock).2)
theorem zBD (l:List OutD):(outs l).length=l.length:=by simp [outs]
theorem zB5 (l:List SegD):(segs l).length=l.length:=by simp [segs]
theorem zJh (l:List (Int × SegD)):(zGX l).length=l.length:=by simp [zGX]
theorem zCs {l:List EntD} {i:Nat} {x:EntD} (h:l[i]? =some x):(ents l)[i]? =some x.row:=by simp [ents,h]
theorem zOk {l:List EvD} {i:Nat} {x:EvD} (h:l[i]? =some x):(evs l)[i]? =some x.row:=by simp [evs,h]
theorem zDJ {l:List OutD} {i:Nat} {x:OutD} (h:l[i]? =some x):(outs l)[i]? =some x.row:=by simp [outs,h]
theorem zEB {l:List SegD} {i:Nat} {x:SegD} (h:l[i]? =some x):(segs l)[i]? =some x.row:=by simp [segs,h]
theorem zOa {l:List (Int × SegD)} {i:Nat} {x:Int × SegD} (h:l[i]? =some x):(zGX l)[i]? =some [lv x.1,lv x.2.from_,lv x.2.known,zBZ x.2.ents]:=by simp [zGX,h]
theorem zIS (a b:List EntD):ents (a++b)=ents a++ents b:=by simp [ents]
theorem zGG (a b:List OutD):outs (a++b)=outs a++outs b:=by simp [outs]
theorem zCS (a b:List SegD):segs (a++b)=segs a++segs b:=by simp [segs]
theorem zLt (a:EntD):ents [a]=[a.row]:=rfl
theorem zR4 (a:OutD):outs [a]=[a.row]:=rfl
theorem zAr (a:SegD):segs [a]=[a.row]:=rfl
theorem get_at {α:Type} {l:List α} {i:Nat} (h:i<l.length):∃ x,l[i]? =some x/\l.drop i=x::l.drop (i+1)/\l.take (i+1)=l.take i++[x]/\x∈l :=
 ⟨l[i],zV3 h,zWZ h,(List.take_append_getElem h).symm,zWU h⟩
theorem getE {α:Type} {L:List α} {i:Nat} {x:α} (h:L[i]? =some x) (h':i<L.length):L[i]'h'=x:=by rw [zV3 h'] at h;exact Option.some.inj h
theorem zBc {α:Type} {l:List α} {i:Nat} (h:l.length<=i):l.drop i=[]:=List.drop_eq_nil_of_le h
theorem zGN {α:Type} {l:List α} {i:Nat} (h:l.length<=i):l.take i=l:=List.take_of_length_le h
theorem zUb (o:OutD):zAD prog 156 [.st o.row] (.bool (fitsD o)):=by
 refine sZ func156 ntmps156 ?_;exact wx1 trivial trivial @fitsD.eq_1
theorem zKy (g:GateD):zAD prog 106 [.st g.row] (.bool (zB9 g)):=by
 have hl:=zBD g.held;refine zAD.lens (by kernel_rfl) fun hlens=>?_
 simp [zK4,zK5,zEd,maxLen] at hlens;refine sY func106 ntmps106 @hl ?_;intros;apply wr;simp only [hl] at hlens;obtain ⟨I,hI⟩:∃ I:Nat->St->Prop,I=(fun kk ss=>∃ (i:Nat) (la:Int),i<=g.held.length/\kk=g.held.length-i/\(heldOk g.acked g.held=heldOk la (g.held.drop i))/\ss=⟨27,[(11,.int .i64 i),(10,.int .i64 g.held.length),(9,.sl 4 false (outs g.held)),(3,lv la)],1,[],0⟩):=⟨_,rfl⟩
 refine lX I (id) (by rw [hI];exact ⟨0,g.acked,by simp,rfl,rfl,rfl⟩) ?_
 intro kk ss hIk _
 rw [hI] at hIk;obtain ⟨i,la,hi,rfl,hx,rfl⟩:=hIk;refine au1 @hl ?_;intros;apply wr;refine zAC rfl (fun hh=>?_) (fun hh=>?_)
 ·simp at hh;obtain ⟨o,ho,hd,-,-⟩:=get_at hh;have hget:=zDJ ho;rw [hd,heldOk] at hx;refine au1 @hget ?_;intros;apply wr
  (refine au1 (kX2 @zB9.eq_1 @hx) ?_;intros;apply wr)
  repeat' ((first|(refine zAC rfl (fun h=>?_) (fun h=>?_)<;>(first|(simp [zB9,hx] at h;done)|(simp [zB9,hx] at h)|skip)<;>(first|(exfalso;omega)|skip))|refine cc1 (zUb o) (kX2 @zB9.eq_1 @hx) ?_|exact rt1 (kX2 @zB9.eq_1 @hx)|fail)<;>(refine au1 (kX2 @zB9.eq_1 @hx) ?_;intros;apply wr))
  exact aX (id) (by rw [hI];exact ⟨i+1,o.at_,by omega,rfl,(by simpa [h] using hx),rfl⟩) (zAA (n:=(i:Int)+1) (by omega) (by omega))
 simp at hh;rw [zBc hh,heldOk] at hx;refine au ?_;intros;apply wr;refine zAB ?_;simp [zB9,hx]
theorem zO5 (g:GateD) (l:List OutD) (h1:g.held.length<=50000) (h2:l.length<=10000):zAD prog 76 [.st g.row,.sl 4 false (outs l)] (.tup [.st (zDh g l).1.row,.bool (zDh g l).2]):=by
 have hl:=zBD g.held;have hl2:=zBD l;have hc:=zLm (outs g.held) false 4 (.inl rfl) (by omega)
 have hv:=zKy g;cases hg:zB9 g with
 | false =>
  rw [hg] at hv;refine sY func76 ntmps76 @hl ?_;intros;apply wr;exact wx1 (qX2 (hc) (hv)) trivial (kX2 @zDh.eq_1 @hg)
 | true =>
  rw [hg] at hv;refine sY func76 ntmps76 @hl ?_;intros;apply wr;refine cX (hc) ?_;intros;apply wr;refine cX (hv) ?_;intros;apply wr;refine gF00 rfl ?_;intros;apply wr;refine cY (hc) @hl2 ?_;intros;apply wr;obtain ⟨I,hI⟩:∃ I:Nat->St->Prop,I=(fun kk ss=>∃ (i:Nat) (x:GateD),i<=l.length/\kk=l.length-i/\(x=(l.take i).foldl zCE g/\x.acked=g.acked/\x.held.length<=50000+i)/\ss=⟨62,[(26,.int .i64 i),(25,.int .i64 l.length),(24,.sl 4 false (outs l)),(2,.ptr 0 3 0 0),(7,.ptr 5 3 0 0),(6,.ptr 2 3 0 0),(4,.ptr 1 3 0 0)],7,[(0,some ⟨51,3,true,false,[g.row]⟩),(1,some ⟨51,3,true,false,[[.sl 0 true [],lv 0,lv 0]]⟩),(2,some ⟨51,3,true,false,[[.own 3,lv g.acked,lv g.bytes]]⟩),(3,some ⟨90,4,false,false,outs g.held⟩),(5,some ⟨51,3,true,false,[[.own 6,lv x.acked,lv x.bytes]]⟩),(6,some ⟨90,4,false,false,outs x.held⟩)],0⟩):=⟨_,rfl⟩
  refine lX I (id) (by rw [hI];exact ⟨0,g,by simp,rfl,⟨rfl,rfl,by omega⟩,rfl⟩) ?_
  intro kk ss hIk _
  rw [hI] at hIk;obtain ⟨i,x,hi,rfl,hx,rfl⟩:=hIk;obtain ⟨hx1,hx2,hx3⟩:=hx;refine au1 @hl2 ?_;intros;apply wr;refine zAC rfl (fun hh=>?_) (fun hh=>?_)
  ·simp at hh;obtain ⟨o,ho,-,ht,-⟩:=get_at hh;have hget:=zDJ ho;have hnx:(l.take (i+1)).foldl zCE g=zCE x o:=by rw [ht,List.foldl_append,<- hx1];rfl
   have hlx:=zBD x.held;refine au1 @hget ?_;intros;apply wr;by_cases hk:o.kind≠1/\o.kind≠2
   ·have hE:zCE x o=x:=by unfold zCE;rw [if_pos hk]
    rw [hE] at hnx;obtain ⟨k1,k2⟩:=hk
    (refine au1 (kX2 @k1 @k2) ?_;intros;apply wr)
    repeat' ((first|(refine zAC rfl (fun h=>?_) (fun h=>?_)<;>(first|(simp [k1,k2] at h;done)|(simp [k1,k2] at h)|skip)<;>(first|(exfalso;omega)|skip))|exact rt1 (kX2 @k1 @k2)|fail)<;>(refine au1 (kX2 @k1 @k2) ?_;intros;apply wr))
    exact aX (id) (by rw [hI];exact ⟨i+1,x,by omega,rfl,⟨hnx.symm,hx2,by omega⟩,rfl⟩) (zAA (n:=(i:Int)+1) (by omega) (by omega))
   by_cases ha:g.acked<=o.at_
   ·have hE:zCE x o={x with held:=x.held++[o]}:=by unfold zCE;rw [if_neg hk,hx2,if_pos ha]
    rw [hE] at hnx
    (refine au1 (kX3 @ha @hlx @maxLen.eq_1) ?_;intros;apply wr)
    repeat' ((first|(refine zAC rfl (fun h=>?_) (fun h=>?_)<;>(first|(simp [ha,hlx,maxLen] at h;done)|(simp [ha,hlx,maxLen] at h)|skip)<;>(first|(exfalso;omega)|skip))|exact rt1 (kX3 @ha @hlx @maxLen.eq_1)|fail)<;>(refine au1 (kX3 @ha @hlx @maxLen.eq_1) ?_;intros;apply wr))
    exact aX (fun x=>if x=6 then 9 else x) (by rw [hI];exact ⟨i+1,({x with held:=x.held++[o]}),by omega,rfl,⟨hnx.symm,hx2,by simp;omega⟩,rfl⟩) (kX3 (zAA (n:=(i:Int)+1) (by omega) (by omega)) @zGG @zR4)
   by_cases hb:o.kind=1
   ·have hE:zCE x o={x with bytes:=lw (x.bytes+1)}:=by unfold zCE;rw [if_neg hk,hx2,if_neg ha,if_pos hb]
    rw [hE] at hnx
    (refine au1 (kX2 @ha @hb) ?_;intros;apply wr)
    repeat' ((first|(refine zAC rfl (fun h=>?_) (fun h=>?_)<;>(first|(simp [ha,hb] at h;done)|(simp [ha,hb] at h)|skip)<;>(first|(exfalso;omega)|skip))|exact rt1 (kX2 @ha @hb)|fail)<;>(refine au1 (kX2 @ha @hb) ?_;intros;apply wr))
    exact aX (id) (by rw [hI];exact ⟨i+1,({x with bytes:=lw (x.bytes+1)}),by omega,rfl,⟨hnx.symm,hx2,by simp;omega⟩,rfl⟩) (zAA (n:=(i:Int)+1) (by omega) (by omega))
   have hE:zCE x o=x:=by unfold zCE;rw [if_neg hk,hx2,if_neg ha,if_neg hb]
   rw [hE] at hnx;have hk2:o.kind=2:=by omega
   (refine au1 (kX2 @ha @hk2) ?_;intros;apply wr)
   repeat' ((first|(refine zAC rfl (fun h=>?_) (fun h=>?_)<;>(first|(simp [ha,hk2] at h;done)|(simp [ha,hk2] at h)|skip)<;>(first|(exfalso;omega)|skip))|exact rt1 (kX2 @ha @hk2)|fail)<;>(refine au1 (kX2 @ha @hk2) ?_;intros;apply wr))
   exact aX (id) (by rw [hI];exact ⟨i+1,x,by omega,rfl,⟨hnx.symm,hx2,by omega⟩,rfl⟩) (zAA (n:=(i:Int)+1) (by omega) (by omega))
  simp at hh;rw [zGN hh] at hx1;have hv2:=zKy x;refine au ?_;intros;apply wr;exact wx1 (qX1 (hv2)) trivial (kX2 @zDh.eq_1 @hg)
def rels (l:List (OutD × Int)):List (List V):=l.map fun p=>[iv p.1.kind,lv p.1.at_,uv p.1.block,.str p.1.data,lv p.2]
@[simp] theorem nil_rels:rels []=[]:=rfl
theorem zMc (l:List (OutD × Int)):(rels l).length=l.length:=by simp [rels]
theorem zGJ (a b:List (OutD × Int)):rels (a++b)=rels a++rels b:=by simp [rels]
theorem zPs (o:OutD) (k:Int):zAD prog 108 [.st o.row,.iptr [lv k]] (.bool (decide (k<=o.at_))):=by
 refine sZ func108 ntmps108 ?_;exact wx trivial trivial
theorem zVI (k:Int) (l:List OutD):(relN k l).length<=l.length:=(List.takeWhile_sublist _).length_le
theorem zKK (k:Int):∀ l:List OutD,relN k l=l.take (relN k l).length
 | []=>rfl
 | o::l=>by
  unfold relN at *
  rw [List.takeWhile_cons];split
  ·rw [zWG,List.take_succ_cons];exact congrArg _ (zKK k l)
  rfl
theorem zRg (l:List OutD) (k:Int):zAD prog 107 [.sl 4 false (outs l),.clo 108 [.iptr [lv k]]] (iv (if (relN k l).length<l.length then ((relN k l).length:Int) else -1)):=by
 have hl:=zBD l;refine zAD.lens (by kernel_rfl) fun hlens=>?_
 simp [zK4,zK5,zEd,maxLen] at hlens;refine sY func107 ntmps107 @hl ?_;intros;apply wr;simp only [hl] at hlens;obtain ⟨I,hI⟩:∃ I:Nat->St->Prop,I=(fun kk ss=>∃ (i:Nat) ,i<=l.length/\kk=l.length-i/\((relN k l).length=i+(relN k (l.drop i)).length)/\ss=⟨19,[(8,.int .i64 i),(7,.int .i64 l.length),(1,.clo 108 [.iptr [lv k]]),(0,.sl 4 false (outs l))],0,[],0⟩):=⟨_,rfl⟩
 refine lX I (id) (by rw [hI];exact ⟨0,by simp,rfl,by simp,rfl⟩) ?_
 intro kk ss hIk _
 rw [hI] at hIk;obtain ⟨i,hi,rfl,hx,rfl⟩:=hIk;refine au1 @hl ?_;intros;apply wr;refine zAC rfl (fun hh=>?_) (fun hh=>?_)
 ·simp at hh;obtain ⟨o,ho,hd,-,-⟩:=get_at hh;have hget:=zDJ ho;rw [hd] at hx;have ht:relN k (o::l.drop (i+1))=if o.at_<k then o::relN k (l.drop (i+1)) else []:=by
   unfold relN;rw [List.takeWhile_cons];simp
  rw [ht] at hx;by_cases hk:k<=o.at_
  ·rw [if_neg (by omega)] at hx
   simp at hx;refine au1 (kX2 @hget @hl) ?_;intros;apply wr;exact wx1 (qX1 (zPs o k)) trivial (kX5 @hk @hget @hl @hx @hh)
  rw [if_pos (by omega)] at hx
  simp at hx;refine au1 (kX2 @hget @hl) ?_;intros;apply wr
  (refine au1 (kX3 @hk @hget @hl) ?_;intros;apply wr)
  repeat' ((first|(refine zAC rfl (fun h=>?_) (fun h=>?_)<;>(first|(simp [hk,hget,hl] at h;done)|(simp [hk,hget,hl] at h)|skip)<;>(first|(exfalso;omega)|skip))|refine cc1 (zPs o k) (kX3 @hk @hget @hl) ?_|exact rt1 (kX3 @hk @hget @hl)|fail)<;>(refine au1 (kX3 @hk @hget @hl) ?_;intros;apply wr))
  exact aX (id) (by rw [hI];exact ⟨i+1,by omega,rfl,by omega,rfl⟩) (zAA (n:=(i:Int)+1) (by omega) (by omega))
 simp at hh;rw [zBc hh] at hx;have hn:¬ (relN k l).length<l.length:=by rw [hx];simp [relN];omega
 refine au ?_;intros;apply wr;refine zAB ?_;simp [hn]
theorem zU2 (l:List OutD) (n:Nat):(outs l).take n=outs (l.take n):=by simp [outs,List.map_take]
theorem zU1 (l:List OutD) (n:Nat):(outs l).drop n=outs (l.drop n):=by simp [outs,List.map_drop]
theorem zFR (g:GateD) (k:Int) (h1:g.held.length<=50000):zAD prog 51 [.st g.row,lv k] (.tup [.st (relD g k).1.row,.sl 5 false (rels (relD g k).2)]):=by
 have hl:=zBD g.held;have hc:=zLm (outs g.held) false 4 (.inl rfl) (by omega)
 have hv:=zKy g;by_cases hg:zB9 g=true/\g.acked<k
 ·obtain ⟨hg1,hg2⟩:=hg;have hE:relD g k=(⟨g.held.drop (relN k g.held).length,k,(relL g.bytes (relN k g.held)).1⟩,(relL g.bytes (relN k g.held)).2):=by unfold relD;rw [if_pos ⟨hg1,hg2⟩]
  rw [hE,zKK k g.held];have hi:=zRg g.held k;have hle:=zVI k g.held;generalize (relN k g.held).length=n at *
  have hmin:min n g.held.length=n:=Nat.min_eq_left hle;rw [hg1] at hv;have hc2:=zLm (outs (g.held.drop n)) false 4 (.inl rfl) (by rw [zBD];simp;omega)
  have hlt:(g.held.take n).length=n:=by simp;omega
  obtain ⟨L,hL⟩:∃ L,L=g.held.take n:=⟨_,rfl⟩;rw [<- hL] at hlt ⊢;have hLl:=zBD L;have htd:=zU2 g.held n;have hdd:=zU1 g.held n;rw [<- hL] at htd;have hg3:¬ k<=g.acked:=by omega
  have hdl:(outs (g.held.drop n)).length=g.held.length-n:=by rw [zBD,zWF]
  have hdl2:(outs g.held).drop g.held.length=[]:=by rw [<- hl];exact List.drop_length
  have htl:(outs g.held).take g.held.length=outs g.held:=by rw [<- hl];exact List.take_length
  by_cases hn:n<g.held.length
  ·have hn0:¬ (n:Int)<0:=by omega
   simp only [hn,if_true] at hi;refine sY func51 ntmps51 @hl ?_;intros;apply wr;refine cY (hv) @hg3 ?_;intros;apply wr;refine gF10 @hg3 rfl ?_;intros;apply wr;refine cX (hi) ?_;intros;apply wr;refine gF11 @hn0 rfl (kX6 @htd @hdd @hmin @hle @hl @htl) ?_;intros;apply wr;refine cY (hc2) (kX7 @htd @hdd @hmin @hle @hl @htl @hLl) ?_;intros;apply wr;refine zAT 8 206 5 (by decide) rfl ?_
   obtain ⟨I,hI⟩:∃ I:Nat->St->Prop,I=(fun kk ss=>∃ (i:Nat) (b:Int) (acc:List (OutD × Int)),i<=L.length/\kk=L.length-i/\(relL g.bytes L=((relL b (L.drop i)).1,acc++(relL b (L.drop i)).2)/\acc.length<=i)/\ss=⟨71,[(49,.int .i64 i),(48,.int .i64 L.length),(47,.sl 4 false (outs L)),(6,.ptr 3 3 0 0),(4,.ptr 2 3 0 0),(8,.own 7)],8,[(3,some ⟨51,3,true,false,[[.own 6,lv k,lv b]]⟩),(2,some ⟨51,3,true,false,[[.sl 0 true [],lv 0,lv 0]]⟩),(6,some ⟨90,4,false,false,outs (g.held.drop n)⟩),(7,some ⟨206,5,false,false,rels acc⟩)],0⟩):=⟨_,rfl⟩
   refine lX I (id) (by rw [hI];exact ⟨0,g.bytes,[],by simp,rfl,⟨by simp,by simp⟩,rfl⟩) ?_
   intro kk ss hIk _
   rw [hI] at hIk;obtain ⟨i,b,acc,hi,rfl,hx,rfl⟩:=hIk;obtain ⟨hx1,hx2⟩:=hx;refine au1 @hLl ?_;intros;apply wr;refine zAC rfl (fun hh=>?_) (fun hh=>?_)
   ·simp at hh;obtain ⟨o,ho,hd,-,-⟩:=get_at hh;have hget:=zDJ ho;rw [hd] at hx1;have hla:=zMc acc;have hLl3:L.length<=50000:=by omega
    by_cases hk:o.kind=1
    ·have hE:relL b (o::L.drop (i+1))=((relL (lw (b+1)) (L.drop (i+1))).1,(o,b)::(relL (lw (b+1)) (L.drop (i+1))).2):=by rw [relL,if_pos hk]
     rw [hE] at hx1;refine au1 @hget ?_;intros;apply wr
     (refine au1 (kX3 @hk @hla @maxLen.eq_1) ?_;intros;apply wr)
     repeat' ((first|(refine zAC rfl (fun h=>?_) (fun h=>?_)<;>(first|(simp [hk,hla,maxLen] at h;done)|(simp [hk,hla,maxLen] at h)|skip)<;>(first|(exfalso;omega)|skip))|exact rt1 (kX3 @hk @hla @maxLen.eq_1)|fail)<;>(refine au1 (kX3 @hk @hla @maxLen.eq_1) ?_;intros;apply wr))
     exact aX (fun x=>if x=7 then 10 else x) (by rw [hI];exact ⟨i+1,(lw (b+1)),(acc++[(o,b)]),by omega,rfl,⟨by simpa using hx1,by simp;omega⟩,rfl⟩) (kX4 (zAA (n:=(i:Int)+1) (by omega) (by omega)) @zGJ @rels.eq_1 @hk)
    have hE:relL b (o::L.drop (i+1))=((relL b (L.drop (i+1))).1,(o,0)::(relL b (L.drop (i+1))).2):=by rw [relL,if_neg hk]
    rw [hE] at hx1;refine au1 @hget ?_;intros;apply wr
    (refine au1 (kX3 @hk @hla @maxLen.eq_1) ?_;intros;apply wr)
    repeat' ((first|(refine zAC rfl (fun h=>?_) (fun h=>?_)<;>(first|(simp [hk,hla,maxLen] at h;done)|(simp [hk,hla,maxLen] at h)|skip)<;>(first|(exfalso;omega)|skip))|exact rt1 (kX3 @hk @hla @maxLen.eq_1)|fail)<;>(refine au1 (kX3 @hk @hla @maxLen.eq_1) ?_;intros;apply wr))
    exact aX (fun x=>if x=7 then 10 else x) (by rw [hI];exact ⟨i+1,b,(acc++[(o,0)]),by omega,rfl,⟨by simpa using hx1,by simp;omega⟩,rfl⟩) (kX4 (zAA (n:=(i:Int)+1) (by omega) (by omega)) @zGJ @rels.eq_1 @hk)
   simp at hh;rw [zBc hh] at hx1;refine au ?_;intros;apply wr;refine zAI ?_;refine zAB ?_;simp [hx1,relL,hlt]
  have hn2:n=g.held.length:=by omega
  simp only [hn,if_false] at hi;subst hn2;rw [List.take_length] at hL;subst hL;rw [List.drop_length] at hc2 ⊢;simp only [zRw] at hc2 ⊢;refine sY func51 ntmps51 @hl ?_;intros;apply wr;refine cY (hv) @hg3 ?_;intros;apply wr;refine gF10 @hg3 rfl ?_;intros;apply wr;refine cX (hi) ?_;intros;apply wr;refine gT01 rfl (kX3 @hl @htl @hdl2) ?_;intros;apply wr;refine cY (hc2) (kX4 @hl @htl @hdl2 @hLl) ?_;intros;apply wr;refine zAT 8 206 5 (by decide) rfl ?_
  obtain ⟨I,hI⟩:∃ I:Nat->St->Prop,I=(fun kk ss=>∃ (i:Nat) (b:Int) (acc:List (OutD × Int)),i<=g.held.length/\kk=g.held.length-i/\(relL g.bytes g.held=((relL b (g.held.drop i)).1,acc++(relL b (g.held.drop i)).2)/\acc.length<=i)/\ss=⟨71,[(49,.int .i64 i),(48,.int .i64 g.held.length),(47,.sl 4 false (outs g.held)),(6,.ptr 3 3 0 0),(4,.ptr 2 3 0 0),(8,.own 7)],8,[(3,some ⟨51,3,true,false,[[.own 6,lv k,lv b]]⟩),(2,some ⟨51,3,true,false,[[.sl 0 true [],lv 0,lv 0]]⟩),(6,some ⟨90,4,false,false,[]⟩),(7,some ⟨206,5,false,false,rels acc⟩)],0⟩):=⟨_,rfl⟩
  refine lX I (id) (by rw [hI];exact ⟨0,g.bytes,[],by simp,rfl,⟨by simp,by simp⟩,rfl⟩) ?_
  intro kk ss hIk _
  rw [hI] at hIk;obtain ⟨i,b,acc,hi,rfl,hx,rfl⟩:=hIk;obtain ⟨hx1,hx2⟩:=hx;refine au1 @hLl ?_;intros;apply wr;refine zAC rfl (fun hh=>?_) (fun hh=>?_)
  ·simp at hh;obtain ⟨o,ho,hd,-,-⟩:=get_at hh;have hget:=zDJ ho;rw [hd] at hx1;have hla:=zMc acc;have hLl3:g.held.length<=50000:=by omega
   by_cases hk:o.kind=1
   ·have hE:relL b (o::g.held.drop (i+1))=((relL (lw (b+1)) (g.held.drop (i+1))).1,(o,b)::(relL (lw (b+1)) (g.held.drop (i+1))).2):=by rw [relL,if_pos hk]
    rw [hE] at hx1;refine au1 @hget ?_;intros;apply wr
    (refine au1 (kX3 @hk @hla @maxLen.eq_1) ?_;intros;apply wr)
    repeat' ((first|(refine zAC rfl (fun h=>?_) (fun h=>?_)<;>(first|(simp [hk,hla,maxLen] at h;done)|(simp [hk,hla,maxLen] at h)|skip)<;>(first|(exfalso;omega)|skip))|exact rt1 (kX3 @hk @hla @maxLen.eq_1)|fail)<;>(refine au1 (kX3 @hk @hla @maxLen.eq_1) ?_;intros;apply wr))
    exact aX (fun x=>if x=7 then 10 else x) (by rw [hI];exact ⟨i+1,(lw (b+1)),(acc++[(o,b)]),by omega,rfl,⟨by simpa using hx1,by simp;omega⟩,rfl⟩) (kX4 (zAA (n:=(i:Int)+1) (by omega) (by omega)) @zGJ @rels.eq_1 @hk)
   have hE:relL b (o::g.held.drop (i+1))=((relL b (g.held.drop (i+1))).1,(o,0)::(relL b (g.held.drop (i+1))).2):=by rw [relL,if_neg hk]
   rw [hE] at hx1;refine au1 @hget ?_;intros;apply wr
   (refine au1 (kX3 @hk @hla @maxLen.eq_1) ?_;intros;apply wr)
   repeat' ((first|(refine zAC rfl (fun h=>?_) (fun h=>?_)<;>(first|(simp [hk,hla,maxLen] at h;done)|(simp [hk,hla,maxLen] at h)|skip)<;>(first|(exfalso;omega)|skip))|exact rt1 (kX3 @hk @hla @maxLen.eq_1)|fail)<;>(refine au1 (kX3 @hk @hla @maxLen.eq_1) ?_;intros;apply wr))
   exact aX (fun x=>if x=7 then 10 else x) (by rw [hI];exact ⟨i+1,b,(acc++[(o,0)]),by omega,rfl,⟨by simpa using hx1,by simp;omega⟩,rfl⟩) (kX4 (zAA (n:=(i:Int)+1) (by omega) (by omega)) @zGJ @rels.eq_1 @hk)
  simp at hh;rw [zBc hh] at hx1;refine au ?_;intros;apply wr;refine zAI ?_;refine zAB ?_;simp [hx1,relL,hl]
 have hE:relD g k=(g,[]):=by unfold relD;rw [if_neg hg]
 rw [hE];cases hg1:zB9 g with
 | true =>
  rw [hg1] at hv;have hg2:¬ g.acked<k:=fun z=>hg ⟨hg1,z⟩
  refine sY func51 ntmps51 @hl ?_;intros;apply wr;exact wx1 (qX2 (hc) (hv)) trivial @hg2
 | false =>
  rw [hg1] at hv;refine sY func51 ntmps51 @hl ?_;intros;apply wr;exact wx (qX2 (hc) (hv)) trivial
theorem zKZ {C D E G:Prop} (c:C) (d:D) (e:E) (t:C->D->E->G:=by intro c d e;(refine au1 e ?_;(repeat intro K hK);apply wr);repeat' ((first|(refine zAC rfl (fun h=>?_) (fun h=>?_)<;>(first|(simp [e] at h;done)|(simp [e] at h)|skip)<;>(first|(exfalso;omega)|skip))|((first|refine .inl ⟨1,_,d.1,?_⟩|refine ⟨1,_,d.1,?_⟩);simp [aftC,aftE,noX,noXc,noX1,e];first|refine And.intro zAM ?_|skip)|((first|refine .inl ⟨1,_,d.2.1,?_⟩|refine ⟨1,_,d.2.1,?_⟩);simp [aftC,aftE,noX,noXc,noX1,e];first|refine And.intro zAM ?_|skip)|refine cc1 c.1 e ?_|refine cc1 c.2.1 e ?_|refine cc1 c.2.2.1 e ?_|refine cc1 c.2.2.2.1 e ?_|refine cc1 c.2.2.2.2.1 e ?_|refine cc1 c.2.2.2.2.2.1 e ?_|refine zAX 3 ?_|refine zAk fun K hK=>?_|exact rt1 e|fail)<;>(refine au1 e ?_;(repeat intro K hK);apply wr))):G:=t c d e
theorem infoE:∃ (j:TypeInfo) (z:Value),prog.info? 84=some j/\j.size=4/\j.bytes=40/\j.zero=some z/\z.cells.size=4:=by
 have h:(prog.info? 84).map (fun j=>(j.size,j.bytes,j.zero.map fun z=>z.cells.size))=some (4,40,some 4):=by kernel_rfl
 obtain ⟨j,hj,e⟩:=Option.map_eq_some_iff.1 h;simp only [Prod.mk.injEq] at e;obtain ⟨z,hz,e3⟩:=Option.map_eq_some_iff.1 e.2.2;exact ⟨j,z,hj,e.1,e.2.1,hz,e3⟩
theorem zRT (n:Nat) (h0:0<n) (hn:n<=100000) (w:World):Calls prog 132 #[.slice none 0 0,.int .i64 n] w fun e w' =>
  ∃ (cap:Nat) (cur:Array Value),e=.returned (.slice (some ⟨w.heap.size,0,none⟩) 0 cap)/\cap<=maxLen/\cur.size=cap*4/\w'=w.drew.alloc (.cells cur 84):=by
 obtain ⟨j,z,hj,hs,hb,hz,hzs⟩:=infoE;have h1:¬ ((n:Int)<0):=by omega
 have h2:wrap64 ((0:Int)-(0:Int))=0:=by unfold wrap64;omega
 have h3:wrap64 ((n:Int)-0)=(n:Int):=by unfold wrap64;omega
 have h4:(n:Int) > 0:=by omega
 have hrz:∀ ty,(Builtin.append_ #[43,3] ty #[.slice none 0 0,.int .i64 (n:Int)]).run prog w =
   .ok (.slice (some ⟨w.heap.size,0,none⟩) n (grownCap w n 0 84)) (w.drew.alloc (.cells (Builtin.zeroCells z.cells n++Builtin.zeroCells z.cells (grownCap w n 0 84-n)) 84)):=fun ty=>by
  have h:=Lib.run_append_grow_zeros w 43 3 ty 84 j z .i64 .i64 Tryz.underlying43 Tryz.underlying3 hj hz none 0 0 [] (run_firstCells_none w.drew j.size 0 0 0) n h0 (by omega) (by omega) (by omega)
   (by rw [hb];omega) (by rw [hb];exact growslice_fits (by omega) (by omega))
  simpa using h
 clear hz;generalize z.cells=zc at *
 have hGn:n<=grownCap w n 0 84:=grownCap_ge w _ _ _;have hG63:=grownCap_le_maxLen w n 0 84 (by unfold maxLen;omega)
 generalize grownCap w n 0 84=G at *
 have hG':G<=9223372036854775807:=by unfold maxLen at hG63;omega
 go_enter func132,ntmps132
 go_wp2_with (at_builtin;refine Lib.wpList_append_run _ rfl _ _ _ _ rfl _ _ rfl rfl _ _ (hrz _) ?_)
 all_goals (go_ret;exact ⟨G,rfl,hG63,_,by simp only [Array.size_append,size_zeroCells,hzs];omega,rfl⟩)
theorem zUe (n:Nat) (h0:0<n) (hn:n<=100000):zAD prog 132 [.sl 0 true [],iv n] (.new 84 4 []):=by
 refine ⟨by kernel_rfl,fun w Xa vals M hXa hs hrr=>?_⟩
 obtain ⟨A,c',f,hu,_,_,_,hnil,_⟩:=R_sl (hrr 0 _ rfl);obtain ⟨rfl,rfl⟩:=hnil rfl;have hv1:=zB7 (hrr 1 _ rfl);have hv:vals=#[.slice none 0 0,.int .i64 (n:Int)]:=by
  apply Array.ext
  ·simpa using hs
  intro i hi hi'
  have:i=0\/i=1:=by simp at hi';omega
  rcases this with rfl|rfl
  ·simpa [Array.getD,hi] using hu
  simpa [Array.getD,hi] using hv1
 rw [hv];refine (zRT n h0 hn w).mono ?_;rintro e w' ⟨cap,cur,rfl,hcap,hcur,rfl⟩;have hB:Below w.heap.size w (w.drew.alloc (.cells cur 84)):=⟨rfl,rfl,rfl,by simp,fun k hk=>by
  rw [Below.heap_alloc _ _ _ (by simpa using hk)];rfl⟩
 have hnew:(w.drew.alloc (.cells cur 84)).heap[w.heap.size]? =some (.cells cur 84 (0,0)):=World.alloc_heap_new w.drew _;refine ⟨_,rfl,hB,fun M n' hM=>?_⟩
 have hM0:=hM 0 (by simp [V.fcells,V.cells])
 simp [zHN,Value.cells] at hM0;refine ⟨?_,?_,?_⟩
 ·exact .own _ _ _ _ _ (by simp [V.fcells,V.cells]) hM0
 ·intro id o ho
  simp [V.fcells,V.cells,obsL,lookO] at ho;obtain ⟨rfl,rfl⟩:=ho;refine ⟨fun _=>by decide,fun _=>by rw [hM0];rfl,by simp,[],?_,by simp,fun j u h=>by simp at h⟩
  rw [hM0];exact ⟨by simp,.inr (.inl ⟨w.heap.size,0,cap,cur,rfl,zV9 _,.plain hnew,Nat.zero_le _,hcap,by rw [zWV];exact hcur,by simp⟩)⟩
 intro id id' o o' g ho ho' hne
 simp [V.fcells,V.cells,obsL,lookO] at ho ho';omega
theorem zGU (a b:List EntD) (ha:a.length<=50000) (hb:b.length<=50000):zAD prog 78 [.sl 1 false [[zBZ a],[zBZ b]]] (zBZ (a++b)):=by
 rcases Nat.eq_zero_or_pos (a.length+b.length) with hz|hpos
 ·obtain rfl:a=[]:=List.length_eq_zero_iff.1 (by omega)
  obtain rfl:b=[]:=List.length_eq_zero_iff.1 (by omega)
  have hg0:zAD prog 132 [.sl 0 true [],iv 0] (.sl 0 true []):=by
   refine sZ func132 ntmps132 ?_;exact wx1 trivial trivial @i64c
  refine sX func78 ntmps78 ?_;intros;apply wr;exact zKZ (qX1 (hg0)) trivial @i64c
 have la:=zAt a;have lb:=zAt b;have hab:=zIS a b;have hg:=zUe (a.length+b.length) hpos (by omega)
 push_cast at hg
 have w1:IntKind.i64.wrap (a.length:Int)=a.length:=zAA (by omega) (by omega)
 have w2:IntKind.i64.wrap ((a.length:Int)+b.length)=a.length+b.length:=zAA (by omega) (by omega)
 have n1:¬ (a.length:Int)<0:=by omega
 have n2:¬ (a.length:Int)+b.length<0:=by omega
 refine sX func78 ntmps78 ?_;intros;apply wr;exact zKZ (qX1 (hg)) trivial (kX9 @la @lb @w1 @w2 @n1 @n2 @maxLen.eq_1 @hab @i64c)
end Go.Proofs.YthjpcmecgjfilaaGreat
end
