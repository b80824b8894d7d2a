/- A part of the proof of ReplicaBare+ReplicaWindow. -/
import Derived.Test.YtoondlebmacanaaGreatB04
import Derived.Test.YtoondlebmacanaaGreatB15
import Derived.Test.YtoondlebmacanaaGreatB19
import Derived.Lib.AppendZerosOnto
import Derived.Lib.SliceRun
import Derived.Lib.Walk
set_option linter.unusedSimpArgs false
set_option linter.unusedVariables false
set_option maxHeartbeats 16000000
set_option maxRecDepth 100000
section
namespace Go.Proofs.YtoondlebmacanaaGreat
open Go.Ab Go.RowKit
def keyH (s:Str):Int:=match s with|[]=>4294967295|b::_=>(b.toNat:Int)
def zDR (s:Str) (port:Int):Str × Int:=if port=0 then (s.tail,keyH s) else if port=1 then (s,s.length) else (s,0)
def zD6 (s:Str) (b:UInt8):Str × Bool:=if 16≤s.length then (s,false) else (s++[b],true)
def armD (v:Int):TimD:=⟨!decide (v=0),v,false⟩
def zDt (t:TimD):TimD × Bool:=if t.armed=true then (⟨false,t.dl,true⟩,true) else (t,false)
def dueD (t:TimD) (now:Int):Bool:=t.armed&&decide (t.dl≤now)
def zN2 (t:TimD):Int:=b2w t.fired
def zKd (d:DskD) (port:Int):Int:=if port=4 then d.block else if port=5 then d.frame else if port=6 then uw d.state else 0
def zBj (d:DskD):Bool:=decide (d.state=2)||decide (d.state=3)
def zBP (w:Int):Str:=[UInt8.ofNat (w % 256).toNat,UInt8.ofNat (w / 256 % 256).toNat,UInt8.ofNat (w / 65536 % 256).toNat,UInt8.ofNat (w / 16777216 % 256).toNat]
def zBS (mem:List Int) (f:Int):Str:=((mem.take (f*32+32).toNat).drop (f*32).toNat).flatMap zBP
def zDP (s:Str) (i:Nat):Int:=(s.getD (4*i) 0).toNat+(s.getD (4*i+1) 0).toNat*256+(s.getD (4*i+2) 0).toNat*65536+(s.getD (4*i+3) 0).toNat*16777216
def putW (mem:List Int) (o:Nat) (s:Str):Nat→List Int
 | 0=>mem
 | i+1=>(putW mem o s i).set (o+i) (zDP s i)
def zBV (mem:List Int) (f:Int) (s:Str):List Int:=putW mem (f*32).toNat s 32
def zA3 (d:DskD) (at_:Int):OutD × Bool :=
 if d.state=1∧d.cmd=1 then (⟨3,at_,d.opBlock,[]⟩,true) else if d.state=1∧d.cmd=2 then (⟨4,at_,d.opBlock,d.opData⟩,true) else (⟨0,0,0,[]⟩,false)
def zAo (d:DskD) (mem:List Int) (cmd at_:Int):DskD × List OutD :=
 if d.state≠0 then (d,[])
 else if d.blocks≤d.block∨pagesD mem≤d.frame then ({d with state:=3},[])
 else ({d with state:=1,cmd:=cmd,opBlock:=d.block,opFrame:=d.frame,opData:=if cmd=2 then zBS mem d.frame else []},
  [(zA3 {d with state:=1,cmd:=cmd,opBlock:=d.block,opFrame:=d.frame,opData:=if cmd=2 then zBS mem d.frame else []} at_).1])
def zAn (d:DskD) (mem:List Int) (port v at_:Int):DskD × List OutD :=
 if port=4 then ({d with block:=v},[])
 else if port=5 then ({d with frame:=v},[])
 else if port=6 then
  if v=1∨v=2 then zAo d mem v at_
  else if v=0∧zBj d=true then ({d with state:=0},[])
  else (d,[])
 else (d,[])
def doneD (d:DskD) (n:Int):DskD:={d with state:=if n=1 then 2 else 3,cmd:=0,opBlock:=0,opFrame:=0,opData:=[]}
def zAM (d:DskD) (mem:List Int) (e:EvD):DskD × List Int × Bool :=
 if d.state≠1∨e.kind≠4∨1<e.n then (d,mem,false)
 else if e.n=1∧d.cmd=1 then
  if d.opFrame<pagesD mem∧e.data.length=128 then (doneD d e.n,zBV mem d.opFrame e.data,true) else (d,mem,false)
 else if e.data=[] then (doneD d e.n,mem,true) else (d,mem,false)
def zKv (n:NicD) (port:Int):Int:=if port=7 then n.frame else if port=8 then n.got else if port=9 then b2w n.posted+b2w n.received*2 else 0
def zAd (n:NicD) (mem:List Int) (port v at_:Int):NicD × List OutD :=
 if port=7 then ({n with frame:=v},[])
 else if port=8 then ({n with len:=v},[])
 else if port=9 then
  if v=1 then (n,if 1≤n.len∧n.len≤128∧n.frame<pagesD mem then [⟨2,at_,0,(zBS mem n.frame).take n.len.toNat⟩] else [])
  else if v=2 then (if n.frame<pagesD mem∧n.posted=false∧n.received=false then {n with posted:=true,buffer:=n.frame} else n,[])
  else if v=0 then ({n with received:=false,got:=0},[])
  else (n,[])
 else (n,[])
def zAe (n:NicD) (mem:List Int) (s:Str):NicD × List Int × Bool :=
 if n.posted=true∧1≤s.length∧s.length≤128∧n.buffer<pagesD mem then
  ({n with posted:=false,buffer:=0,received:=true,got:=s.length},zBV mem n.buffer (s++(zBS mem n.buffer).drop s.length),true)
 else (n,mem,false)
def countB (g:Int):Int:=(List.range 32).foldl (fun n i=>n+g / 2 ^ i % 2) 0
def zI3 (t g port:Int):Int:=if port=10 then t else if port=11 then countB g else 0
def zBK (t g:Int):Bool:=!decide (countB g=t)
def zB3:Str:=List.replicate 128 0
def zAh (g:Int) (mem:List Int) (port v:Int):Int × List Int :=
 if 32≤v then (g,mem)
 else if port=10 then
  if v<pagesD mem∧g / 2 ^ v.toNat % 2=0 then (ior .u32 g (2 ^ v.toNat),zBV mem v zB3) else (g,mem)
 else if port=11 then (zAV .u32 g (2 ^ v.toNat),mem)
 else (g,mem)
def zFt (m:MchD):Int:=b2w m.tim.fired+b2w (!decide (m.keys=[]))*2+b2w (zBj m.dk)*4+b2w m.nc.received*8+b2w (zBK m.tgt m.given)*16
def enD (m:MchD):Int:=iand .u32 (zFt m) (m.cpu.csr 7)
def lowB (e:Int):Option Int:=if e % 2=1 then some 0 else if e / 2 % 2=1 then some 1 else if e / 4 % 2=1 then some 2 else if e / 8 % 2=1 then some 3 else if e / 16 % 2=1 then some 4 else none
def zKk (m:MchD):Bool:=m.waiting&&decide (enD m=0)
def runsD (m:MchD):Bool:=mayD m&&!m.halted&&!zKk m&&decide (m.count<1152921504606846976)
def zAO (m:MchD):MchD :=
 if m.cpu.csr 0 / 2 % 2=0 then {m with waiting:=false}
 else match lowB (enD m) with
  | none=>{m with waiting:=false}
  | some i=>{m with waiting:=false,cpu:=zA4 m.cpu (16+i) 0}
def effD (m:MchD):EffD:=(zAr (zAO m).cpu m.mem).2.2
def readsD (m:MchD):Bool:=runsD m&&(decide ((effD m).kind=1)&&decide ((effD m).port=2))
def zAS (m:MchD) (port clock:Int):MchD × Int :=
 if port=0∨port=1 then ({m with keys:=(zDR m.keys port).1},(zDR m.keys port).2)
 else if port=2 then (m,clock)
 else if port=3 then (m,zN2 m.tim)
 else if port=4∨port=5∨port=6 then (m,zKd m.dk port)
 else if port=7∨port=8∨port=9 then (m,zKv m.nc port)
 else if port=10∨port=11 then (m,zI3 m.tgt m.given port)
 else (m,0)
def zAJ (m:MchD) (port v at_:Int):MchD × List OutD :=
 if port=0 then (m,[⟨1,at_,0,[UInt8.ofNat (v % 256).toNat]⟩])
 else if port=3 then ({m with tim:=armD v},[])
 else if port=4∨port=5∨port=6 then ({m with dk:=(zAn m.dk m.mem port v at_).1},(zAn m.dk m.mem port v at_).2)
 else if port=7∨port=8∨port=9 then ({m with nc:=(zAd m.nc m.mem port v at_).1},(zAd m.nc m.mem port v at_).2)
 else if port=10∨port=11 then ({m with given:=(zAh m.given m.mem port v).1,mem:=(zAh m.given m.mem port v).2},[])
 else (m,[])
def zBQ (m:MchD) (e:EffD) (clock at_:Int):MchD × List OutD :=
 if e.kind=1 then ({(zAS m e.port clock).1 with cpu:=(zAS m e.port clock).1.cpu.setR e.reg (zAS m e.port clock).2},[])
 else if e.kind=2 then zAJ m e.port e.val at_
 else if e.kind=3 then ({m with waiting:=true},[])
 else if e.kind=4 then ({m with halted:=true},[])
 else (m,[])
def zCC (m:MchD):MchD:={zAO m with cpu:=(zAr (zAO m).cpu m.mem).1,mem:=(zAr (zAO m).cpu m.mem).2.1}
def goD (m:MchD) (clock:Int):MchD × List OutD :=
 ({(zBQ (zCC m) (effD m) clock m.count).1 with count:=(zBQ (zCC m) (effD m) clock m.count).1.count+1},(zBQ (zCC m) (effD m) clock m.count).2)
def stepD (m:MchD) (clock:Int):MchD × List OutD:=if runsD m=true then goD m clock else (m,[])
def applyD (m:MchD) (e:EvD):MchD × Bool :=
 if mayD m=false∨m.halted=true then (m,false)
 else if e.kind=2 then if e.n=0∧e.data=[] then ({m with tim:=(zDt m.tim).1},(zDt m.tim).2) else (m,false)
 else if e.kind=3 then if e.n≤255∧e.data=[] then ({m with keys:=(zD6 m.keys (UInt8.ofNat e.n.toNat)).1},(zD6 m.keys (UInt8.ofNat e.n.toNat)).2) else (m,false)
 else if e.kind=4 then ({m with dk:=(zAM m.dk m.mem e).1,mem:=(zAM m.dk m.mem e).2.1},(zAM m.dk m.mem e).2.2)
 else if e.kind=5 then if e.n=0 then ({m with nc:=(zAe m.nc m.mem e.data).1,mem:=(zAe m.nc m.mem e.data).2.1},(zAe m.nc m.mem e.data).2.2) else (m,false)
 else if e.kind=6 then if e.data=[] then ({m with tgt:=e.n},true) else (m,false)
 else (m,false)
theorem u8_of (w:Int):((UInt8.ofNat (w % 256).toNat).toNat:Int)=IntKind.u8.wrap w:=by rw [UInt8.toNat_ofNat',IntKind.wrap_u8];omega
theorem zHz (w:Int):zAU (zBP w)=[[.int .u8 (IntKind.u8.wrap w)],[.int .u8 (IntKind.u8.wrap (w / 256))],[.int .u8 (IntKind.u8.wrap (w / 65536))],[.int .u8 (IntKind.u8.wrap (w / 16777216))]]:=by
 simp only [zAU,zBP,zWq,List.map_nil,u8_of]
@[simp] theorem bytesX_nil:zAU []=[]:=rfl
@[simp] theorem putW_zero (l:List Int) (o:Nat) (s:Str):putW l o s 0=l:=rfl
theorem zHV (a b:Str):zAU (a++b)=zAU a++zAU b:=by simp [zAU]
theorem zJa (l:List Int):(l.flatMap zBP).length=4*l.length:=by
 induction l with
 | nil=>rfl
 | cons a r ih=>rw [List.flatMap_cons,zWj,ih];simp [zBP];omega
theorem zF5 (x:Int):x.fdiv 256=x / 256:=zWZ _ (by decide)
theorem zCp (x:Int):x.fdiv 65536=x / 65536:=zWZ _ (by decide)
theorem zBL (x:Int):x.fdiv 16777216=x / 16777216:=zWZ _ (by decide)
theorem zWI (l:List Int) (hb:l.length≤1024):zAD Tryz.prog 289 [memV l] (.str (l.flatMap zBP)):=by
 have e3:=zAN .u32 l;have w1:IntKind.i64.wrap (4*(l.length:Int))=4*l.length:=zAB (by omega) (by omega)
 have hb0:zAU []=[]:=rfl;refine sY Tryz.func289 Tryz.ntmps289 (kX3 @e3 @w1 @maxLen.eq_1) ?_;intros;apply wr;obtain ⟨I,hI⟩:∃ I:Nat→St→Prop,I=(fun kk ss=>∃ (i:Nat) (x:Str),i≤l.length∧kk=l.length-i∧(x=(l.take i).flatMap zBP∧x.length=4*i)∧ss=⟨33,[(12,.int .i64 i),(11,.int .i64 l.length),(10,memV l),(3,.own 0)],1,[(0,some ⟨5,1,false,false,zAU x⟩)],0⟩):=⟨_,rfl⟩
 refine lX I (id) (by rw [hI];exact ⟨0,[],by simp,rfl,⟨by simp,rfl⟩,rfl⟩) ?_
 intro kk ss hIk _
 rw [hI] at hIk;obtain ⟨i,x,hi,rfl,hx,rfl⟩:=hIk;obtain ⟨hx1,hx2⟩:=hx;refine au ?_;intros;apply wr;refine zAC rfl (fun hh=>?_) (fun hh=>?_)
 ·simp at hh;obtain ⟨w,hw⟩:∃ w,l[i]? =some w:=⟨_,zWa hh⟩;have hget:=zBU (k:=.u32) hw;have hnx:(l.take (i+1)).flatMap zBP=x++zBP w:=by
   rw [List.take_add_one,hw,List.flatMap_append,← hx1];simp
  have hrow:zAU (x++zBP w)=zAU x++[[.int .u8 (IntKind.u8.wrap w)],[.int .u8 (IntKind.u8.wrap (w / 256))],[.int .u8 (IntKind.u8.wrap (w / 65536))],[.int .u8 (IntKind.u8.wrap (w / 16777216))]]:=by rw [zHV,zHz]
  have hbl:(zAU x).length=4*i:=by simp [zAU,hx2]
  refine au1 (kX7 @hget @hbl @zF5 @zCp @zBL @e3 @maxLen.eq_1) ?_;intros;apply wr;exact aX (fun x=>if x=0 then 2 else x) (by rw [hI];exact ⟨i+1,(x++zBP w),by omega,rfl,⟨hnx.symm,by rw [zWj,hx2];rfl⟩,rfl⟩) (kX2 (zAB (n:=(i:Int)+1) (by omega) (by omega)) @hrow)
 simp at hh;have hi:l.take i=l:=List.take_of_length_le (by omega)
 rw [hi] at hx1;refine au1 (zCf x) ?_;intros;apply wr;refine zAA ?_;simp [hx1,zCg]
theorem zFX (l:List Int) (f:Int):zAD Tryz.prog 288 [memV l,iv f] (.bool (decide (0≤f)&&decide (f<pagesD l))):=by
 refine sZ Tryz.func288 Tryz.ntmps288 ?_;exact wx (qX1 (zBz l)) trivial
theorem zVE (l:List Int) (a b:Nat):((ints .u32 l).take a).drop b=ints .u32 ((l.take a).drop b):=by simp [ints,List.map_take,List.map_drop]
theorem zE3 {l:List Int} {f:Int} (h0:0≤f) (h1:f<pagesD l):((l.take (f*32+32).toNat).drop (f*32).toNat).length=32:=by
 have:=zBo (l:=l) (by omega)
 simp only [zW3,zWw];omega
theorem zK1 (l:List Int) (f:Int) (h0:0≤f) (h1:f<pagesD l):zAD Tryz.prog 231 [memV l,iv f] (.tup [.str (zBS l f),.bool true]):=by
 have hp:=zAb l;have hl:=zBo (l:=l) (by omega)
 have e3:=zAN .u32 l;have hh:=zFX l f;rw [show (decide (0≤f)&&decide (f<pagesD l))=true by simp [h0,h1]] at hh
 have w1:IntKind.i64.wrap (f*32)=f*32:=zAB (by omega) (by omega)
 have w2:IntKind.i64.wrap (f*32+32)=f*32+32:=zAB (by omega) (by omega)
 have ht:=zWI ((l.take (f*32+32).toNat).drop (f*32).toNat) (by rw [zE3 h0 h1];omega)
 refine sZ Tryz.func231 Tryz.ntmps231 ?_;exact wx1 (qX2 (hh) (ht)) trivial (kX5 @e3 @w1 @w2 @zVE @zBS.eq_1)
theorem zIN (a b:Int):ior .u32 a b=ior .u32 b a:=by unfold ior;rw [BitVec.or_comm]
theorem or4 (a b c d:UInt8):ior .u32 (ior .u32 (ior .u32 (a.toNat:Int) ((b.toNat:Int)*256)) ((c.toNat:Int)*65536)) ((d.toNat:Int)*16777216)=(a.toNat:Int)+b.toNat*256+c.toNat*65536+d.toNat*16777216:=by
 have:=a.toNat_lt;have:=b.toNat_lt;have:=c.toNat_lt;have:=d.toNat_lt;have q1:ior .u32 (a.toNat:Int) ((b.toNat:Int)*256)=(b.toNat:Int)*256+a.toNat:=by
  rw [zIN];exact zKz _ _ 8 (by omega) (by omega) (by omega) (by omega) (by omega) (by omega)
 have q2:ior .u32 ((b.toNat:Int)*256+a.toNat) ((c.toNat:Int)*65536)=(c.toNat:Int)*65536+((b.toNat:Int)*256+a.toNat):=by
  rw [zIN];exact zKz _ _ 16 (by omega) (by omega) (by omega) (by omega) (by omega) (by omega)
 have q3:ior .u32 ((c.toNat:Int)*65536+((b.toNat:Int)*256+a.toNat)) ((d.toNat:Int)*16777216)=(d.toNat:Int)*16777216+((c.toNat:Int)*65536+((b.toNat:Int)*256+a.toNat)):=by
  rw [zIN];exact zKz _ _ 24 (by omega) (by omega) (by omega) (by omega) (by omega) (by omega)
 rw [q1,q2,q3];omega
theorem zQr (a:UInt8):IntKind.u32.wrap (a.toNat:Int)=a.toNat:=by have:=a.toNat_lt;rw [IntKind.wrap_u32];omega
theorem zWL (a:UInt8):IntKind.u32.wrap ((a.toNat:Int)*256)=(a.toNat:Int)*256:=by have:=a.toNat_lt;rw [IntKind.wrap_u32];omega
theorem zWM (a:UInt8):IntKind.u32.wrap ((a.toNat:Int)*65536)=(a.toNat:Int)*65536:=by have:=a.toNat_lt;rw [IntKind.wrap_u32];omega
theorem zWN (a:UInt8):IntKind.u32.wrap ((a.toNat:Int)*16777216)=(a.toNat:Int)*16777216:=by have:=a.toNat_lt;rw [IntKind.wrap_u32];omega
theorem zE6 (l:List Int) (o:Nat) (s:Str) (n:Nat):(putW l o s n).length=l.length:=by
 induction n with
 | zero=>rfl
 | succ n ih=>rw [putW,List.length_set,ih]
theorem zFj (l:List Int) (f:Int) (s:Str) (h0:0≤f) (h1:f<pagesD l) (hs:s.length=128):zAD Tryz.prog 229 [memV l,iv f,.str s] (.tup [memV (zBV l f s),.bool true]):=by
 have hp:=zAb l;have hl:=zBo (l:=l) (by omega)
 have e3:=zAN .u32 l;have hh:=zFX l f;rw [show (decide (0≤f)&&decide (f<pagesD l))=true by simp [h0,h1]] at hh
 have w1:IntKind.i64.wrap (f*32)=f*32:=zAB (by omega) (by omega)
 have hcl:=zBi (ints .u32 l) false 1 (.inl rfl) (by rw [e3];omega)
 refine sX Tryz.func229 Tryz.ntmps229 ?_;intros;apply wr;refine cn (hcl) ?_;refine au ?_;intros;apply wr;refine cZ (hh) @hs @hs ?_;intros;apply wr;refine gF11 @hs rfl @w1 ?_;intros;apply wr;obtain ⟨I,hI⟩:∃ I:Nat→St→Prop,I=(fun kk ss=>∃ (i:Nat) ,i≤32∧kk=32-i∧(True)∧ss=⟨61,[(26,.int .i64 i),(2,.str s),(8,.own 0),(9,.int .i64 (f*32))],1,[(0,some ⟨25,1,false,false,ints .u32 (putW l (f*32).toNat s i)⟩)],0⟩):=⟨_,rfl⟩
 refine lX I (id) (by rw [hI];exact ⟨0,by simp,rfl,trivial,rfl⟩) ?_
 intro kk ss hIk _
 rw [hI] at hIk;obtain ⟨i,hi,rfl,hx,rfl⟩:=hIk;refine au ?_;intros;apply wr;refine zAC rfl (fun hi=>?_) (fun hi=>?_)
 ·simp at hi;have g1:IntKind.i64.wrap (4*(i:Int))=4*i:=zAB (by omega) (by omega)
  have g2:IntKind.i64.wrap (4*(i:Int)+4)=4*i+4:=zAB (by omega) (by omega)
  have g3:(4*(i:Int)).toNat=4*i:=by omega
  have g4:(4*(i:Int)+4).toNat=4*i+4:=by omega
  have g5:IntKind.i64.wrap (f*32+i)=f*32+i:=zAB (by omega) (by omega)
  have g6:(f*32+(i:Int)).toNat=(f*32).toNat+i:=by omega
  obtain ⟨a,b,c,d,hq⟩:∃ a b c d,(s.take (4*i+4)).drop (4*i)=[a,b,c,d]:=by
   have hlen:((s.take (4*i+4)).drop (4*i)).length=4:=by simp;omega
   match (s.take (4*i+4)).drop (4*i),hlen with
   | [a,b,c,d],_=>exact ⟨a,b,c,d,rfl⟩
  have hk:∀ k,k<4→s.getD (4*i+k) 0=[a,b,c,d].getD k 0:=fun k hk=>by
   rw [← hq,zWX,zWX,zW0,zWs,if_pos (by omega)]
  have hw4:zDP s i=(a.toNat:Int)+b.toNat*256+c.toNat*65536+d.toNat*16777216:=by
   unfold zDP;rw [show s.getD (4*i) 0=a from hk 0 (by omega),hk 1 (by omega),hk 2 (by omega),hk 3 (by omega)]
   rfl
  have hpl:=zE6 l (f*32).toNat s i;have hpl':=zAN .u32 (putW l (f*32).toNat s i);obtain ⟨w0,hw0⟩:∃ w0,(putW l (f*32).toNat s i)[(f*32).toNat+i]? =some w0:=⟨_,zWa (by omega)⟩
  have hw1:=zBU (k:=.u32) hw0;have hset:=ints_set .u32 (putW l (f*32).toNat s i) ((f*32).toNat+i) (zDP s i);rw [show (putW l (f*32).toNat s i).set ((f*32).toNat+i) (zDP s i)=putW l (f*32).toNat s (i+1) from rfl,hw4] at hset
  have hor:=or4 a b c d;refine au1 (kX6 @g1 @g2 @g3 @g4 @hs @hq) ?_;intros;apply wr;refine zAG 24 [0,0,0,6,0,16,48,0,128,384,896,2032,0,4096,12288,28672,65520,0,131072,393216,917504,2097136,4194303,8388607] [(22,([[],[],[],[1,2],[],[4],[4,5],[],[7],[7,8],[7,8,9],[4,5,6,7,8,9,10],[],[12],[12,13],[12,13,14],[4,5,6,7,8,9,10,11,12,13,14,15],[],[17],[17,18],[17,18,19],[4,5,6,7,8,9,10,11,12,13,14,15,16,17,18,19,20]],[])),(1,([],[])),(1,([],[]))] ?_;refine af1 (kX11 @g5 @g6 @hpl @hpl' @hor @zQr @zWL @zWM @zWN @hw1 @hset) ?_;intros;apply wr;refine af ?_;intros;apply wr;exact aX (id) (by rw [hI];exact ⟨i+1,by omega,rfl,trivial,rfl⟩) (kX3 (zAB (n:=(i:Int)+1) (by omega) (by omega)) @hw1 @hset)
 simp at hi;refine af ?_;intros;apply wr;refine zAI ?_;refine zAA ?_;simp;have e:i=32:=by omega
 subst e;rfl
theorem zGW {C D E G:Prop} (c:C) (d:D) (e:E) (t:C→D→E→G:=by intro c d e;(refine af1 e ?_;intros;apply wr);repeat' ((first|(refine zAC rfl (fun h=>?_) (fun h=>?_)<;>(first|(simp [e] at h;done)|(simp [e] at h)|skip)<;>(first|(exfalso;omega)|skip))|((first|refine .inl ⟨1,_,d.1,?_⟩|refine ⟨1,_,d.1,?_⟩);simp [aftC,aftE,noX,noXc,noX1,e];first|refine And.intro zAP ?_|skip)|((first|refine .inl ⟨1,_,d.2.1,?_⟩|refine ⟨1,_,d.2.1,?_⟩);simp [aftC,aftE,noX,noXc,noX1,e];first|refine And.intro zAP ?_|skip)|refine cc1 c.1 e ?_|refine cc1 c.2.1 e ?_|refine cc1 c.2.2.1 e ?_|refine cc1 c.2.2.2.1 e ?_|refine cc1 c.2.2.2.2.1 e ?_|refine cc1 c.2.2.2.2.2.1 e ?_|(refine zAG 7 [0,0,2,6,14,1,63] [(6,([[],[],[1],[1,2],[1,2,3],[0]],[(2,5),(3,5),(4,5)])),(1,([],[]))] ?_)|exact rt1 e|fail)<;>(refine af1 e ?_;intros;apply wr))):G:=t c d e
theorem zND (s:Str):zAD Tryz.prog 291 [.st [.str s]] (.bool (!decide (s=[]))):=by
 refine sZ Tryz.func291 Tryz.ntmps291 ?_;exact wx trivial trivial
theorem zWK (s:Str) (n:Int) (h0:0≤n) (h1:n≤255):zAD Tryz.prog 173 [.st [.str s],.int .u8 n] (.tup [.st [.str (zD6 s (UInt8.ofNat n.toNat)).1],.bool (zD6 s (UInt8.ofNat n.toNat)).2]):=by
 have hb:zB0 [.int .u8 n]:=⟨UInt8.ofNat n.toNat,by simp;omega⟩
 refine sZ Tryz.func173 Tryz.ntmps173 ?_;exact wx1 trivial trivial (kX4 @zD6.eq_1 @maxLen.eq_1 @hb @zDp.eq_1)
theorem zRa (s:Str) (p:Int) (hl:s.length≤1000):zAD Tryz.prog 241 [.st [.str s],iv p] (.tup [.st [.str (zDR s p).1],uv (zDR s p).2]):=by
 by_cases h0:p=0
 ·subst h0;cases s with
  | nil =>
   refine sX Tryz.func241 Tryz.ntmps241 ?_;intros;apply wr;have k:keyH []=4294967295:=rfl;exact zGW trivial trivial (kX2 @zDR.eq_1 @k)
  | cons b r =>
   have w:=zQr b;have k:keyH (b::r)=b.toNat:=rfl;have hr:((r.length:Int)+1).toNat=r.length+1:=by omega
   refine sZ Tryz.func241 Tryz.ntmps241 ?_;exact zGW trivial trivial (kX4 @w @hr @zDR.eq_1 @k)
 by_cases h1:p=1
 ·subst h1;have w:IntKind.u32.wrap (s.length:Int)=s.length:=u32_in (by omega) (by omega)
  refine sZ Tryz.func241 Tryz.ntmps241 ?_;exact zGW trivial trivial (kX2 @w @zDR.eq_1)
 refine sZ Tryz.func241 Tryz.ntmps241 ?_;exact zGW trivial trivial (kX3 @h0 @h1 @zDR.eq_1)
theorem arm_ok (t:TimD) (v:Int):zAD Tryz.prog 246 [.st t.row,uv v] (.st (armD v).row):=by
 refine sZ Tryz.func246 Tryz.ntmps246 ?_;exact wx1 trivial trivial @armD.eq_1
theorem zU2 (t:TimD):zAD Tryz.prog 172 [.st t.row] (.tup [.st (zDt t).1.row,.bool (zDt t).2]):=by
 refine sZ Tryz.func172 Tryz.ntmps172 ?_;exact wx1 trivial trivial @zDt.eq_1
theorem zTO (t:TimD):zAD Tryz.prog 242 [.st t.row] (uv (zN2 t)):=by
 refine sZ Tryz.func242 Tryz.ntmps242 ?_;exact wx1 trivial trivial (kX2 @zN2.eq_1 @b2w.eq_1)
theorem zN3 (t:TimD):zAD Tryz.prog 290 [.st t.row] (.bool t.fired):=by
 refine sZ Tryz.func290 Tryz.ntmps290 ?_;exact wx trivial trivial
theorem zRf (d:DskD) (p:Int):zAD Tryz.prog 243 [.st d.row,iv p] (uv (zKd d p)):=by
 refine sZ Tryz.func243 Tryz.ntmps243 ?_;exact wx1 trivial trivial @zKd.eq_1
theorem zHg (d:DskD):zAD Tryz.prog 292 [.st d.row] (.bool (zBj d)):=by
 refine sZ Tryz.func292 Tryz.ntmps292 ?_;exact wx1 trivial trivial @zBj.eq_1
theorem zHu (d:DskD) (k:Int):zAD Tryz.prog 96 [.st d.row,lv k] (.tup [.st (zA3 d k).1.row,.bool (zA3 d k).2]):=by
 refine sZ Tryz.func96 Tryz.ntmps96 ?_;exact wx1 trivial trivial @zA3.eq_1
theorem zSP (n:NicD) (p:Int):zAD Tryz.prog 244 [.st n.row,iv p] (uv (zKv n p)):=by
 refine sZ Tryz.func244 Tryz.ntmps244 ?_;exact wx1 trivial trivial (kX3 @zKv.eq_1 @b2w.eq_1 @u32c)
theorem zNa (n:NicD):zAD Tryz.prog 293 [.st n.row] (.bool n.received):=by
 refine sZ Tryz.func293 Tryz.ntmps293 ?_;exact wx trivial trivial
theorem zCh (l:List Int) (f:Int) (h:W32 f):zAD Tryz.prog 228 [memV l,uv f] (.bool (decide (f<pagesD l))):=by
 have e1:IntKind.u64.wrap f=f:=u64_in h.1 (by have:=h.2;omega)
 have e2:IntKind.u64.wrap (pagesD l)=pagesD l:=u64_in (zAb l).1 (by have:=zAb l;omega)
 refine sZ Tryz.func228 Tryz.ntmps228 ?_;exact wx1 (qX1 (zBz l)) trivial (kX2 @e1 @e2)
theorem zDG (l:List Int) (f:Int) (h:W32 f):zAD Tryz.prog 230 [memV l,uv f] (.bool (decide (f<pagesD l))):=by
 have e1:IntKind.u64.wrap f=f:=u64_in h.1 (by have:=h.2;omega)
 have e2:IntKind.u64.wrap (pagesD l)=pagesD l:=u64_in (zAb l).1 (by have:=zAb l;omega)
 refine sZ Tryz.func230 Tryz.ntmps230 ?_;exact wx1 (qX1 (zBz l)) trivial (kX2 @e1 @e2)
abbrev L64 (n:Int):Prop:=0≤n∧n<18446744073709551616
abbrev lw (n:Int):Int:=IntKind.u64.wrap n
structure OkT (e:EntD):Prop where
 a:L64 e.at_
 n:W32 e.ev.n
def putu:Nat→Nat→Str
 | 0,n=>[UInt8.ofNat n]
 | k+1,n=>if n<128 then [UInt8.ofNat n] else UInt8.ofNat (n % 128+128)::putu k (n / 128)
def putD (n:Int):Str:=putu 10 n.toNat
def evVal (e:EvD):Bool :=
 if e.kind=1∨e.kind=6 then e.data==[]
 else if e.kind=2 then decide (e.n=0)&&(e.data==[])
 else if e.kind=3 then decide (e.n≤255)&&(e.data==[])
 else if e.kind=4 then if e.n=1 then (e.data==[])||decide (e.data.length=128) else decide (e.n=0)&&(e.data==[])
 else if e.kind=5 then decide (e.n=0)&&decide (1≤e.data.length)&&decide (e.data.length≤128)
 else false
def zEW (e:EvD):Str :=
 if e.kind=1∨e.kind=3∨e.kind=6 then putD e.kind++putD e.n
 else if e.kind=4 then putD e.kind++(putD e.n++(putD e.data.length++e.data))
 else if e.kind=5 then putD e.kind++(putD e.data.length++e.data)
 else putD e.kind
def zGc:Int→List EntD→Str
 | _,[]=>[]
 | from_,e::r=>putD (e.at_-from_)++(zEW e.ev++zGc e.at_ r)
def ordD:List EntD→Bool
 | a::b::r=>!(decide (b.at_<a.at_)||(decide (b.at_=a.at_)&&decide (a.ev.kind=1)))&&ordD (b::r)
 | _=>true
def firstOk (from_:Int):List EntD→Bool
 | []=>true
 | e::_=>decide (from_≤e.at_)
def zD0 (l:List EntD) (from_:Int):Int :=
 if 400<l.length then 1902 else if l.all (fun e=>evVal e.ev)=false then 1900 else if ordD l=false∨firstOk from_ l=false then 1901
 else if 65536<(putD l.length++zGc from_ l).length then 1902 else 0
def logD (l:List EntD) (from_:Int):Str × Int:=if zD0 l from_=0 then (putD l.length++zGc from_ l,0) else ([],zD0 l from_)
def zCm (l:List EntD) (known:Int):Bool:=l.any fun e=>decide (known<e.at_)
def zCJ (g:SegD):Str × Int:=if g.known<g.from_∨zCm g.ents g.known=true then ([],2400) else logD g.ents g.from_
def zN0 (g:SegD):Bool:=decide ((zCJ g).2=0)
def zCE (r:RecD) (e:EvD):RecD × Bool:=if evVal e=true∧e.kind≠1∧r.queue.length<16 then ({r with queue:=r.queue++[e]},true) else (r,false)
def zAf (r:RecD) (e:EvD):RecD:=if (applyD r.m e).2=true then {r with m:=(applyD r.m e).1,log:=r.log++[⟨r.m.count,e⟩]} else r
def zBH (r:RecD):RecD:=if dueD r.m.tim r.clock=true then zAf r ⟨2,0,[]⟩ else r
def zG3 (m:MchD):Bool:=m.halted||zKk m||decide (m.count=1152921504606846976)
def clkR (r:RecD):RecD:=if readsD r.m=true then {r with log:=r.log++[⟨r.m.count,⟨1,r.clock,[]⟩⟩]} else r
def goR (r:RecD):RecD × List OutD:=({clkR r with m:=(stepD r.m r.clock).1,clock:=uw (r.clock+1)},(stepD r.m r.clock).2)
def runR:Nat→RecD→List OutD→RecD × List OutD
 | 0,r,o=>(r,o)
 | n+1,r,o=>if zG3 (zBH r).m=true then (zBH r,o) else runR n (goR (zBH r)).1 (o++(goR (zBH r)).2)
def limS (steps:Int):Nat:=(min (max steps 0) 4000).toNat
def zCD (r:RecD) (clock:Int):RecD:={r.queue.foldl zAf {r with clock:=max r.clock clock} with queue:=[]}
def advD (r:RecD) (steps clock:Int):RecD × List OutD:=if mayD r.m=true then runR (limS steps) (zCD r clock) [] else (r,[])
def cutD (r:RecD):RecD:={r with log:=[]}
def fitsD (o:OutD):Bool:=decide (o.block=0)&&(if o.kind=1 then decide (o.data.length=1) else if o.kind=2 then decide (o.data.length≤128) else false)
def heldOk:Int→List OutD→Bool
 | _,[]=>true
 | last,o::r=>(fitsD o&&decide (last≤o.at_))&&heldOk o.at_ r
def zCO (g:GateD):Bool:=heldOk g.acked g.held
def zCR (g:GateD) (o:OutD):GateD :=
 if o.kind≠1∧o.kind≠2 then g else if g.acked≤o.at_ then {g with held:=g.held++[o]} else if o.kind=1 then {g with bytes:=lw (g.bytes+1)} else g
def zF6 (g:GateD) (l:List OutD):GateD × Bool:=if zCO g=true∧zCO (l.foldl zCR g)=true then (l.foldl zCR g,true) else (g,false)
def chainOk:Int→List SegD→Bool
 | _,[]=>true
 | at_,g::r=>(decide (g.from_=at_)&&zN0 g)&&chainOk g.known r
def lastAt:Int→List SegD→Int
 | at_,[]=>at_
 | _,g::r=>lastAt g.known r
def zDM (s:SndD):Bool :=
 if s.base<1∨4611686018427387904<s.base∨8<s.queue.length then false
 else match s.queue with
  | []=>decide (s.known≤s.tail)
  | g::_=>decide (s.known≤g.from_)&&chainOk g.from_ s.queue&&decide (s.tail=lastAt g.from_ s.queue)
def zDJ (s:SndD) (g:SegD):SndD × Int :=
 if g.from_≠s.tail∨zDM s=false then (s,2400)
 else if (zCJ g).2≠0 then (s,(zCJ g).2)
 else if 8≤s.queue.length then (s,2401)
 else ({s with queue:=s.queue++[g],tail:=g.known},0)
def zEv (r:RepD):Bool:=decide (r.role=1)||decide (r.role=3)
def zHD (r:RepD):Bool:=zEv r&&decide (r.rec_.m.dk.state=1)
def cmd1 (c:Int × Int) (o:OutD):Int × Int:=if o.kind=3∨o.kind=4 then (0,o.at_) else c
def cmdL (c:Int × Int) (l:List OutD):Int × Int:=l.foldl cmd1 c
def runA (r:RepD) (a:RecD) (o:List OutD):RepD :=
 {r with rec_:=a,gate:=(zF6 r.gate o).1,cmd:=if zHD {r with rec_:=a}=true then (cmdL (r.cmd,r.cmdAt) o).1 else 0,cmdAt:=(cmdL (r.cmd,r.cmdAt) o).2}
def segA (r:RepD):SegD:=⟨r.out.tail,r.rec_.m.count,r.rec_.log⟩
def logA (r:RepD):RepD :=
 {r with rec_:=cutD r.rec_,hist:=r.hist++r.rec_.log,out:=if r.role=1∧(r.rec_.log≠[]∨r.rec_.m.count≠r.out.tail) then (zDJ r.out (segA r)).1 else r.out}
def zC6 (r:RepD) (steps clock:Int):RepD:=logA (runA r (advD r.rec_ steps clock).1 (advD r.rec_ steps clock).2)
theorem zAw (l:List OutD):(outs l).length=l.length:=by simp [outs]
theorem zCb (l:List SegD):(segs l).length=l.length:=by simp [segs]
theorem zJM (l:List (Int × SegD)):(zHF l).length=l.length:=by simp [zHF]
theorem zBO {l:List EntD} {i:Nat} {x:EntD} (h:l[i]? =some x):(ents l)[i]? =some x.row:=by simp [ents,h]
theorem zOm {l:List EvD} {i:Nat} {x:EvD} (h:l[i]? =some x):(evs l)[i]? =some x.row:=by simp [evs,h]
theorem zC5 {l:List OutD} {i:Nat} {x:OutD} (h:l[i]? =some x):(outs l)[i]? =some x.row:=by simp [outs,h]
theorem zFD {l:List SegD} {i:Nat} {x:SegD} (h:l[i]? =some x):(segs l)[i]? =some x.row:=by simp [segs,h]
theorem zOj {l:List (Int × SegD)} {i:Nat} {x:Int × SegD} (h:l[i]? =some x):(zHF l)[i]? =some [lv x.1,lv x.2.from_,lv x.2.known,zBu x.2.ents]:=by simp [zHF,h]
theorem zLj (a b:List EntD):ents (a++b)=ents a++ents b:=by simp [ents]
theorem zUm (a b:List EvD):evs (a++b)=evs a++evs b:=by simp [evs]
theorem zBI (a b:List OutD):outs (a++b)=outs a++outs b:=by simp [outs]
theorem zCa (a b:List SegD):segs (a++b)=segs a++segs b:=by simp [segs]
theorem zRi (a:EntD):ents [a]=[a.row]:=rfl
theorem zId (a:OutD):outs [a]=[a.row]:=rfl
theorem zCQ (a:SegD):segs [a]=[a.row]:=rfl
theorem get_at {α:Type} {l:List α} {i:Nat} (h:i<l.length):∃ x,l[i]? =some x∧l.drop i=x::l.drop (i+1)∧l.take (i+1)=l.take i++[x]∧x∈l :=
 ⟨l[i],zWa h,List.drop_eq_getElem_cons h,(List.take_append_getElem h).symm,zW4 h⟩
theorem getE {α:Type} {L:List α} {i:Nat} {x:α} (h:L[i]? =some x) (h':i<L.length):L[i]'h'=x:=by rw [zWa h'] at h;exact Option.some.inj h
theorem zB6 {α:Type} {l:List α} {i:Nat} (h:l.length≤i):l.drop i=[]:=List.drop_eq_nil_of_le h
theorem zFE {α:Type} {l:List α} {i:Nat} (h:l.length≤i):l.take i=l:=List.take_of_length_le h
theorem zU3 (o:OutD):zAD Tryz.prog 153 [.st o.row] (.bool (fitsD o)):=by
 refine sZ Tryz.func153 Tryz.ntmps153 ?_;exact wx1 trivial trivial @fitsD.eq_1
theorem zKi (g:GateD):zAD Tryz.prog 99 [.st g.row] (.bool (zCO g)):=by
 have hl:=zAw g.held;refine zAD.lens (by kernel_rfl) fun hlens=>?_
 simp [zKp,zKq,zEu,maxLen] at hlens;refine sY Tryz.func99 Tryz.ntmps99 @hl ?_;intros;apply wr;simp only [hl] at hlens;obtain ⟨I,hI⟩:∃ I:Nat→St→Prop,I=(fun kk ss=>∃ (i:Nat) (la:Int),i≤g.held.length∧kk=g.held.length-i∧(heldOk g.acked g.held=heldOk la (g.held.drop i))∧ss=⟨27,[(11,.int .i64 i),(10,.int .i64 g.held.length),(9,.sl 4 false (outs g.held)),(3,lv la)],1,[],0⟩):=⟨_,rfl⟩
 refine lX I (id) (by rw [hI];exact ⟨0,g.acked,by simp,rfl,rfl,rfl⟩) ?_
 intro kk ss hIk _
 rw [hI] at hIk;obtain ⟨i,la,hi,rfl,hx,rfl⟩:=hIk;refine au1 @hl ?_;intros;apply wr;refine zAC rfl (fun hh=>?_) (fun hh=>?_)
 ·simp at hh;obtain ⟨o,ho,hd,-,-⟩:=get_at hh;have hget:=zC5 ho;rw [hd,heldOk] at hx;refine au1 @hget ?_;intros;apply wr
  (refine au1 (kX2 @zCO.eq_1 @hx) ?_;intros;apply wr)
  repeat' ((first|(refine zAC rfl (fun h=>?_) (fun h=>?_)<;>(first|(simp [zCO,hx] at h;done)|(simp [zCO,hx] at h)|skip)<;>(first|(exfalso;omega)|skip))|refine cc1 (zU3 o) (kX2 @zCO.eq_1 @hx) ?_|exact rt1 (kX2 @zCO.eq_1 @hx)|fail)<;>(refine au1 (kX2 @zCO.eq_1 @hx) ?_;intros;apply wr))
  exact aX (id) (by rw [hI];exact ⟨i+1,o.at_,by omega,rfl,(by simpa [h] using hx),rfl⟩) (zAB (n:=(i:Int)+1) (by omega) (by omega))
 simp at hh;rw [zB6 hh,heldOk] at hx;refine au ?_;intros;apply wr;refine zAA ?_;simp [zCO,hx]
theorem zKK {C D E G:Prop} (c:C) (d:D) (e:E) (t:C→D→E→G:=by intro c d e;(refine au1 e ?_;(repeat intro K hK);apply wr);repeat' ((first|(refine zAC rfl (fun h=>?_) (fun h=>?_)<;>(first|(simp [e] at h;done)|(simp [e] at h)|skip)<;>(first|(exfalso;omega)|skip))|((first|refine .inl ⟨1,_,d.1,?_⟩|refine ⟨1,_,d.1,?_⟩);simp [aftC,aftE,noX,noXc,noX1,e];first|refine And.intro zAP ?_|skip)|((first|refine .inl ⟨1,_,d.2.1,?_⟩|refine ⟨1,_,d.2.1,?_⟩);simp [aftC,aftE,noX,noXc,noX1,e];first|refine And.intro zAP ?_|skip)|refine cc1 c.1 e ?_|refine cc1 c.2.1 e ?_|refine cc1 c.2.2.1 e ?_|refine cc1 c.2.2.2.1 e ?_|refine cc1 c.2.2.2.2.1 e ?_|refine cc1 c.2.2.2.2.2.1 e ?_|refine zAL 3 ?_|refine zAH fun K hK=>?_|exact rt1 e|fail)<;>(refine au1 e ?_;(repeat intro K hK);apply wr))):G:=t c d e
theorem infoE:∃ (j:TypeInfo) (z:Value),Tryz.prog.info? 108=some j∧j.size=4∧j.bytes=40∧j.zero=some z∧z.cells.size=4:=by
 have h:(Tryz.prog.info? 108).map (fun j=>(j.size,j.bytes,j.zero.map fun z=>z.cells.size))=some (4,40,some 4):=by kernel_rfl
 obtain ⟨j,hj,e⟩:=Option.map_eq_some_iff.1 h;simp only [Prod.mk.injEq] at e;obtain ⟨z,hz,e3⟩:=Option.map_eq_some_iff.1 e.2.2;exact ⟨j,z,hj,e.1,e.2.1,hz,e3⟩
theorem zRt (n:Nat) (h0:0<n) (hn:n≤100000) (w:World):Calls Tryz.prog 122 #[.slice none 0 0,.int .i64 n] w fun e w' =>
  ∃ (cap:Nat) (cur:Array Value),e=.returned (.slice (some ⟨w.heap.size,0,none⟩) 0 cap)∧cap≤maxLen∧cur.size=cap*4∧w'=w.drew.alloc (.cells cur 108):=by
 obtain ⟨j,z,hj,hs,hb,hz,hzs⟩:=infoE;have h1:¬ ((n:Int)<0):=by omega
 have h2:wrap64 ((0:Int)-(0:Int))=0:=by unfold wrap64;omega
 have h3:wrap64 ((n:Int)-0)=(n:Int):=by unfold wrap64;omega
 have h4:(n:Int) > 0:=by omega
 have hrz:∀ ty,(Builtin.append_ #[43,3] ty #[.slice none 0 0,.int .i64 (n:Int)]).run Tryz.prog w =
   .ok (.slice (some ⟨w.heap.size,0,none⟩) n (grownCap w n 0 108)) (w.drew.alloc (.cells (Builtin.zeroCells z.cells n++Builtin.zeroCells z.cells (grownCap w n 0 108-n)) 108)):=fun ty=>by
  have h:=Lib.run_append_grow_zeros w 43 3 ty 108 j z .i64 .i64 Tryz.underlying43 Tryz.underlying3 hj hz none 0 0 [] (run_firstCells_none w.drew j.size 0 0 0) n h0 (by omega) (by omega) (by omega)
   (by rw [hb];omega) (by rw [hb];exact growslice_fits (by omega) (by omega))
  simpa using h
 clear hz;generalize z.cells=zc at *
 have hGn:n≤grownCap w n 0 108:=grownCap_ge w _ _ _;have hG63:=grownCap_le_maxLen w n 0 108 (by unfold maxLen;omega)
 generalize grownCap w n 0 108=G at *
 have hG':G≤9223372036854775807:=by unfold maxLen at hG63;omega
 go_enter Tryz.func122,Tryz.ntmps122
 go_wp2_with (at_builtin;refine Lib.wpList_append_run _ rfl _ _ _ _ rfl _ _ rfl rfl _ _ (hrz _) ?_)
 all_goals (go_ret;exact ⟨G,rfl,hG63,_,by simp only [Array.size_append,size_zeroCells,hzs];omega,rfl⟩)
theorem zU5 (n:Nat) (h0:0<n) (hn:n≤100000):zAD Tryz.prog 122 [.sl 0 true [],iv n] (.new 108 4 []):=by
 refine ⟨by kernel_rfl,fun w Xa vals M hXa hs hrr=>?_⟩
 obtain ⟨A,c',f,hu,_,_,_,hnil,_⟩:=R_sl (hrr 0 _ rfl);obtain ⟨rfl,rfl⟩:=hnil rfl;have hv1:=zCN (hrr 1 _ rfl);have hv:vals=#[.slice none 0 0,.int .i64 (n:Int)]:=by
  apply Array.ext
  ·simpa using hs
  intro i hi hi'
  have:i=0∨i=1:=by simp at hi';omega
  rcases this with rfl|rfl
  ·simpa [Array.getD,hi] using hu
  simpa [Array.getD,hi] using hv1
 rw [hv];refine (zRt n h0 hn w).mono ?_;rintro e w' ⟨cap,cur,rfl,hcap,hcur,rfl⟩;have hB:Below w.heap.size w (w.drew.alloc (.cells cur 108)):=⟨rfl,rfl,rfl,by simp,fun k hk=>by
  rw [Below.heap_alloc _ _ _ (by simpa using hk)];rfl⟩
 have hnew:(w.drew.alloc (.cells cur 108)).heap[w.heap.size]? =some (.cells cur 108 (0,0)):=World.alloc_heap_new w.drew _;refine ⟨_,rfl,hB,fun M n' hM=>?_⟩
 have hM0:=hM 0 (by simp [V.fcells,V.cells])
 simp [zG9,Value.cells] at hM0;refine ⟨?_,?_,?_⟩
 ·exact .own _ _ _ _ _ (by simp [V.fcells,V.cells]) hM0
 ·intro id o ho
  simp [V.fcells,V.cells,obsL,lookO] at ho;obtain ⟨rfl,rfl⟩:=ho;refine ⟨fun _=>by decide,by simp,[],?_,by simp,fun j u h=>by simp at h⟩
  rw [hM0];exact ⟨by simp,.inr (.inl ⟨w.heap.size,cap,cur,rfl,zWg _,.plain hnew,Nat.zero_le _,hcap,hcur,by simp⟩)⟩
 intro id id' o o' g ho ho' hne
 simp [V.fcells,V.cells,obsL,lookO] at ho ho';omega
theorem zOX (a b:List EntD) (ha:a.length≤50000) (hb:b.length≤50000):zAD Tryz.prog 76 [.sl 1 false [[zBu a],[zBu b]]] (zBu (a++b)):=by
 rcases Nat.eq_zero_or_pos (a.length+b.length) with hz|hpos
 ·obtain rfl:a=[]:=List.length_eq_zero_iff.1 (by omega)
  obtain rfl:b=[]:=List.length_eq_zero_iff.1 (by omega)
  have hg0:zAD Tryz.prog 122 [.sl 0 true [],iv 0] (.sl 0 true []):=by
   refine sZ Tryz.func122 Tryz.ntmps122 ?_;exact wx1 trivial trivial @i64c
  refine sX Tryz.func76 Tryz.ntmps76 ?_;intros;apply wr;exact zKK (qX1 (hg0)) trivial @i64c
 have la:=zA8 a;have lb:=zA8 b;have hab:=zLj a b;have hg:=zU5 (a.length+b.length) hpos (by omega)
 push_cast at hg
 have w1:IntKind.i64.wrap (a.length:Int)=a.length:=zAB (by omega) (by omega)
 have w2:IntKind.i64.wrap ((a.length:Int)+b.length)=a.length+b.length:=zAB (by omega) (by omega)
 have n1:¬ (a.length:Int)<0:=by omega
 have n2:¬ (a.length:Int)+b.length<0:=by omega
 refine sX Tryz.func76 Tryz.ntmps76 ?_;intros;apply wr;exact zKK (qX1 (hg)) trivial (kX9 @la @lb @w1 @w2 @n1 @n2 @maxLen.eq_1 @hab @i64c)
end Go.Proofs.YtoondlebmacanaaGreat
end
