/- A part of the proof of ReplicaFollows. -/
import Derived.Test.YthjpcmecgjfilaaGreatB13
set_option linter.unusedSimpArgs false
set_option linter.unusedVariables false
set_option maxHeartbeats 16000000
set_option maxRecDepth 100000
section
namespace Go.Proofs.YthjpcmecgjfilaaGreat
open Go.Ab Go.RowKit
def keyH (s:Str):Int:=match s with|[]=>4294967295|b::_=>(b.toNat:Int)
def zHZ (s:Str) (port:Int):Str × Int:=if port=0 then (s.tail,keyH s) else if port=1 then (s,s.length) else (s,0)
def zDv (s:Str) (b:UInt8):Str × Bool:=if 16<=s.length then (s,false) else (s++[b],true)
def armD (v:Int):TimD:=⟨!decide (v=0),v,false⟩
def zDe (t:TimD):TimD × Bool:=if t.armed=true then (⟨false,t.dl,true⟩,true) else (t,false)
def dueD (t:TimD) (now:Int):Bool:=t.armed&&decide (t.dl<=now)
def zV1 (t:TimD):Int:=b2w t.fired
def zRY (d:DskD) (port:Int):Int:=if port=4 then d.block else if port=5 then d.frame else if port=6 then uw d.state else 0
def zBm (d:DskD):Bool:=decide (d.state=2)||decide (d.state=3)
def zB3 (w:Int):Str:=[UInt8.ofNat (w % 256).toNat,UInt8.ofNat (w / 256 % 256).toNat,UInt8.ofNat (w / 65536 % 256).toNat,UInt8.ofNat (w / 16777216 % 256).toNat]
def zBb (mem:List Int) (f:Int):Str:=((mem.take (f*32+32).toNat).drop (f*32).toNat).flatMap zB3
def zDZ (s:Str) (i:Nat):Int:=(s.getD (4*i) 0).toNat+(s.getD (4*i+1) 0).toNat*256+(s.getD (4*i+2) 0).toNat*65536+(s.getD (4*i+3) 0).toNat*16777216
def putW (mem:List Int) (o:Nat) (s:Str):Nat->List Int
 | 0=>mem
 | i+1=>(putW mem o s i).set (o+i) (zDZ s i)
def zBO (mem:List Int) (f:Int) (s:Str):List Int:=putW mem (f*32).toNat s 32
def zB9 (d:DskD) (at_:Int):OutD × Bool :=
 if d.state=1/\d.cmd=1 then (⟨3,at_,d.opBlock,[]⟩,true) else if d.state=1/\d.cmd=2 then (⟨4,at_,d.opBlock,d.opData⟩,true) else (⟨0,0,0,[]⟩,false)
def zBQ (d:DskD) (mem:List Int) (cmd at_:Int):DskD × List OutD :=
 if d.state≠0 then (d,[])
 else if d.blocks<=d.block\/pagesD mem<=d.frame then ({d with state:=3},[])
 else ({d with state:=1,cmd:=cmd,opBlock:=d.block,opFrame:=d.frame,opData:=if cmd=2 then zBb mem d.frame else []},
  [(zB9 {d with state:=1,cmd:=cmd,opBlock:=d.block,opFrame:=d.frame,opData:=if cmd=2 then zBb mem d.frame else []} at_).1])
def zBI (d:DskD) (mem:List Int) (port v at_:Int):DskD × List OutD :=
 if port=4 then ({d with block:=v},[])
 else if port=5 then ({d with frame:=v},[])
 else if port=6 then
  if v=1\/v=2 then zBQ d mem v at_
  else if v=0/\zBm d=true then ({d with state:=0},[])
  else (d,[])
 else (d,[])
def doneD (d:DskD) (n:Int):DskD:={d with state:=if n=1 then 2 else 3,cmd:=0,opBlock:=0,opFrame:=0,opData:=[]}
def zAJ (d:DskD) (mem:List Int) (e:EvD):DskD × List Int × Bool :=
 if d.state≠1\/e.kind≠4\/1<e.n then (d,mem,false)
 else if e.n=1/\d.cmd=1 then
  if d.opFrame<pagesD mem/\e.data.length=128 then (doneD d e.n,zBO mem d.opFrame e.data,true) else (d,mem,false)
 else if e.data=[] then (doneD d e.n,mem,true) else (d,mem,false)
def zR5 (n:NicD) (port:Int):Int:=if port=7 then n.frame else if port=8 then n.got else if port=9 then b2w n.posted+b2w n.received*2 else 0
def zAb (n:NicD) (mem:List Int) (port v at_:Int):NicD × List OutD :=
 if port=7 then ({n with frame:=v},[])
 else if port=8 then ({n with len:=v},[])
 else if port=9 then
  if v=1 then (n,if 1<=n.len/\n.len<=128/\n.frame<pagesD mem then [⟨2,at_,0,(zBb mem n.frame).take n.len.toNat⟩] else [])
  else if v=2 then (if n.frame<pagesD mem/\n.posted=false/\n.received=false then {n with posted:=true,buffer:=n.frame} else n,[])
  else if v=0 then ({n with received:=false,got:=0},[])
  else (n,[])
 else (n,[])
def zAY (n:NicD) (mem:List Int) (s:Str):NicD × List Int × Bool :=
 if n.posted=true/\1<=s.length/\s.length<=128/\n.buffer<pagesD mem then
  ({n with posted:=false,buffer:=0,received:=true,got:=s.length},zBO mem n.buffer (s++(zBb mem n.buffer).drop s.length),true)
 else (n,mem,false)
def countB (g:Int):Int:=(List.range 32).foldl (fun n i=>n+g / 2 ^ i % 2) 0
def zRI (t g port:Int):Int:=if port=10 then t else if port=11 then countB g else 0
def zA9 (t g:Int):Bool:=!decide (countB g=t)
def zFG:Str:=List.replicate 128 0
def zA8 (g:Int) (mem:List Int) (port v:Int):Int × List Int :=
 if 32<=v then (g,mem)
 else if port=10 then
  if v<pagesD mem/\g / 2 ^ v.toNat % 2=0 then (ior .u32 g (2 ^ v.toNat),zBO mem v zFG) else (g,mem)
 else if port=11 then (zCn .u32 g (2 ^ v.toNat),mem)
 else (g,mem)
def zFp (m:MchD):Int:=b2w m.tim.fired+b2w (!decide (m.keys=[]))*2+b2w (zBm m.dk)*4+b2w m.nc.received*8+b2w (zA9 m.tgt m.given)*16
def enD (m:MchD):Int:=iand .u32 (zFp m) (m.cpu.csr 7)
def lowB (e:Int):Option Int:=if e % 2=1 then some 0 else if e / 2 % 2=1 then some 1 else if e / 4 % 2=1 then some 2 else if e / 8 % 2=1 then some 3 else if e / 16 % 2=1 then some 4 else none
def zIh (m:MchD):Bool:=m.waiting&&decide (enD m=0)
def runsD (m:MchD):Bool:=mayD m&&!m.halted&&!zIh m&&decide (m.count<1152921504606846976)
def zAK (m:MchD):MchD :=
 if m.cpu.csr 0 / 2 % 2=0 then {m with waiting:=false}
 else match lowB (enD m) with
  | none=>{m with waiting:=false}
  | some i=>{m with waiting:=false,cpu:=zBE m.cpu (16+i) 0}
def effD (m:MchD):EffD:=(zAl (zAK m).cpu m.mem).2.2
def readsD (m:MchD):Bool:=runsD m&&(decide ((effD m).kind=1)&&decide ((effD m).port=2))
def zAd (m:MchD) (port clock:Int):MchD × Int :=
 if port=0\/port=1 then ({m with keys:=(zHZ m.keys port).1},(zHZ m.keys port).2)
 else if port=2 then (m,clock)
 else if port=3 then (m,zV1 m.tim)
 else if port=4\/port=5\/port=6 then (m,zRY m.dk port)
 else if port=7\/port=8\/port=9 then (m,zR5 m.nc port)
 else if port=10\/port=11 then (m,zRI m.tgt m.given port)
 else (m,0)
def zAL (m:MchD) (port v at_:Int):MchD × List OutD :=
 if port=0 then (m,[⟨1,at_,0,[UInt8.ofNat (v % 256).toNat]⟩])
 else if port=3 then ({m with tim:=armD v},[])
 else if port=4\/port=5\/port=6 then ({m with dk:=(zBI m.dk m.mem port v at_).1},(zBI m.dk m.mem port v at_).2)
 else if port=7\/port=8\/port=9 then ({m with nc:=(zAb m.nc m.mem port v at_).1},(zAb m.nc m.mem port v at_).2)
 else if port=10\/port=11 then ({m with given:=(zA8 m.given m.mem port v).1,mem:=(zA8 m.given m.mem port v).2},[])
 else (m,[])
def zBH (m:MchD) (e:EffD) (clock at_:Int):MchD × List OutD :=
 if e.kind=1 then ({(zAd m e.port clock).1 with cpu:=(zAd m e.port clock).1.cpu.setR e.reg (zAd m e.port clock).2},[])
 else if e.kind=2 then zAL m e.port e.val at_
 else if e.kind=3 then ({m with waiting:=true},[])
 else if e.kind=4 then ({m with halted:=true},[])
 else (m,[])
def zBg (m:MchD):MchD:={zAK m with cpu:=(zAl (zAK m).cpu m.mem).1,mem:=(zAl (zAK m).cpu m.mem).2.1}
def goD (m:MchD) (clock:Int):MchD × List OutD :=
 ({(zBH (zBg m) (effD m) clock m.count).1 with count:=(zBH (zBg m) (effD m) clock m.count).1.count+1},(zBH (zBg m) (effD m) clock m.count).2)
def stepD (m:MchD) (clock:Int):MchD × List OutD:=if runsD m=true then goD m clock else (m,[])
def applyD (m:MchD) (e:EvD):MchD × Bool :=
 if mayD m=false\/m.halted=true then (m,false)
 else if e.kind=2 then if e.n=0/\e.data=[] then ({m with tim:=(zDe m.tim).1},(zDe m.tim).2) else (m,false)
 else if e.kind=3 then if e.n<=255/\e.data=[] then ({m with keys:=(zDv m.keys (UInt8.ofNat e.n.toNat)).1},(zDv m.keys (UInt8.ofNat e.n.toNat)).2) else (m,false)
 else if e.kind=4 then ({m with dk:=(zAJ m.dk m.mem e).1,mem:=(zAJ m.dk m.mem e).2.1},(zAJ m.dk m.mem e).2.2)
 else if e.kind=5 then if e.n=0 then ({m with nc:=(zAY m.nc m.mem e.data).1,mem:=(zAY m.nc m.mem e.data).2.1},(zAY m.nc m.mem e.data).2.2) else (m,false)
 else if e.kind=6 then if e.data=[] then ({m with tgt:=e.n},true) else (m,false)
 else (m,false)
abbrev L64 (n:Int):Prop:=0<=n/\n<18446744073709551616
abbrev lw (n:Int):Int:=IntKind.u64.wrap n
structure OkT (e:EntD):Prop where
 a:L64 e.at_
 n:W32 e.ev.n
def putu:Nat->Nat->Str
 | 0,n=>[UInt8.ofNat n]
 | k+1,n=>if n<128 then [UInt8.ofNat n] else UInt8.ofNat (n % 128+128)::putu k (n / 128)
def putD (n:Int):Str:=putu 10 n.toNat
def zHS:Nat->Nat->Str->Option (Nat × Nat)
 | _,_,[]=>none
 | i,x,b::r=>if 10<=i then none else if i=9/\1<b.toNat then none else if 128<=b.toNat then zHS (i+1) (x+b.toNat % 128*2 ^ (7*i)) r
  else if b=0/\0<i then none else some (x+b.toNat*2 ^ (7*i),i+1)
def zKg (s:Str):Option (Nat × Nat):=zHS 0 0 s
def evVal (e:EvD):Bool :=
 if e.kind=1\/e.kind=6 then e.data==[]
 else if e.kind=2 then decide (e.n=0)&&(e.data==[])
 else if e.kind=3 then decide (e.n<=255)&&(e.data==[])
 else if e.kind=4 then if e.n=1 then (e.data==[])||decide (e.data.length=128) else decide (e.n=0)&&(e.data==[])
 else if e.kind=5 then decide (e.n=0)&&decide (1<=e.data.length)&&decide (e.data.length<=128)
 else false
def zCi (e:EvD):Str :=
 if e.kind=1\/e.kind=3\/e.kind=6 then putD e.kind++putD e.n
 else if e.kind=4 then putD e.kind++(putD e.n++(putD e.data.length++e.data))
 else if e.kind=5 then putD e.kind++(putD e.data.length++e.data)
 else putD e.kind
def zBn:Int->List EntD->Str
 | _,[]=>[]
 | from_,e::r=>putD (e.at_-from_)++(zCi e.ev++zBn e.at_ r)
def ordD:List EntD->Bool
 | a::b::r=>!(decide (b.at_<a.at_)||(decide (b.at_=a.at_)&&decide (a.ev.kind=1)))&&ordD (b::r)
 | _=>true
def firstOk (from_:Int):List EntD->Bool
 | []=>true
 | e::_=>decide (from_<=e.at_)
def zCq (l:List EntD) (from_:Int):Int :=
 if 400<l.length then 1902 else if l.all (fun e=>evVal e.ev)=false then 1900 else if ordD l=false\/firstOk from_ l=false then 1901
 else if 65536<(putD l.length++zBn from_ l).length then 1902 else 0
def logD (l:List EntD) (from_:Int):Str × Int:=if zCq l from_=0 then (putD l.length++zBn from_ l,0) else ([],zCq l from_)
def zCI (l:List EntD) (known:Int):Bool:=l.any fun e=>decide (known<e.at_)
def zAZ (g:SegD):Str × Int:=if g.known<g.from_\/zCI g.ents g.known=true then ([],2400) else logD g.ents g.from_
def zDO (g:SegD):Bool:=decide ((zAZ g).2=0)
def zCH (r:RecD) (e:EvD):RecD × Bool:=if evVal e=true/\e.kind≠1/\r.queue.length<16 then ({r with queue:=r.queue++[e]},true) else (r,false)
def zAV (r:RecD) (e:EvD):RecD:=if (applyD r.m e).2=true then {r with m:=(applyD r.m e).1,log:=r.log++[⟨r.m.count,e⟩]} else r
def zAu (r:RecD):RecD:=if dueD r.m.tim r.clock=true then zAV r ⟨2,0,[]⟩ else r
def zDT (m:MchD):Bool:=m.halted||zIh m||decide (m.count=1152921504606846976)
def clkR (r:RecD):RecD:=if readsD r.m=true then {r with log:=r.log++[⟨r.m.count,⟨1,r.clock,[]⟩⟩]} else r
def goR (r:RecD):RecD × List OutD:=({clkR r with m:=(stepD r.m r.clock).1,clock:=uw (r.clock+1)},(stepD r.m r.clock).2)
def runR:Nat->RecD->List OutD->RecD × List OutD
 | 0,r,o=>(r,o)
 | n+1,r,o=>if zDT (zAu r).m=true then (zAu r,o) else runR n (goR (zAu r)).1 (o++(goR (zAu r)).2)
def limS (steps:Int):Nat:=(min (max steps 0) 4000).toNat
def zBc (r:RecD) (clock:Int):RecD:={r.queue.foldl zAV {r with clock:=max r.clock clock} with queue:=[]}
def advD (r:RecD) (steps clock:Int):RecD × List OutD:=if mayD r.m=true then runR (limS steps) (zBc r clock) [] else (r,[])
def cutD (r:RecD):RecD:={r with log:=[]}
def fitsD (o:OutD):Bool:=decide (o.block=0)&&(if o.kind=1 then decide (o.data.length=1) else if o.kind=2 then decide (o.data.length<=128) else false)
def heldOk:Int->List OutD->Bool
 | _,[]=>true
 | last,o::r=>(fitsD o&&decide (last<=o.at_))&&heldOk o.at_ r
def zCE (g:GateD):Bool:=heldOk g.acked g.held
def zCJ (g:GateD) (o:OutD):GateD :=
 if o.kind≠1/\o.kind≠2 then g else if g.acked<=o.at_ then {g with held:=g.held++[o]} else if o.kind=1 then {g with bytes:=lw (g.bytes+1)} else g
def zDj (g:GateD) (l:List OutD):GateD × Bool:=if zCE g=true/\zCE (l.foldl zCJ g)=true then (l.foldl zCJ g,true) else (g,false)
def relL (bytes:Int):List OutD->Int × List (OutD × Int)
 | []=>(bytes,[])
 | o::r=>if o.kind=1 then ((relL (lw (bytes+1)) r).1,(o,bytes)::(relL (lw (bytes+1)) r).2) else ((relL bytes r).1,(o,0)::(relL bytes r).2)
def relN (acked:Int) (l:List OutD):List OutD:=l.takeWhile fun o=>decide (o.at_<acked)
def relD (g:GateD) (acked:Int):GateD × List (OutD × Int) :=
 if zCE g=true/\g.acked<acked then (⟨g.held.drop (relN acked g.held).length,acked,(relL g.bytes (relN acked g.held)).1⟩,(relL g.bytes (relN acked g.held)).2) else (g,[])
def chainOk:Int->List SegD->Bool
 | _,[]=>true
 | at_,g::r=>(decide (g.from_=at_)&&zDO g)&&chainOk g.known r
def lastAt:Int->List SegD->Int
 | at_,[]=>at_
 | _,g::r=>lastAt g.known r
def zBR (s:SndD):Bool :=
 if s.base<1\/4611686018427387904<s.base\/8<s.queue.length then false
 else match s.queue with
  | []=>decide (s.known<=s.tail)
  | g::_=>decide (s.known<=g.from_)&&chainOk g.from_ s.queue&&decide (s.tail=lastAt g.from_ s.queue)
def zCT (s:SndD) (g:SegD):SndD × Int :=
 if g.from_≠s.tail\/zBR s=false then (s,2400)
 else if (zAZ g).2≠0 then (s,(zAZ g).2)
 else if 8<=s.queue.length then (s,2401)
 else ({s with queue:=s.queue++[g],tail:=g.known},0)
def zGu (r:RepD):Bool:=decide (r.role=1)||decide (r.role=3)
def zIU (r:RepD):Bool:=zGu r&&decide (r.rec_.m.dk.state=1)
def cmd1 (c:Int × Int) (o:OutD):Int × Int:=if o.kind=3\/o.kind=4 then (0,o.at_) else c
def cmdL (c:Int × Int) (l:List OutD):Int × Int:=l.foldl cmd1 c
def runA (r:RepD) (a:RecD) (o:List OutD):RepD :=
 {r with rec_:=a,gate:=(zDj r.gate o).1,cmd:=if zIU {r with rec_:=a}=true then (cmdL (r.cmd,r.cmdAt) o).1 else 0,cmdAt:=(cmdL (r.cmd,r.cmdAt) o).2}
def segA (r:RepD):SegD:=⟨r.out.tail,r.rec_.m.count,r.rec_.log⟩
def logA (r:RepD):RepD :=
 {r with rec_:=cutD r.rec_,hist:=r.hist++r.rec_.log,out:=if r.role=1/\(r.rec_.log≠[]\/r.rec_.m.count≠r.out.tail) then (zCT r.out (segA r)).1 else r.out}
def zCV (r:RepD) (steps clock:Int):RepD:=logA (runA r (advD r.rec_ steps clock).1 (advD r.rec_ steps clock).2)
end Go.Proofs.YthjpcmecgjfilaaGreat
end
