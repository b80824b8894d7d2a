/- A part of the proof of ReplicaDisk. -/
import Derived.Test.YtjkmhmepljamoaaGreatK04
import Derived.Lib.BitFns
import Derived.Shelf.Strings.Builder1
set_option linter.all false
set_option maxHeartbeats 16000000
set_option maxRecDepth 100000
section
namespace Go.Proofs.YtjkmhmepljamoaaGreat
open Go.Ab Go.RowKit Tryz
abbrev Str:=List UInt8
structure CpuD where
 x:Nat->Int
 pc:Int
 csr:Nat->Int
structure DskD where
 blocks:Int
 block:Int
 frame:Int
 state:Int
 cmd:Int
 opBlock:Int
 opFrame:Int
 opData:Str
structure NicD where
 frame:Int
 len:Int
 posted:Bool
 buffer:Int
 received:Bool
 got:Int
structure TimD where
 armed:Bool
 dl:Int
 fired:Bool
structure MchD where
 cpu:CpuD
 mem:List Int
 keys:Str
 tim:TimD
 dk:DskD
 nc:NicD
 tgt:Int
 given:Int
 count:Int
 waiting:Bool
 halted:Bool
abbrev uv(n:Int):V:=.int .u32 n
abbrev lv(n:Int):V:=.int .u64 n
abbrev iv(n:Int):V:=.int .i64 n
abbrev DO(l:List Int):V:=.sl 1 false (ints .u32 l)
abbrev CpuD.row(c:CpuD):List V:=[uv (c.x 0),uv (c.x 1),uv (c.x 2),uv (c.x 3),uv (c.x 4),uv (c.x 5),uv (c.x 6),uv (c.x 7),uv (c.x 8),uv (c.x 9),uv (c.x 10),uv (c.x 11),uv (c.x 12),uv (c.x 13),uv (c.x 14),uv (c.x 15),uv c.pc,uv (c.csr 0),uv (c.csr 1),uv (c.csr 2),uv (c.csr 3),uv (c.csr 4),uv (c.csr 5),uv (c.csr 6),uv (c.csr 7)]
abbrev DskD.row(d:DskD):List V:=[uv d.blocks,uv d.block,uv d.frame,iv d.state,iv d.cmd,uv d.opBlock,uv d.opFrame,.str d.opData]
abbrev NicD.row(n:NicD):List V:=[uv n.frame,uv n.len,.bool n.posted,uv n.buffer,.bool n.received,uv n.got]
abbrev TimD.row(t:TimD):List V:=[.bool t.armed,uv t.dl,.bool t.fired]
abbrev MchD.row(m:MchD):List V:=m.cpu.row++DO m.mem::.str m.keys::(m.tim.row++(m.dk.row++(m.nc.row++[uv m.tgt,uv m.given,lv m.count,.bool m.waiting,.bool m.halted])))
def pagesD(mem:List Int):Int:=if(mem.length:Int).tmod 32=0/\(mem.length:Int)<=1024 then IntKind.i64.wrap (mem.length/32)else 0
def timMay(t:TimD):Bool:=if t.armed then !t.fired&&t.dl != 0 else if t.fired then true else t.dl==0
def It(d:DskD):Bool:=if d.cmd=1 then d.opData==[]else if d.cmd=2 then d.opData.length==128 else false
def dskMay(d:DskD)(pages:Int):Bool :=
 if d.blocks > 64 then false
 else if d.state=0\/d.state=2\/d.state=3 then d.cmd==0&&d.opBlock==0&&d.opFrame==0&&d.opData==[]
 else if d.state=1 then It d&&decide (d.opBlock<d.blocks)&&decide (IntKind.i64.wrap d.opFrame<pages)
 else false
def nicMay(n:NicD)(pages:Int):Bool :=
 if n.posted&&n.received then false
 else if n.posted&&decide (pages<=IntKind.i64.wrap n.buffer)then false
 else if !n.posted&&n.buffer != 0 then false
 else if n.received then decide (n.got >= 1)&&decide (n.got<=128)else n.got==0
def bitLen(x:Int):Nat:=Lib.bitLen x.toNat
def balMay(given pages:Int):Bool:=decide ((bitLen given:Int)<=max pages 0)
def mayD(m:MchD):Bool :=
 (pagesD m.mem != 0)&&(m.cpu.x 0==0)&&decide (m.cpu.csr 0<=31)&&decide (m.cpu.csr 7<=31)&&decide (m.cpu.csr 6<=255)&&(m.cpu.csr 1%4==0) &&
  decide (m.count<=1152921504606846976)&&!(m.waiting&&m.halted) &&
  (decide ((m.keys.length:Int)<=16)&&timMay m.tim&&dskMay m.dk (pagesD m.mem)&&nicMay m.nc (pagesD m.mem)&&balMay m.given (pagesD m.mem))
structure EvD where
 kind:Int
 n:Int
 data:Str
structure EntD where
 at_:Int
 ev:EvD
structure OutD where
 kind:Int
 at_:Int
 block:Int
 data:Str
structure SegD where
 from_:Int
 known:Int
 ents:List EntD
structure RecD where
 m:MchD
 clock:Int
 log:List EntD
 queue:List EvD
structure RplD where
 m:MchD
 log:List EntD
 known:Int
 clock:Int
structure GateD where
 held:List OutD
 acked:Int
 bytes:Int
structure SndD where
 base:Int
 tail:Int
 known:Int
 queue:List SegD
structure RcvD where
 next:Int
 known:Int
 early:List (Int×SegD)
structure DetD where
 limit:Int
 silent:Int
 seen:Int
structure RepD where
 host:Int
 role:Int
 gen:Int
 rec_:RecD
 rpl:RplD
 gate:GateD
 mark:Int
 out:SndD
 inn:RcvD
 watch:DetD
 beats:Int
 cmd:Int
 cmdAt:Int
 hist:List EntD
abbrev EvD.row(e:EvD):List V:=[iv e.kind,uv e.n,.str e.data]
abbrev EntD.row(e:EntD):List V:=[lv e.at_,iv e.ev.kind,uv e.ev.n,.str e.ev.data]
abbrev OutD.row(o:OutD):List V:=[iv o.kind,lv o.at_,uv o.block,.str o.data]
def ents(l:List EntD):List (List V):=l.map EntD.row
def evs(l:List EvD):List (List V):=l.map EvD.row
def outs(l:List OutD):List (List V):=l.map OutD.row
abbrev Bo(l:List EntD):V:=.sl 4 false (ents l)
abbrev SegD.row(g:SegD):List V:=[lv g.from_,lv g.known,Bo g.ents]
def segs(l:List SegD):List (List V):=l.map SegD.row
def Iz(l:List (Int×SegD)):List (List V):=l.map fun e=>[lv e.1,lv e.2.from_,lv e.2.known,Bo e.2.ents]
abbrev RecD.row(r:RecD):List V:=r.m.row++[uv r.clock,Bo r.log,.sl 3 false (evs r.queue)]
abbrev RplD.row(r:RplD):List V:=r.m.row++[Bo r.log,lv r.known,uv r.clock]
abbrev GateD.row(g:GateD):List V:=[.sl 4 false (outs g.held),lv g.acked,lv g.bytes]
abbrev SndD.row(s:SndD):List V:=[lv s.base,lv s.tail,lv s.known,.sl 3 false (segs s.queue)]
abbrev RcvD.row(r:RcvD):List V:=[lv r.next,lv r.known,.sl 4 false (Iz r.early)]
abbrev DetD.row(d:DetD):List V:=[iv d.limit,iv d.silent,lv d.seen]
abbrev RepD.row(r:RepD):List V:=[iv r.host,iv r.role,lv r.gen]++(r.rec_.row++(r.rpl.row++(r.gate.row++([lv r.mark]++(r.out.row++(r.inn.row++(r.watch.row++[lv r.beats,iv r.cmd,lv r.cmdAt,Bo r.hist])))))))
def zCpu:CpuD:=⟨fun _=>0,0,fun _=>0⟩
def gK:DskD:=⟨0,0,0,0,0,0,0,[]⟩
def zNic:NicD:=⟨0,0,false,0,false,0⟩
def zTim:TimD:=⟨false,0,false⟩
def Vt:MchD:=⟨zCpu,[],[],zTim,gK,zNic,0,0,0,false,false⟩
def zRec:RecD:=⟨Vt,0,[],[]⟩
def zRpl:RplD:=⟨Vt,[],0,0⟩
def zGate:GateD:=⟨[],0,0⟩
def zSnd:SndD:=⟨0,0,0,[]⟩
def zRcv:RcvD:=⟨0,0,[]⟩
def zDet:DetD:=⟨0,0,0⟩
def zRep:RepD:=⟨0,0,0,zRec,zRpl,zGate,0,zSnd,zRcv,zDet,0,0,0,[]⟩
attribute [simp] zRep zRec zRpl Vt zCpu gK zNic zTim zGate zSnd zRcv zDet
@[simp] theorem nil_ents:ents []=[]:=rfl
@[simp] theorem nil_evs:evs []=[]:=rfl
@[simp] theorem XM:outs []=[]:=rfl
@[simp] theorem nil_segs:segs []=[]:=rfl
@[simp] theorem nil_earls:Iz []=[]:=rfl
@[simp] theorem nil_ints(k:IntKind):ints k []=[]:=rfl
def Jp(limit:Int):Bool:=decide (1<=limit)&&decide (limit<=20)
def FK(host:Int)(m:MchD)(gen limit:Int):RepD:={zRep with host:=host,gen:=gen,gate:=⟨[],m.count,0⟩,mark:=m.count,watch:=⟨limit,0,0⟩}
def Bv(host:Int)(m:MchD)(gen limit:Int):Bool:=Jp limit&&(decide (host=0)||decide (host=1))&&!decide (gen=0)&&mayD m&&!decide (m.dk.state=1)
def Dz(host:Int)(m:MchD)(gen limit:Int):RepD:={FK host m gen limit with role:=1,rec_:=⟨m,0,[],[]⟩,out:=⟨1,m.count,m.count,[]⟩}
def GP(host:Int)(m:MchD)(gen limit:Int):RepD:={FK host m gen limit with role:=2,rpl:=⟨m,[],m.count,0⟩,inn:=⟨1,m.count,[]⟩}
theorem DL(xs:List (List V))(t:Bool)(z:Nat)(hz:z=1\/(z=0/\xs=[]))(hb:xs.length<=100000):AC prog 103 [.sl z t xs] (.new 25 1 xs):=by
 refine sX func103 ntmps103 ?_;intros;apply wr;refine⟨?_,fun hx=>?_⟩
 ·refine au ?_;intros;apply wr;refine cF0 rfl ?_;refine Jn @maxLen.eq_1 ?_;refine ar ?_;simp
 subst hx;refine au ?_;refine CV ?_;intros;apply wr;refine AT 2 25 1 (by decide) rfl ?_;refine ar ?_;simp
theorem AN(k:IntKind)(l:List Int):(ints k l).length=l.length:=by simp[ints]
theorem Cq(l:List Int):AC prog 170 [DO l] (iv (pagesD l)):=by
 refine sZ func170 ntmps170 ?_;exact wx1 trivial trivial (kX2 @AN @pagesD.eq_1)
theorem Sv(s:Str):AC prog 223 [.st [.str s]] (.bool (decide ((s.length:Int)<=16))):=by
 refine sZ func223 ntmps223 ?_;exact wx trivial trivial
theorem V0(t:TimD):AC prog 224 [.st t.row] (.bool (timMay t)):=by
 refine sZ func224 ntmps224 ?_;exact wx1 trivial trivial @timMay.eq_1
theorem Ss(d:DskD):AC prog 286 [.st d.row] (.bool (It d)):=by
 refine sZ func286 ntmps286 ?_;exact wx1 trivial trivial @It.eq_1
theorem TB(d:DskD)(p:Int):AC prog 225 [.st d.row,iv p] (.bool (dskMay d p)):=by
 refine sZ func225 ntmps225 ?_;exact wx1 (qX1 (Ss _)) trivial @dskMay.eq_1
theorem UE(n:NicD)(p:Int):AC prog 226 [.st n.row,iv p] (.bool (nicMay n p)):=by
 refine sZ func226 ntmps226 ?_;exact wx1 trivial trivial @nicMay.eq_1
theorem u8a(x:Int):0<=IntKind.u8.wrap x:=by rw[IntKind.wrap_u8];omega
theorem u8b(x:Int):IntKind.u8.wrap x<256:=by rw[IntKind.wrap_u8];omega
theorem lit8f:∀k:Fin 256,(([0,1,2,2,3,3,3,3,4,4,4,4,4,4,4,4,5,5,5,5,5,5,5,5,5,5,5,5,5,5,5,5,6,6,6,6,6,6,6,6,6,6,6,6,6,6,6,6,6,6,6,6,6,6,6,6,6,6,6,6,6,6,6,6,7,7,7,7,7,7,7,7,7,7,7,7,7,7,7,7,7,7,7,7,7,7,7,7,7,7,7,7,7,7,7,7,7,7,7,7,7,7,7,7,7,7,7,7,7,7,7,7,7,7,7,7,7,7,7,7,7,7,7,7,7,7,7,7,8,8,8,8,8,8,8,8,8,8,8,8,8,8,8,8,8,8,8,8,8,8,8,8,8,8,8,8,8,8,8,8,8,8,8,8,8,8,8,8,8,8,8,8,8,8,8,8,8,8,8,8,8,8,8,8,8,8,8,8,8,8,8,8,8,8,8,8,8,8,8,8,8,8,8,8,8,8,8,8,8,8,8,8,8,8,8,8,8,8,8,8,8,8,8,8,8,8,8,8,8,8,8,8,8,8,8,8,8,8,8,8,8,8,8,8,8,8,8,8,8,8,8,8,8,8,8,8]:List UInt8)[k.val]?.getD 0).toNat=Lib.bitLen k.val:=by decide +kernel
theorem SO(x:Int):(([0,1,2,2,3,3,3,3,4,4,4,4,4,4,4,4,5,5,5,5,5,5,5,5,5,5,5,5,5,5,5,5,6,6,6,6,6,6,6,6,6,6,6,6,6,6,6,6,6,6,6,6,6,6,6,6,6,6,6,6,6,6,6,6,7,7,7,7,7,7,7,7,7,7,7,7,7,7,7,7,7,7,7,7,7,7,7,7,7,7,7,7,7,7,7,7,7,7,7,7,7,7,7,7,7,7,7,7,7,7,7,7,7,7,7,7,7,7,7,7,7,7,7,7,7,7,7,7,8,8,8,8,8,8,8,8,8,8,8,8,8,8,8,8,8,8,8,8,8,8,8,8,8,8,8,8,8,8,8,8,8,8,8,8,8,8,8,8,8,8,8,8,8,8,8,8,8,8,8,8,8,8,8,8,8,8,8,8,8,8,8,8,8,8,8,8,8,8,8,8,8,8,8,8,8,8,8,8,8,8,8,8,8,8,8,8,8,8,8,8,8,8,8,8,8,8,8,8,8,8,8,8,8,8,8,8,8,8,8,8,8,8,8,8,8,8,8,8,8,8,8,8,8,8,8,8]:List UInt8)[(IntKind.u8.wrap x).toNat]?.getD 0).toNat=Lib.bitLen (IntKind.u8.wrap x).toNat:=lit8f ⟨(IntKind.u8.wrap x).toNat,by have:=u8a x;have:=u8b x;omega⟩
theorem lit8g(x:Int)(h:(IntKind.u8.wrap x).toNat<([0,1,2,2,3,3,3,3,4,4,4,4,4,4,4,4,5,5,5,5,5,5,5,5,5,5,5,5,5,5,5,5,6,6,6,6,6,6,6,6,6,6,6,6,6,6,6,6,6,6,6,6,6,6,6,6,6,6,6,6,6,6,6,6,7,7,7,7,7,7,7,7,7,7,7,7,7,7,7,7,7,7,7,7,7,7,7,7,7,7,7,7,7,7,7,7,7,7,7,7,7,7,7,7,7,7,7,7,7,7,7,7,7,7,7,7,7,7,7,7,7,7,7,7,7,7,7,7,8,8,8,8,8,8,8,8,8,8,8,8,8,8,8,8,8,8,8,8,8,8,8,8,8,8,8,8,8,8,8,8,8,8,8,8,8,8,8,8,8,8,8,8,8,8,8,8,8,8,8,8,8,8,8,8,8,8,8,8,8,8,8,8,8,8,8,8,8,8,8,8,8,8,8,8,8,8,8,8,8,8,8,8,8,8,8,8,8,8,8,8,8,8,8,8,8,8,8,8,8,8,8,8,8,8,8,8,8,8,8,8,8,8,8,8,8,8,8,8,8,8,8,8,8,8,8,8]:List UInt8).length):(([0,1,2,2,3,3,3,3,4,4,4,4,4,4,4,4,5,5,5,5,5,5,5,5,5,5,5,5,5,5,5,5,6,6,6,6,6,6,6,6,6,6,6,6,6,6,6,6,6,6,6,6,6,6,6,6,6,6,6,6,6,6,6,6,7,7,7,7,7,7,7,7,7,7,7,7,7,7,7,7,7,7,7,7,7,7,7,7,7,7,7,7,7,7,7,7,7,7,7,7,7,7,7,7,7,7,7,7,7,7,7,7,7,7,7,7,7,7,7,7,7,7,7,7,7,7,7,7,8,8,8,8,8,8,8,8,8,8,8,8,8,8,8,8,8,8,8,8,8,8,8,8,8,8,8,8,8,8,8,8,8,8,8,8,8,8,8,8,8,8,8,8,8,8,8,8,8,8,8,8,8,8,8,8,8,8,8,8,8,8,8,8,8,8,8,8,8,8,8,8,8,8,8,8,8,8,8,8,8,8,8,8,8,8,8,8,8,8,8,8,8,8,8,8,8,8,8,8,8,8,8,8,8,8,8,8,8,8,8,8,8,8,8,8,8,8,8,8,8,8,8,8,8,8,8,8]:List UInt8)[(IntKind.u8.wrap x).toNat]'h).toNat=Lib.bitLen (IntKind.u8.wrap x).toNat:=by
 rw[<- SO x,gR h];rfl
theorem TT(x:Int):x.fdiv (2^min 16 IntKind.u32.bits)=x/65536:=by rw[gU _ (by decide)];rfl
theorem fd8(x:Int):x.fdiv (2^min 8 IntKind.u32.bits)=x/256:=by rw[gU _ (by decide)];rfl
theorem bl_w(x:Int)(k:Nat)(hk:k<=24)(h0:0<=x)(h1:x<256):IntKind.i64.wrap ((k:Int)+IntKind.i64.wrap (Lib.bitLen (IntKind.u8.wrap x).toNat))=k+Lib.bitLen x.toNat:=by
 have hw:IntKind.u8.wrap x=x:=by rw[IntKind.wrap_u8];omega
 rw[hw];have:=Lib.bitLen_le x.toNat 8 (by omega) (by omega);rw[AA (n:=(Lib.bitLen x.toNat:Int)) (by omega) (by omega),AA]
theorem FP:IntKind.i64.wrap 16=16:=by decide
theorem FQ:IntKind.i64.wrap 24=24:=by decide
theorem JJ:IntKind.i64.wrap 8=8:=by decide
theorem Si(x:Int)(h0:0<=x)(h1:x<=4294967295):AC prog 287 [uv x] (iv (bitLen x)):=by
 refine sX func287 ntmps287 ?_;(repeat intro K hK);apply wr
 repeat' (first|(with_reducible first|refine B5 fun K hK=>?_|refine BK ?_)|((with_reducible first|refine Au (by kernel_rfl) ?_|refine Bb ?_|refine B8 ?_|refine Ba ?_|refine B9 ?_|refine B6 ?_|refine B2 ?_);simp[u8a,u8b,SO,TT,fd8,FP,FQ,JJ])|((repeat ((fail_if_success ((with_reducible refine hK _ ?_)));clear hK));(with_reducible refine hK _ ?_);clear hK)|refine And.intro (by first|omega|assumption|grind) ?_|(refine AB rfl (fun h=>?_) (fun h=>?_)<;>(first|(simp[u8a,u8b,SO,TT,fd8,FP,FQ,JJ]at h;done)|(simp[u8a,u8b,SO,TT,fd8,FP,FQ,JJ]at h)|skip)<;>(first|(exfalso;omega)|skip))|(refine BS ?_;simp[u8a,u8b,SO,TT,fd8,FP,FQ,JJ];(first|done|(simp_all[u8a,u8b,SO,TT,fd8,FP,FQ,JJ];done)|(simp_all[u8a,u8b,SO,TT,fd8,FP,FQ,JJ];omega)|grind);done)|(refine Ds ?_;refine BS ?_;simp[u8a,u8b,SO,TT,fd8,FP,FQ,JJ];(first|done|(simp_all[u8a,u8b,SO,TT,fd8,FP,FQ,JJ];done)|(simp_all[u8a,u8b,SO,TT,fd8,FP,FQ,JJ];omega)|grind);done)|(refine BS ?_;simp[u8a,u8b,SO,TT,fd8,FP,FQ,JJ];done)|(refine Ds ?_;refine BS ?_;simp[u8a,u8b,SO,TT,fd8,FP,FQ,JJ];done))
 all_goals refine BS ?_
 all_goals simp[lit8g]
 ·skip;have e:=bl_w (x/65536/256) 24 (by omega) (by omega) (by omega);simp at e;rw[e];have e2:=Lib.bitLen_shift24 x.toNat (by omega) (by omega);unfold bitLen;rw[e2,show(x/65536/256).toNat=x.toNat/16777216 by omega];simp
 ·skip;have e:=bl_w (x/65536) 16 (by omega) (by omega) (by omega);simp at e;rw[e];have e2:=Lib.bitLen_shift16 x.toNat (by omega) (by omega);unfold bitLen;rw[e2,show(x/65536).toNat=x.toNat/65536 by omega];simp
 ·skip;have e:=bl_w (x/256) 8 (by omega) (by omega) (by omega);simp at e;rw[e];have e2:=Lib.bitLen_shift8 x.toNat (by omega) (by omega);unfold bitLen;rw[e2,show(x/256).toNat=x.toNat/256 by omega];simp
 skip;have e:=bl_w x 0 (by omega) (by omega) (by omega);simp at e;rw[e];rfl
theorem Sa(a g p:Int)(h0:0<=g)(h1:g<=4294967295):AC prog 227 [.st [uv a,uv g],iv p] (.bool (balMay g p)):=by
 refine sZ func227 ntmps227 ?_;exact wx1 (qX1 (Si _ h0 h1)) trivial @balMay.eq_1
theorem Tz(m:MchD)(h0:0<=m.given)(h1:m.given<=4294967295):AC prog 171 [.st m.row] (.bool (decide ((m.keys.length:Int)<=16)&&timMay m.tim&&dskMay m.dk (pagesD m.mem)&&nicMay m.nc (pagesD m.mem)&&balMay m.given (pagesD m.mem))):=by
 refine sZ func171 ntmps171 ?_;exact wx (qX6 (Cq m.mem) (Sv m.keys) (V0 m.tim) (TB m.dk (pagesD m.mem)) (UE m.nc (pagesD m.mem)) (Sa m.tgt m.given (pagesD m.mem) h0 h1)) trivial
theorem JQ(m:MchD)(h0:0<=m.given)(h1:m.given<=4294967295):AC prog 112 [.st m.row] (.bool (mayD m)):=by
 refine sZ func112 ntmps112 ?_;exact wx1 (qX2 (Cq m.mem) (Tz m h0 h1)) trivial @mayD.eq_1
theorem G6(xs:List (List V))(t:Bool)(z:Nat)(hz:z=4\/(z=0/\xs=[]))(hb:xs.length<=100000):AC prog 60 [.sl z t xs] (.new 108 4 xs):=by
 refine sX func60 ntmps60 ?_;intros;apply wr;refine⟨?_,fun hx=>?_⟩
 ·refine au ?_;intros;apply wr;refine cF0 rfl ?_;refine Jn @maxLen.eq_1 ?_;refine ar ?_;simp
 subst hx;refine au ?_;refine CV ?_;intros;apply wr;refine AT 2 108 4 (by decide) rfl ?_;refine ar ?_;simp
theorem PV(xs:List (List V))(t:Bool)(z:Nat)(hz:z=3\/(z=0/\xs=[]))(hb:xs.length<=100000):AC prog 61 [.sl z t xs] (.new 106 3 xs):=by
 refine sX func61 ntmps61 ?_;intros;apply wr;refine⟨?_,fun hx=>?_⟩
 ·refine au ?_;intros;apply wr;refine cF0 rfl ?_;refine Jn @maxLen.eq_1 ?_;refine ar ?_;simp
 subst hx;refine au ?_;refine CV ?_;intros;apply wr;refine AT 2 106 3 (by decide) rfl ?_;refine ar ?_;simp
theorem PU(xs:List (List V))(t:Bool)(z:Nat)(hz:z=4\/(z=0/\xs=[]))(hb:xs.length<=100000):AC prog 62 [.sl z t xs] (.new 124 4 xs):=by
 refine sX func62 ntmps62 ?_;intros;apply wr;refine⟨?_,fun hx=>?_⟩
 ·refine au ?_;intros;apply wr;refine cF0 rfl ?_;refine Jn @maxLen.eq_1 ?_;refine ar ?_;simp
 subst hx;refine au ?_;refine CV ?_;intros;apply wr;refine AT 2 124 4 (by decide) rfl ?_;refine ar ?_;simp
theorem cloneS(xs:List (List V))(t:Bool)(z:Nat)(hz:z=3\/(z=0/\xs=[]))(hb:xs.length<=100000):AC prog 63 [.sl z t xs] (.new 145 3 xs):=by
 refine sX func63 ntmps63 ?_;intros;apply wr;refine⟨?_,fun hx=>?_⟩
 ·refine au ?_;intros;apply wr;refine cF0 rfl ?_;refine Jn @maxLen.eq_1 ?_;refine ar ?_;simp
 subst hx;refine au ?_;refine CV ?_;intros;apply wr;refine AT 2 145 3 (by decide) rfl ?_;refine ar ?_;simp
theorem cloneY(xs:List (List V))(t:Bool)(z:Nat)(hz:z=4\/(z=0/\xs=[]))(hb:xs.length<=100000):AC prog 65 [.sl z t xs] (.new 149 4 xs):=by
 refine sX func65 ntmps65 ?_;intros;apply wr;refine⟨?_,fun hx=>?_⟩
 ·refine au ?_;intros;apply wr;refine cF0 rfl ?_;refine Jn @maxLen.eq_1 ?_;refine ar ?_;simp
 subst hx;refine au ?_;refine CV ?_;intros;apply wr;refine AT 2 149 4 (by decide) rfl ?_;refine ar ?_;simp
theorem Ay(l:List EntD):(ents l).length=l.length:=by simp[ents]
theorem HV(l:List EvD):(evs l).length=l.length:=by simp[evs]
theorem NQ(r:RecD)(h1:r.m.mem.length<=100000)(h2:r.log.length<=100000)(h3:r.queue.length<=100000):AC prog 108 [.st r.row] (.st r.row):=by
 refine sZ func108 ntmps108 ?_;exact wx (qX3 (DL (ints .u32 r.m.mem) false 1 (.inl rfl) (by rw[AN];exact h1)) (G6 (ents r.log) false 4 (.inl rfl) (by rw[Ay];exact h2)) (PV (evs r.queue) false 3 (.inl rfl) (by rw[HV];exact h3))) trivial
theorem J9(r:RplD)(h1:r.m.mem.length<=100000)(h2:r.log.length<=100000):AC prog 113 [.st r.row] (.st r.row):=by
 refine sZ func113 ntmps113 ?_;exact wx (qX2 (DL (ints .u32 r.m.mem) false 1 (.inl rfl) (by rw[AN];exact h1)) (G6 (ents r.log) false 4 (.inl rfl) (by rw[Ay];exact h2))) trivial
theorem NR(m:MchD)(h1:m.mem.length<=100000):AC prog 56 [.st m.row] (.st (RecD.row ⟨m,0,[],[]⟩)):=by
 refine sZ func56 ntmps56 ?_;exact wx1 (qX1 (NQ ⟨m,0,[],[]⟩ h1 (by simp) (by simp))) trivial (kX2 @ents.eq_1 @evs.eq_1)
theorem Ux(m:MchD)(h1:m.mem.length<=100000):AC prog 59 [.st m.row] (.st (RplD.row ⟨m,[],m.count,0⟩)):=by
 refine sZ func59 ntmps59 ?_;exact wx1 (qX1 (J9 ⟨m,[],m.count,0⟩ h1 (by simp))) trivial @ents.eq_1
theorem N1(n:Int):AC prog 57 [lv n] (.tup [.st (SndD.row ⟨1,n,n,[]⟩),.st (RcvD.row ⟨1,n,[]⟩)]):=by
 refine sZ func57 ntmps57 ?_;exact wx1 trivial trivial (kX2 @segs.eq_1 @Iz.eq_1)
theorem Gb(d:DetD):AC prog 82 [.st d.row] (.bool (decide (1<=d.limit)&&decide (d.limit<=20)&&decide (0<=d.silent)&&decide (d.silent<=d.limit))):=by
 refine sZ func82 ntmps82 ?_;exact wx trivial trivial
theorem P9(k:Int):AC prog 111 [iv k] (.tup [.st (DetD.row (if Jp k then⟨k,0,0⟩else zDet)),.bool (Jp k)]):=by
 refine sZ func111 ntmps111 ?_;exact wx1 (qX1 (Gb ⟨k,0,0⟩)) trivial (kX2 @Jp.eq_1 @zDet.eq_1)
abbrev freshV(host:Int)(m:MchD)(gen limit:Int):V:=.tup [.st (RepD.row (if Bv host m gen limit then FK host m gen limit else zRep)),.bool (Bv host m gen limit)]
theorem IY(host:Int)(m:MchD)(gen limit:Int)(h0:0<=m.given)(h1:m.given<=4294967295):AC prog 55 [iv host,.st m.row,lv gen,iv limit] (freshV host m gen limit):=by
 cases hd:Jp limit with
 | false =>
  have hf:Bv host m gen limit=false:=by simp[Bv,hd]
  refine sZ func55 ntmps55 ?_;exact wx1 (qX2 (P9 limit) (JQ m h0 h1)) trivial (kX2 @hd @hf)
 | true =>
  refine sX func55 ntmps55 ?_;intros;apply wr
  (refine au1 @hd ?_;intros;apply wr)
  repeat' ((first|(refine AB rfl (fun h=>?_) (fun h=>?_)<;>(first|(simp[hd]at h;done)|(simp[hd]at h)|skip)<;>(first|(exfalso;omega)|skip))|refine cc1 (P9 limit) @hd ?_|refine cc1 (JQ m h0 h1) @hd ?_|exact rt1 @hd|fail)<;>(refine au1 @hd ?_;intros;apply wr))
  ·rename_i h _;have hf:Bv host m gen limit=false:=by simp[Bv,hd];grind
   refine ar ?_;simp[hf]
  rename_i h _;have hf:Bv host m gen limit=true:=by simp[Bv,hd];grind
  refine ar ?_;simp[hf,FK]
abbrev dF(host:Int)(m:MchD)(gen limit:Int):V:=.tup [.st (RepD.row (if Bv host m gen limit then Dz host m gen limit else zRep)),.bool (Bv host m gen limit)]
abbrev backV(host:Int)(m:MchD)(gen limit:Int):V:=.tup [.st (RepD.row (if Bv host m gen limit then GP host m gen limit else zRep)),.bool (Bv host m gen limit)]
theorem UT(host:Int)(m:MchD)(gen limit:Int)(h0:0<=m.given)(h1:m.given<=4294967295)(hm:m.mem.length<=100000):AC prog 22 [iv host,.st m.row,lv gen,iv limit] (dF host m gen limit):=by
 cases hf:Bv host m gen limit with
 | false =>
  refine sZ func22 ntmps22 ?_;exact wx1 (qX1 (IY host m gen limit h0 h1)) trivial @hf
 | true =>
  refine sZ func22 ntmps22 ?_;exact wx1 (qX3 (IY host m gen limit h0 h1) (NR m hm) (N1 m.count)) trivial (kX3 @hf @FK.eq_1 @Dz.eq_1)
theorem aB(host:Int)(m:MchD)(gen limit:Int)(h0:0<=m.given)(h1:m.given<=4294967295)(hm:m.mem.length<=100000):AC prog 25 [iv host,.st m.row,lv gen,iv limit] (backV host m gen limit):=by
 cases hf:Bv host m gen limit with
 | false =>
  refine sZ func25 ntmps25 ?_;exact wx1 (qX1 (IY host m gen limit h0 h1)) trivial @hf
 | true =>
  refine sZ func25 ntmps25 ?_;exact wx1 (qX3 (IY host m gen limit h0 h1) (Ux m hm) (N1 m.count)) trivial (kX3 @hf @FK.eq_1 @GP.eq_1)
theorem EA(l:List Int):AC prog 143 [DO l] (iv (pagesD l)):=by
 refine sZ func143 ntmps143 ?_;exact wx1 trivial trivial (kX2 @AN @pagesD.eq_1)
theorem Rk(s:Str):AC prog 144 [.st [.str s]] (.bool (decide ((s.length:Int)<=16))):=by
 refine sZ func144 ntmps144 ?_;exact wx trivial trivial
theorem Rw(t:TimD):AC prog 145 [.st t.row] (.bool (timMay t)):=by
 refine sZ func145 ntmps145 ?_;exact wx1 trivial trivial @timMay.eq_1
theorem Rl(d:DskD)(p:Int):AC prog 146 [.st d.row,iv p] (.bool (dskMay d p)):=by
 refine sZ func146 ntmps146 ?_;exact wx1 trivial trivial (kX2 @dskMay.eq_1 @It.eq_1)
theorem Rt(n:NicD)(p:Int):AC prog 147 [.st n.row,iv p] (.bool (nicMay n p)):=by
 refine sZ func147 ntmps147 ?_;exact wx1 trivial trivial @nicMay.eq_1
theorem fC{α:Type}(xs ys:List α)(h:xs.length=ys.length):spl xs 0 ys=ys:=by
 apply List.ext_getElem?;intro j;rw[D3 _ _ _ _ (by omega)];split
 ·simp
 rw[iV (by omega),iV (by omega)]
theorem fE(z:List V)(l:List Int):spl (List.replicate l.length z) 0 (ints .u32 l)=ints .u32 l:=fC _ _ (by simp[ints])
theorem VX(l:List Int):(ints .u32 l).take l.length=ints .u32 l:=by rw[iZ];simp[ints]
theorem Xn(l:List Int)(h:l.length<=100000):AC prog 149 [DO l] (.new 25 1 (ints .u32 l)):=by
 refine sZ func149 ntmps149 ?_;refine Jn (kX2 @AN @maxLen.eq_1) ?_;exact wx1 trivial trivial (kX4 @AN @maxLen.eq_1 @VX @fE)
theorem So:prog.cellsOf 367=2:=by kernel_rfl
theorem lies90(count:Nat)(h:1<=count):liesAt prog prog.depth 367 count 0 367 1=true:=by
 have hc:=So;have hd:prog.depth=(2*(prog.types.size+Made.depth)+1)+1:=rfl;rw[hd];simp only[liesAt,Bool.or_eq_true];left;rw[hd];simp[rowAt,hc,h,sameLayout]
theorem ZF:∃j,prog.info? 367=some j/\j.size=2:=by
 have h:(prog.info? 367).map (·.size)=some 2:=by kernel_rfl
 exact Option.map_eq_some_iff.1 h
set_option maxHeartbeats 2000000 in
theorem aF(b:Nat)(w:World)(h0:w.cell? ⟨b,0,none⟩=some (.pointer (some ⟨b,0,none⟩))):
  Calls prog 314 #[.pointer (some ⟨b,0,none⟩)] w fun e w'=>e=.returned (.tuple #[])/\w'=w:=by
 obtain⟨j,hj,_⟩:=ZF
 go_enter func314,ntmps314
 go_wp2
 rw[Lib.run_neq_ptr_same w _ Tryz.underlying365 hj]
 go_wp2
 go_end0
 exact⟨rfl,rfl⟩
set_option maxHeartbeats 2000000 in
theorem WY(b count:Nat)(w:World)(h0:w.cell? ⟨b,0,none⟩=some (.pointer none))(hsh:w.shape? b=some (367,count*2))(hct:1<=count)(hfz:w.frozen? ⟨b,0,none⟩=false):
  Calls prog 314 #[.pointer (some ⟨b,0,none⟩)] w fun e w'=>e=.returned (.tuple #[])/\w'=w.setCell ⟨b,0,none⟩ (.pointer (some ⟨b,0,none⟩)):=by
 obtain⟨j,hj,hjs⟩:=ZF;have hlies:liesAt prog prog.depth 367 (count*2/prog.cellsOf 367) 0 367 1=true:=by
  rw[So,Nat.mul_div_cancel _ (by decide)];exact lies90 count hct
 go_enter func314,ntmps314
 go_wp2
 rw[Lib.run_to_unsafe w ⟨b,0,none⟩ Tryz.underlying365 Tryz.underlying425 hj (by rw[hjs];decide) hsh (show 0<count*2 by omega)];simp only[Result.andThen];rw[Oper.upon_value]
 go_wp2
 rw[run_callFunc_extern func334 (by kernel_rfl) (by kernel_rfl) (by kernel_rfl) (e:=Extern.AbiNoEscape.same) (by kernel_rfl)];rw[Lib.run_noEscape];simp only[Result.andThen];rw[Oper.upon_value]
 go_wp2
 rw[Lib.run_from_unsafe w ⟨b,0,none⟩ Tryz.underlying425 Tryz.underlying365 hj hsh hlies];simp only[Result.andThen];rw[Oper.upon_value]
 go_wp2
 go_end0
 exact⟨rfl,rfl⟩
set_option maxHeartbeats 2000000 in
theorem Lm(b:Nat)(A:Option Addr)(n c:Nat)(q:Value)(s:ByteArray)(w w1 w2:World)(c1:w.drew.cell? ⟨b,1,none⟩=some (.slice A n c))(hSD:(Builtin.unsafeSliceData_ #[133] 413 #[.slice A n c]).run prog w.drew=.ok q w1)
  (c2:w1.cell? ⟨b,1,none⟩=some (.slice A n c)) (hUS:(Builtin.unsafeString_ #[413,3] 9 #[q,.int .i64 n]).run prog w1=.ok (.string s) w2) :
  Calls prog 255 #[.pointer (some ⟨b,0,none⟩)] w fun e w'=>e=.returned (.string s)/\w'=w2:=by
 go_enter func255,ntmps255
 go_wp2
 go_region
 all_goals (go_wp2;go_ret;exact⟨rfl,rfl⟩)
theorem vals1{a:Value}{vals:Array Value}(hs:vals.size=1)(h0:vals.getD 0 undef=a):vals=#[a]:=by
 apply Array.ext
 ·simpa using hs
 intro i hi hi';have:i=0:=by simp at hi';omega
 subst this;simpa[Array.getD,hi]using h0
abbrev WS(c0 c1:V):Ob:=⟨367,2,true,false,[[c0,c1]]⟩
abbrev bufO(s:Str):Ob:=⟨5,1,false,false,AM s⟩
theorem MM[Glo]{base:Nat}{Xa:Nat->Prop}{w0:W0}{st:St}{a:Act}{w:World}{M:Mp}(hR:RelM base Xa w0 st a w M){id:Nat}{c0 c1:V}(hob:lookO st.ob id=some (WS c0 c1)){g:Nat}(hg:(M id).ownBlock=some g):
  ∃cap cur,1<=cap/\w.rowAt g cur 367/\cur.size=cap*2/\(∃v0,w.cell? ⟨g,0,none⟩=some v0/\R M w (Xf base Xa w M st.ob) st.nx c0 v0)/\∃v1,w.cell? ⟨g,1,none⟩=some v1/\R M w (Xf base Xa w M st.ob) st.nx c1 v1:=by
 obtain⟨_,hok⟩:=hR.obs id _ hob;obtain⟨vs,hrow,hone,hrr⟩:=hok.row;simp only[if_true]at hrr;have hvl:vs.length=2:=by have:=hrow.1;simpa using this
 rcases hrow.sl (Jb hg)with⟨hn,_⟩|⟨g',O,cap,cur,hM,hbg,hgr,hnc,hcm,hcs,htk⟩
 ·rw[hn]at hg;cases hg
 have hO:O=0:=by have:=hok.off (.inl rfl);rw[hM]at this;exact this
 subst hO;rw[i6]at hcs;rw[hM]at hg;simp only[Value.ownBlock,gQ]at hg;subst hg;have hcell:∀j u,vs[j]? =some u->w.cell? ⟨g',j,none⟩=some u:=fun j u hu=>by
  have:=hrow.cells (g:=g') (by rw[hM];rfl) j u hu;rw[hM]at this;have this:w.cell? ((⟨g',0,none⟩:Addr).add j)=some u:=this;have hadd:(⟨g',0,none⟩:Addr).add j=⟨g',j,none⟩:=by unfold Addr.add;split<;>simp_all
  rwa[hadd]at this
 have hat:∀j,j<2->vs[j]? =some (vs.getD j undef):=fun j hj=>by rw[gP,gR (by omega)];rfl
 exact⟨cap,cur,by simpa using hnc,hgr,hcs,⟨_,hcell 0 _ (hat 0 (by omega)),hrr 0 c0 rfl⟩,_,hcell 1 _ (hat 1 (by omega)),hrr 1 c1 rfl⟩
theorem cc_ok{nx:Nat}{ob:List (Nat×Option Ob)}(id:Nat)(c0 c1:V)(hob:lookO ob id=some (WS c0 c1))(hc:c0=.nilp\/c0=.ptr id 2 0 0):
  Bt prog 314 [.ptr id 2 0 0] nx ob fun r nx' ob'=>r=.tup []/\nx'=nx/\ob'=(id,some (WS (.ptr id 2 0 0) c1))::ob:=by
 refine⟨by kernel_rfl,fun base Xa w0 w M vals hR hs hr=>?_⟩;obtain⟨g,hid,hg,hve⟩:=KB (hr 0 _ rfl);have hO0:(M id).offB=0:=(hR.obs id _ hob).2.off (.inl rfl);rw[hO0]at hve;obtain rfl:=vals1 hs hve;obtain⟨cap,cur,hcap,hgr,hcs,⟨v0,hv0,hr0⟩,_⟩:=MM (id:=id) hR hob hg;rcases hc with rfl|rfl
 ·obtain rfl:v0=.pointer none:=by cases hr0;rfl
  have hfz:=hgr.frozen 0 (by omega);have hsh:w.shape? g=some (367,cap*2):=by
   obtain⟨fz,h1,_⟩:=hgr;simp[World.shape?,h1,hcs]
  refine(WY g cap w hv0 hsh hcap hfz).mono ?_;rintro e w' ⟨rfl,rfl⟩;have hp:R M w (Xf base Xa w M ob) nx (.ptr id 2 0 0) (.pointer (some ⟨g,0,none⟩)):=hve▸hr 0 _ rfl;obtain⟨w',h1,h2⟩:=hR.store (P:=prog) (id:=id) hob rfl hg (i:=0) (by simp) (ds:=[.ptr id 2 0 0]) (us:=[.pointer (some ⟨g,0,none⟩)]) (off:=0) (by simp) (by
   simp only[if_true];exact .one_ rfl hp)
  have h3:(storeCells ⟨g,0,none⟩ [.pointer (some ⟨g,0,none⟩)] 0).run prog w=.ok () (w.setCell ⟨g,0,none⟩ (.pointer (some ⟨g,0,none⟩))):=by
   have hadd:(⟨g,0,none⟩:Addr).add 0=⟨g,0,none⟩:=by unfold Addr.add;simp
   have hst:=run_store prog w ⟨g,0,none⟩ (.pointer (some ⟨g,0,none⟩)) .plain (by rfl);rw[hv0,hfz]at hst;simp only[storeCells,Sem.run_bind,hadd,hst];simp[Result.andThen]
  simp only[Nat.zero_mul,i6,hO0]at h1;rw[h3]at h1;simp only[Result.ok.injEq,true_and]at h1;subst h1;exact⟨_,.tup [],nx,_,M,rfl,⟨rfl,rfl,rfl⟩,h2,.tup _ _ _ rfl fun j u hu=>by simp at hu⟩
 obtain⟨g',_,hg',hve'⟩:=KB hr0;rw[hO0]at hve';subst hve';obtain rfl:g=g':=by rw[hg]at hg';simpa using hg'
 refine(aF g w hv0).mono ?_;rintro e w' ⟨rfl,rfl⟩;refine⟨_,.tup [],nx,_,M,rfl,⟨rfl,rfl,rfl⟩,hR.sub fun i o ho=>?_,.tup _ _ _ rfl fun j u hu=>by simp at hu⟩;simp only[lookO]at ho;split at ho
 ·rename_i e;subst e;simp only[gQ]at ho;subst ho;exact⟨false,hob,fun h=>h⟩
 exact⟨o.fz,ho,fun h=>h⟩
theorem aE{nx:Nat}{ob:List (Nat×Option Ob)}(id bid:Nat)(c0:V)(s:Str)(hob:lookO ob id=some (WS c0 (.own bid)))(hbb:lookO ob bid=some (bufO s)):
  Bt prog 255 [.ptr id 2 0 0] nx ob fun r _ _=>r=.str s:=by
 refine⟨by kernel_rfl,fun base Xa w0 w M vals hR hs hr=>?_⟩;obtain⟨g,hid,hg,hve⟩:=KB (hr 0 _ rfl);have hO0:(M id).offB=0:=(hR.obs id _ hob).2.off (.inl rfl);rw[hO0]at hve;obtain rfl:=vals1 hs hve;obtain⟨cap0,cur0,hcap,hgr0,_,_,v1,hv1,hr1⟩:=MM (id:=id) hR hob hg;obtain⟨hbid,hM⟩:=Ik hr1;obtain⟨A,l,c,rfl⟩:∃A l c,v1=.slice A l c:=by cases hr1;exact⟨_,_,_,rfl⟩
 obtain⟨_,hok⟩:=hR.obs bid _ hbb;obtain⟨vs,hrow,hone,hrr⟩:=hok.row;simp only[iR,if_false]at hrr;have hbl:(AM s).length=s.length:=by simp[AM]
 simp only[hbl]at hrow;have hfin:∀(w2:World)(row:Option Nat),w.grownBy w2 row->(∀k,row=some k->(M bid).ownB=some k)->(Calls prog 255 #[.pointer (some ⟨g,0,none⟩)] w fun e w'=>e=.returned (.string ⟨s.toArray⟩)/\w'=w2) ->
   Calls prog 255 #[.pointer (some ⟨g,0,none⟩)] w fun e w'=>∃val r nx' ob' M',e=.returned val/\r=.str s/\RelM base Xa w0 ⟨0,[],nx',ob',nx⟩ ⟨#[],[]⟩ w' M'/\R M' w' (Xf base Xa w' M' ob') nx' r val:=by
  intro w2 row hgb hrw hcl;refine hcl.mono ?_;rintro e w' ⟨rfl,rfl⟩;obtain⟨M',_,_,hR'⟩:=hR.grow (ob1:=[]) (fun i o ho=>by simp[lookO]at ho) row (fun b hb e=>hb.2 bid _ hbb rfl (hrw b e.symm)) (fun i o ho=>by simp[lookO]at ho) (fun k hk=>(hrow.lt k (hrw k hk)).1) hgb (.slice none 0 0) (fun k hk=>by simp[Value.ownB]at hk) ⟨5,1,false,false,[]⟩ (fun _=>by simp) (by simp) [] (World.ownsG_nil _ _ _ _) (by simp) (fun j u hu=>by simp at hu);exact⟨_,.str s,_,_,M',rfl,rfl,hR',.str _ _⟩
 have hdrew:∀k,w.drew.cell? k=w.cell? k:=fun k=>rfl;have gdrew:w.grownBy w.drew none:=⟨rfl,rfl,rfl,g8 _,fun _ _ _=>rfl⟩;rw[hM]at hrow;have hO1:=hok.off (.inr rfl);rw[hM]at hO1;rcases hrow.2 with⟨h,h0⟩|⟨g2,O,cap,cur,h,hbg,hg2,hnc,hcm,hcs,htk⟩|hodd
 ·simp only[Value.slice.injEq]at h;obtain⟨rfl,rfl,rfl⟩:=h;obtain rfl:s=[]:=iF h0;exact hfin w.drew none gdrew (fun k hk=>by cases hk) (Lm g none 0 0 (.pointer none) ⟨#[]⟩ w w.drew w.drew hv1 rfl hv1 (Lib.run_unsafeString_none _ _ _ _ _))
 ·simp only[Value.slice.injEq]at h;obtain⟨rfl,rfl,rfl⟩:=h;have hO:O=0:=hO1;clear hO1;subst hO;by_cases h0:s=[]
  ·subst h0;by_cases hc0:c=0
   ·subst hc0;have hlt:g<w.heap.size:=hgr0.lt;have hsh:w.drew.shape? g2=some (5,cur.size):=by
     obtain⟨fz,h1,_⟩:=hg2;have h1':w.drew.heap[g2]? =some (.cells cur 5 fz):=h1;simp[World.shape?,h1']
    have hSD:=Lib.run_unsafeSliceData_zero (P:=prog) w.drew #[133] 413 5 Tryz.underlying413 ⟨g2,0,none⟩ 0 _ hsh;have hv1':(w.drew.alloc (.view ⟨g2,0,none⟩ 5)).cell? ⟨g,1,none⟩=some (.slice (some ⟨g2,0,none⟩) 0 0):=by
     rw[World.cell?_of_block (w:=w.drew) (w':=w.drew.alloc (.view ⟨g2,0,none⟩ 5)) (a:=⟨g,1,none⟩) (Lib.alloc_old w.drew _ g hlt)];exact hv1
    refine hfin (w.drew.alloc (.view ⟨g2,0,none⟩ 5)) none ⟨rfl,rfl,rfl,by simp,fun k hk _=>?_⟩ (fun k hk=>by cases hk) (Lm g (some ⟨g2,0,none⟩) 0 0 _ ⟨#[]⟩ w _ _ hv1 hSD hv1' (Lib.run_unsafeString_none _ _ _ _ _));exact Lib.alloc_old w.drew _ k hk
   exact hfin w.drew none gdrew (fun k hk=>by cases hk) (Lm g (some ⟨g2,0,none⟩) 0 c (.pointer (some ⟨g2,0,none⟩)) ⟨#[]⟩ w w.drew w.drew hv1 (Lib.run_unsafeSliceData_row _ _ _ _ _ _ hc0) hv1 (Lib.run_unsafeString_none _ _ _ _ _))
  have hl0:s.length≠0:=by simpa using h0
  have hsh:w.drew.shape? g2=some (5,cur.size):=by
   obtain⟨fz,h1,_⟩:=hg2;have h1':w.drew.heap[g2]? =some (.cells cur 5 fz):=h1;simp[World.shape?,h1']
  have hflat:(AM s).flatten=s.map fun(c:UInt8)=>V.int .u8 (c.toNat:Int):=by
   unfold AM;clear hrow hbb hbl hfin h0 hl0 hnc htk hrr hok hv1 hr1 hM hsh;induction s with
   | nil=>rfl
   | cons c s ih=>simp[ih]
  have hUS:=Lib.run_unsafeString_row (P:=prog) w.drew 413 3 9 5 Tryz.underlying413 (by kernel_rfl) g2 cur.size hsh s h0 (by omega) (by simp only[maxLen]at hcm;omega) (fun j x hx=>by
   have h1:=hrr j (.int .u8 x.toNat) (by rw[hflat,iG,hx];rfl);have h2:=DK h1;have hvj:vs[j]? =some (.int .u8 x.toNat):=by
    rw[<- h2,gP];have hjl:j<vs.length:=by
     have:=(List.getElem?_eq_some_iff.1 hx).1;have:=hrow.1;omega
    rw[gR hjl];rfl
   have:=hrow.cells (g:=g2) (by rfl) j _ hvj;exact this)
  refine hfin (w.drew.freeze ⟨g2,0,none⟩ s.length) (some g2) ?_ (fun k hk=>by rw[hM];simpa[Value.ownB]using hk) (Lm g (some ⟨g2,0,none⟩) s.length c (.pointer (some ⟨g2,0,none⟩)) ⟨s.toArray⟩ w w.drew _ hv1 (Lib.run_unsafeSliceData_row _ _ _ _ _ _ (by omega)) hv1 hUS);unfold World.freeze;rw[if_neg hl0];refine⟨rfl,rfl,rfl,by simp,fun k _ hk=>?_⟩;have hne:g2≠k:=fun e=>hk (by rw[e]);simp[Array.getElem?_modify,hne];rfl
 exact hodd.noSl.elim
def WPost(nx:Nat)(ob:List (Nat×Option Ob))(id bid:Nat)(s:Str)(nx':Nat)(ob':List (Nat×Option Ob)):Prop:=∃k,nx<=k/\k<nx'/\lookO ob' k=some (bufO s)/\lookO ob' id=some (WS (.ptr id 2 0 0) (.own k))/\∀j,j≠id->j≠bid->j<nx->lookO ob' j=lookO ob j
set_option maxHeartbeats 8000000 in
theorem Vl{nx:Nat}{ob:List (Nat×Option Ob)}(id bid:Nat)(c0:V)(s t:Str)(hob:lookO ob id=some (WS c0 (.own bid)))(hbb:lookO ob bid=some (bufO s))(hc:c0=.nilp\/c0=.ptr id 2 0 0)(hi:id<nx)(hb:bid<nx)(hne:id≠bid)(hl:s.length+t.length<=1000000):
  Bt prog 252 [.ptr id 2 0 0,.str t] nx ob fun r nx' ob'=>r=.tup [.int .i64 t.length,.poi]/\WPost nx ob id bid (s++t) nx' ob':=by
 have hbl:(AM s).length=s.length:=by simp[AM]
 have hm:s.length+t.length<=maxLen:=by simp only[maxLen];omega
 have hap:AM s++AM t=AM (s++t):=by simp[AM]
 have n1:¬bid=id:=fun e=>hne e.symm;have n2:¬id=nx:=by omega
 have n3:¬bid=nx:=by omega
 have n4:¬nx=id:=by omega
 have n5:¬nx=bid:=by omega
 refine sIX func252 ntmps252 ?_;intros;apply wr;refine cO ?_;refine(cc_ok id c0 (.own bid) hob hc).mono fun r nx' ob' hp=>?_;simp only[BX];obtain⟨rfl,rfl,rfl⟩:=hp;simp[hne,n1,n2,n3,n4,n5,hob,hbb,hbl,hap];refine au1 (RQ @hne @n1 @n2 @n3 @n4 @n5 @hob @hbb @hbl @hap) ?_;intros;apply wr;refine ar ?_;simp;exact⟨_,g8 _,Nat.lt_succ_self _,by simp[lookO,n4],by simp[lookO],fun j h1 h2 h3=>by
  have h4:¬j=nx':=by omega
  simp[lookO,h1,h2,h4]⟩
set_option maxHeartbeats 8000000 in
theorem Yg{nx:Nat}{ob:List (Nat×Option Ob)}(id:Nat)(t:Str)(hob:lookO ob id=some (WS .nilp (.sl 0 true [])))(hi:id<nx)(hl:t.length<=1000000):
  Bt prog 252 [.ptr id 2 0 0,.str t] nx ob fun r nx' ob'=>r=.tup [.int .i64 t.length,.poi]/\WPost nx ob id nx t nx' ob':=by
 have hbl:(AM ([]:Str)).length=0:=by simp[AM]
 have hm:t.length<=maxLen:=by simp only[maxLen];omega
 have n2:¬id=nx:=by omega
 have n3:¬nx=id:=by omega
 have n4:¬id=nx+1:=by omega
 have n5:¬nx+1=id:=by omega
 refine Bt.of func252 rfl (by kernel_rfl) rfl ?_;simp only[ntmps252,St.startI,Vn];refine Im id 1 5 1 (by decide) hob rfl rfl rfl ?_;refine au1 (kX2 @n2 @n3) ?_;intros;apply wr;refine cO ?_;refine(cc_ok id .nilp (.own nx) (by simp[lookO]) (.inl rfl)).mono fun r nx' ob' hp=>?_;simp only[BX];obtain⟨rfl,rfl,rfl⟩:=hp;simp[n2,n3,n4,n5,hob];refine au1 (kX6 @n2 @n3 @n4 @n5 @hob @hm) ?_;intros;apply wr;refine ar ?_;simp;exact⟨_,Nat.le_succ _,Nat.lt_succ_self _,by simp[lookO,n4,n5],by simp[lookO],fun j h1 h2 h3=>by
  have h4:¬j=nx+1:=by omega
  simp[lookO,h1,h2,h4]⟩
theorem aD{nx:Nat}{ob:List (Nat×Option Ob)}(id bid:Nat)(c0:V)(s:Str)(hob:lookO ob id=some (WS c0 (.own bid)))(hbb:lookO ob bid=some (bufO s)):
  Bt prog 254 [.ptr id 2 0 0] nx ob fun r nx' ob'=>r=.int .i64 s.length/\nx'=nx/\ob'=ob:=by
 have hbl:(AM s).length=s.length:=by simp[AM]
 refine sIY func254 ntmps254 (kX3 @hob @hbb @hbl) ?_;refine ar ?_;simp
def Ev(s:Str)(p:Nat):Str:=(s.drop p).take 4
def CP(s:Str)(n:Nat)(k:Str):List Nat:=(List.range' (n-255) (n-(n-255))).filter fun p=>decide (p+4<=s.length)&&decide (Ev s p=k)
def Nm(s:Str)(i p lim:Nat):Nat->Nat->Nat
 | 0,n=>n
 | f+1,n=>if n<lim/\s[i+n]? =s[p+n]? then Nm s i p lim f (n+1)else n
def GQ(s:Str)(i lim:Nat):List Nat->Nat×Nat->Nat×Nat
 | [],b=>b
 | p::r,b=>if b.2<lim then GQ s i lim r (if b.2<Nm s i p lim lim 4 then(i-p,Nm s i p lim lim 4)else b)else b
def Lx(s:Str)(i:Nat):Nat:=min 67 (s.length-i)
def Cy(s:Str)(i:Nat):Nat×Nat:=if i+4<=s.length then GQ s i (Lx s i) (CP s i (Ev s i)).reverse (0,0)else(0,0)
def Gi:Nat->Str->Str
 | 0,_=>[]
 | f+1,run=>if run=[]then []else UInt8.ofNat (min 128 run.length-1)::(run.take (min 128 run.length)++Gi f (run.drop (min 128 run.length)))
def IG(run:Str):Str:=Gi run.length run
def IK(s:Str):Nat->Nat->Nat->Str->Str
 | 0,_,st,out=>out++IG (s.drop st)
 | f+1,i,st,out =>
  if i<s.length then
   if(Cy s i).2=0 then IK s f (i+1) st out
   else IK s f (i+(Cy s i).2) (i+(Cy s i).2) (out++IG ((s.take i).drop st)++[UInt8.ofNat (124+(Cy s i).2),UInt8.ofNat (Cy s i).1])
  else out++IG (s.drop st)
def GV(s:Str):Str:=IK s s.length 0 0 []
def Ix:Nat->Nat->Str->Str
 | 0,_,o=>o
 | n+1,d,o=>Ix n d (o++[o.getD (o.length-d) 0])
def HG:Nat->Str->Str->Option Str
 | 0,_,_=>none
 | _+1,[],o=>some o
 | f+1,c::t,o =>
  if c.toNat<128 then(if t.length<c.toNat+1 then none else HG f (t.drop (c.toNat+1)) (o++t.take (c.toNat+1)))
  else if c.toNat<=191 then(match t with
   | []=>none
   | d::t'=>if d.toNat=0\/o.length<d.toNat then none else HG f t' (Ix (c.toNat-124) d.toNat o))
  else none
theorem HH(f:Nat)(c:UInt8)(t o:Str):HG (f+1) (c::t) o=if c.toNat<128 then(if t.length<c.toNat+1 then none else HG f (t.drop (c.toNat+1)) (o++t.take (c.toNat+1)))
  else if c.toNat<=191 then(match t with
   | []=>none
   | d::t'=>if d.toNat=0\/o.length<d.toNat then none else HG f t' (Ix (c.toNat-124) d.toNat o))
  else none:=by
 cases t<;>rfl
theorem Jg:∀(f g:Nat)(t o x:Str),f<=g->HG f t o=some x->HG g t o=some x
 | 0,_,_,_,_,_,h=>by simp[HG]at h
 | f+1,0,_,_,_,hl,_=>by omega
 | f+1,g+1,[],o,x,_,h=>by simpa[HG]using h
 | f+1,g+1,c::t,o,x,hl,h=>by
  unfold HG at h ⊢;split at h
  ·rename_i h1;rw[if_pos h1];split at h
   ·cases h
   rename_i h2;rw[if_neg h2];exact Jg f g _ _ _ (by omega) h
  rename_i h1;rw[if_neg h1];split at h
  ·rename_i h2;rw[if_pos h2];cases t with
   | nil=>simp at h
   | cons d t' =>
    simp only at h ⊢;split at h
    ·cases h
    rename_i h3;rw[if_neg h3];exact Jg f g _ _ _ (by omega) h
  cases h
theorem HF{n:Nat}(h:n<256):(UInt8.ofNat n).toNat=n:=by
 simp;omega
theorem Lr:∀(k:Nat)(run:Str),run.length<=k->∀(f:Nat)(b o x:Str),HG f b (o++run)=some x->HG (f+run.length) (Gi k run++b) o=some x
 | 0,run,hk,f,b,o,x,h=>by
  have:run=[]:=iF (by omega);subst this;simpa[Gi]using h
 | k+1,run,hk,f,b,o,x,h=>by
  unfold Gi;by_cases hr:run=[]
  ·subst hr;simpa using h
  rw[if_neg hr];have hpos:0<run.length:=List.length_pos_iff.2 hr;generalize hn:min 128 run.length=n;have hn1:1<=n:=by omega
  have hn2:n<=128:=by omega
  have hn3:n<=run.length:=by omega
  have hc:(UInt8.ofNat (n-1)).toNat=n-1:=HF (by omega);have ht:(run.take n).length=n:=by rw[iD];omega
  have ih:=Lr k (run.drop n) (by rw[iE];omega) f b (o++run.take n) x (by rw[iH,List.take_append_drop];exact h);obtain⟨F,hF⟩:∃F,f+run.length=F+1:=⟨f+run.length-1,by omega⟩;rw[hF,iT,HH,if_pos (by rw[hc];omega),hc,show n-1+1=n by omega,if_neg (by simp only[gV,ht];omega),iH];rw[List.drop_left' ht,List.take_left' ht];refine Jg _ _ _ _ _ ?_ ih;rw[iE];omega
theorem LA:∀(n d:Nat)(o:Str),(Ix n d o).length=o.length+n
 | 0,_,_=>rfl
 | n+1,d,o=>by rw[Ix,LA n d];simp;omega
theorem MU(s:Str)(i d:Nat)(hd:1<=d)(hdi:d<=i):∀(n k:Nat),i+k+n<=s.length->(∀j,j<k+n->s[i+j]? =s[i-d+j]?)->Ix n d (s.take (i+k))=s.take (i+k+n)
 | 0,k,_,_=>rfl
 | n+1,k,hl,h=>by
  rw[Ix];have hlen:(s.take (i+k)).length=i+k:=by rw[iD];omega
  have e:s.take (i+k)++[(s.take (i+k)).getD ((s.take (i+k)).length-d) 0]=s.take (i+(k+1)):=by
   have hk:=h k (by omega);rw[hlen,show i+(k+1)=i+k+1 by omega,List.take_add_one];congr 1;rw[gP,iL,nH,show i+k-d=i-d+k by omega,<- hk,gR (by omega)];rfl
  rw[e,MU s i d hd hdi n (k+1) (by omega) (fun j hj=>h j (by omega)),show i+(k+1)+n=i+k+(n+1) by omega]
structure OkMt(s:Str)(i d l:Nat):Prop where
 l4:4<=l
 l67:l<=67
 il:i+l<=s.length
 d1:1<=d
 d255:d<=255
 di:d<=i
 eq:∀j,j<l->s[i+j]? =s[i-d+j]?
theorem TR(s:Str)(i p lim:Nat):∀(f n:Nat),n<=lim->(∀j,j<n->s[i+j]? =s[p+j]?)->n<=Nm s i p lim f n/\Nm s i p lim f n<=lim/\∀j,j<Nm s i p lim f n->s[i+j]? =s[p+j]?
 | 0,n,h1,h2=>⟨g8 _,h1,h2⟩
 | f+1,n,h1,h2=>by
  unfold Nm;split
  ·rename_i h;obtain⟨q1,q2,q3⟩:=TR s i p lim f (n+1) (by omega) (fun j hj=>by
    by_cases e:j=n
    ·subst e;exact h.2
    exact h2 j (by omega))
   exact⟨by omega,q2,q3⟩
  exact⟨g8 _,h1,h2⟩
theorem grp_eq{s:Str}{i p:Nat}(h:Ev s p=Ev s i):∀j,j<4->s[i+j]? =s[p+j]? :=by
 intro j hj;have e:=congrArg (fun l:Str=>l[j]?) h;simp only[Ev,iL,iP]at e;rw[if_pos hj,if_pos hj]at e;exact e.symm
theorem Q2{s:Str}{n p:Nat}{k:Str}(h:p∈CP s n k):p<n/\n<=p+255/\p+4<=s.length/\Ev s p=k:=by
 simp only[CP,List.mem_filter,List.mem_range'_1,gX,decide_eq_true_eq]at h;exact⟨by omega,by omega,h.2.1,h.2.2⟩
theorem Sf(s:Str)(i:Nat)(hi:i+4<=s.length):∀(l:List Nat)(b:Nat×Nat),(∀p∈l,p∈CP s i (Ev s i))->(b.2=0\/OkMt s i b.1 b.2)->(GQ s i (Lx s i) l b).2=0\/OkMt s i (GQ s i (Lx s i) l b).1 (GQ s i (Lx s i) l b).2
 | [],_,_,hb=>hb
 | p::r,b,hl,hb=>by
  unfold GQ;split
  ·refine Sf s i hi r _ (fun q hq=>hl q (gW _ hq)) ?_;split
   ·rename_i h1 h2;obtain⟨a1,a2,a3,a4⟩:=Q2 (hl p (g7 ..));have hlim:4<=Lx s i/\Lx s i<=67/\Lx s i<=s.length-i:=by unfold Lx;omega
    obtain⟨e1,e2,e3⟩:=TR s i p (Lx s i) (Lx s i) 4 hlim.1 (grp_eq a4);exact .inr ⟨e1,by omega,by omega,by simp only;omega,by simp only;omega,by simp only;omega,fun j hj=>by simp only;rw[show i-(i-p)+j=p+j by omega];exact e3 j hj⟩
   exact hb
  exact hb
theorem LX(s:Str)(i:Nat):(Cy s i).2=0\/OkMt s i (Cy s i).1 (Cy s i).2:=by
 unfold Cy;split
 ·rename_i h;exact Sf s i h _ _ (fun p hp=>List.mem_reverse.1 hp) (.inl rfl)
 exact .inl rfl
theorem Y8(s:Str):∀(f i st:Nat)(out:Str),i<=s.length->st<=i->s.length<=i+f->(∀g b x,HG g b (s.take st)=some x->∃g',HG g' (out++b) []=some x)->∃g',HG g' (IK s f i st out) []=some s:=by
 have fin:∀(st:Nat)(out:Str),st<=s.length->(∀g b x,HG g b (s.take st)=some x->∃g',HG g' (out++b) []=some x)->∃g',HG g' (out++IG (s.drop st)) []=some s:=by
  intro st out hst ho;refine ho (1+(s.drop st).length) _ s ?_;have:=Lr (s.drop st).length (s.drop st) (g8 _) 1 [] (s.take st) s (by rw[List.take_append_drop];rfl);rwa[iU]at this
 intro f;induction f with
 | zero =>
  intro i st out hi hst hf ho;exact fin st out (by omega) ho
 | succ f ih =>
  intro i st out hi hst hf ho;unfold IK;split
  ·rename_i hlt;split
   ·exact ih (i+1) st out (by omega) (by omega) (by omega) ho
   rename_i hz;rcases LX s i with h|h
   ·exact absurd h hz
   generalize (Cy s i).2=l at *;generalize (Cy s i).1=d at *;refine ih (i+l) (i+l) _ (by have:=h.il;omega) (g8 _) (by have:=h.l4;omega) ?_;intro g b x hx;have h1:=h.l4;have h2:=h.l67;have h3:=h.il;have h4:=h.d1;have h5:=h.d255;have h6:=h.di;have hc:(UInt8.ofNat (124+l)).toNat=124+l:=HF (by omega);have hd:(UInt8.ofNat d).toNat=d:=HF (by omega);have hcp:=MU s i d h4 h6 l 0 (by omega) (fun j hj=>h.eq j (by omega));simp only[Nat.add_zero]at hcp;have e1:HG (g+1) ([UInt8.ofNat (124+l),UInt8.ofNat d]++b) (s.take i)=some x:=by
    show HG (g+1) (UInt8.ofNat (124+l)::UInt8.ofNat d::b) (s.take i)=some x;rw[HH,if_neg (by rw[hc];omega),if_pos (by rw[hc];omega)];simp only[hd,hc];rw[if_neg (by rw[iD];omega),show 124+l-124=l by omega,hcp];exact hx
   have e2:=Lr ((s.take i).drop st).length ((s.take i).drop st) (g8 _) (g+1) ([UInt8.ofNat (124+l),UInt8.ofNat d]++b) (s.take st) x (by
    have e:s.take st++(s.take i).drop st=s.take i:=by
     rw[show s.take st=(s.take i).take st by rw[List.take_take];congr 1;omega,List.take_append_drop]
    rw[e];exact e1)
   obtain⟨g',hg'⟩:=ho _ _ _ e2;refine⟨g',?_⟩;rw[<- hg'];simp only[IG,iH]
  exact fin st out (by omega) ho
theorem V6(s:Str):∃g,HG g (GV s) []=some s :=
 Y8 s s.length 0 0 [] (Nat.zero_le _) (g8 _) (by omega) (fun g b x h=>⟨g,by simpa using h⟩)
theorem VL(s:Str)(n:Nat)(k:Str):CP s (n+1) k =
  if 255<=n/\n-255+4<=s.length/\Ev s (n-255)=k then(if n+4<=s.length/\Ev s n=k then CP s n k++[n]else CP s n k).tail
  else if n+4<=s.length/\Ev s n=k then CP s n k++[n]else CP s n k:=by
 have hq:∀p,(decide (p+4<=s.length)&&decide (Ev s p=k))=decide (p+4<=s.length/\Ev s p=k):=fun p=>by simp
 simp only[CP,hq];have hsn:(if n+4<=s.length/\Ev s n=k then(List.range' (n-255) (n-(n-255))).filter (fun p=>decide (p+4<=s.length/\Ev s p=k))++[n]else(List.range' (n-255) (n-(n-255))).filter (fun p=>decide (p+4<=s.length/\Ev s p=k)))
   = (List.range' (n-255) (n-(n-255)+1)).filter (fun p=>decide (p+4<=s.length/\Ev s p=k)):=by
  rw[List.range'_concat,List.filter_append,show n-255+1*(n-(n-255))=n by omega];split
  ·rename_i h;simp[h]
  rename_i h;simp only[List.filter_cons,List.filter_nil,h,decide_false,iR,if_false,iU]
 rw[hsn];by_cases h:255<=n
 ·rw[show n+1-255=n-255+1 by omega,show n+1-(n-255+1)=n-(n-255) by omega,List.range'_succ (s:=n-255),List.filter_cons];by_cases h2:n-255+4<=s.length/\Ev s (n-255)=k
  ·rw[if_pos ⟨h,h2⟩,if_pos (by simpa using h2),List.tail_cons]
  rw[if_neg (fun z=>h2 z.2),if_neg (by simpa using h2)]
 rw[if_neg (fun z=>h z.1),show n+1-255=n-255 by omega,show n+1-(n-255)=n-(n-255)+1 by omega]
theorem Ff{t:Str}{i:Nat}(h:i<t.length):∃b,t[i]? =some b/\t.drop i=b::t.drop (i+1):=⟨t[i],gR h,List.drop_eq_getElem_cons h⟩
end Go.Proofs.YtjkmhmepljamoaaGreat
end
