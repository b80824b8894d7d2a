/- A part of the proof of ReplicaHalts. -/
import Derived.Test.YthjpcmecgjfilaaGreatH03
import Derived.Lib.BitFns
import Derived.Shelf.Strings.Builder1
set_option linter.unusedSimpArgs false
set_option linter.unusedVariables false
set_option maxHeartbeats 16000000
set_option maxRecDepth 100000
section
namespace Go.Proofs.YthjpcmecgjfilaaGreat
open Go.Ab Go.RowKit Tryz
abbrev Str:=List UInt8
structure CpuD where
 x:Nat->Int
 pc:Int
 csr:Nat->Int
structure DskD where
 blocks:Int
 block:Int
 frame:Int
 state:Int
 cmd:Int
 opBlock:Int
 opFrame:Int
 opData:Str
structure NicD where
 frame:Int
 len:Int
 posted:Bool
 buffer:Int
 received:Bool
 got:Int
structure TimD where
 armed:Bool
 dl:Int
 fired:Bool
structure MchD where
 cpu:CpuD
 mem:List Int
 keys:Str
 tim:TimD
 dk:DskD
 nc:NicD
 tgt:Int
 given:Int
 count:Int
 waiting:Bool
 halted:Bool
abbrev uv (n:Int):V:=.int .u32 n
abbrev lv (n:Int):V:=.int .u64 n
abbrev iv (n:Int):V:=.int .i64 n
abbrev memV (l:List Int):V:=.sl 1 false (ints .u32 l)
abbrev CpuD.row (c:CpuD):List V:=[uv (c.x 0),uv (c.x 1),uv (c.x 2),uv (c.x 3),uv (c.x 4),uv (c.x 5),uv (c.x 6),uv (c.x 7),uv (c.x 8),uv (c.x 9),uv (c.x 10),uv (c.x 11),uv (c.x 12),uv (c.x 13),uv (c.x 14),uv (c.x 15),uv c.pc,uv (c.csr 0),uv (c.csr 1),uv (c.csr 2),uv (c.csr 3),uv (c.csr 4),uv (c.csr 5),uv (c.csr 6),uv (c.csr 7)]
abbrev DskD.row (d:DskD):List V:=[uv d.blocks,uv d.block,uv d.frame,iv d.state,iv d.cmd,uv d.opBlock,uv d.opFrame,.str d.opData]
abbrev NicD.row (n:NicD):List V:=[uv n.frame,uv n.len,.bool n.posted,uv n.buffer,.bool n.received,uv n.got]
abbrev TimD.row (t:TimD):List V:=[.bool t.armed,uv t.dl,.bool t.fired]
abbrev MchD.row (m:MchD):List V:=m.cpu.row++memV m.mem::.str m.keys::(m.tim.row++(m.dk.row++(m.nc.row++[uv m.tgt,uv m.given,lv m.count,.bool m.waiting,.bool m.halted])))
def pagesD (mem:List Int):Int:=if (mem.length:Int).tmod 32=0/\(mem.length:Int)<=1024 then IntKind.i64.wrap (mem.length / 32) else 0
def timMay (t:TimD):Bool:=if t.armed then !t.fired&&t.dl != 0 else if t.fired then true else t.dl==0
def zGT (d:DskD):Bool:=if d.cmd=1 then d.opData==[] else if d.cmd=2 then d.opData.length==128 else false
def dskMay (d:DskD) (pages:Int):Bool :=
 if d.blocks > 64 then false
 else if d.state=0\/d.state=2\/d.state=3 then d.cmd==0&&d.opBlock==0&&d.opFrame==0&&d.opData==[]
 else if d.state=1 then zGT d&&decide (d.opBlock<d.blocks)&&decide (IntKind.i64.wrap d.opFrame<pages)
 else false
def nicMay (n:NicD) (pages:Int):Bool :=
 if n.posted&&n.received then false
 else if n.posted&&decide (pages<=IntKind.i64.wrap n.buffer) then false
 else if !n.posted&&n.buffer != 0 then false
 else if n.received then decide (n.got >= 1)&&decide (n.got<=128) else n.got==0
def bitLen (x:Int):Nat:=Lib.bitLen x.toNat
def balMay (given pages:Int):Bool:=decide ((bitLen given:Int)<=max pages 0)
def mayD (m:MchD):Bool :=
 (pagesD m.mem != 0)&&(m.cpu.x 0==0)&&decide (m.cpu.csr 0<=31)&&decide (m.cpu.csr 7<=31)&&decide (m.cpu.csr 6<=255)&&(m.cpu.csr 1 % 4==0) &&
  decide (m.count<=1152921504606846976)&&!(m.waiting&&m.halted) &&
  (decide ((m.keys.length:Int)<=16)&&timMay m.tim&&dskMay m.dk (pagesD m.mem)&&nicMay m.nc (pagesD m.mem)&&balMay m.given (pagesD m.mem))
structure EvD where
 kind:Int
 n:Int
 data:Str
structure EntD where
 at_:Int
 ev:EvD
structure OutD where
 kind:Int
 at_:Int
 block:Int
 data:Str
structure SegD where
 from_:Int
 known:Int
 ents:List EntD
structure RecD where
 m:MchD
 clock:Int
 log:List EntD
 queue:List EvD
structure RplD where
 m:MchD
 log:List EntD
 known:Int
 clock:Int
structure GateD where
 held:List OutD
 acked:Int
 bytes:Int
structure SndD where
 base:Int
 tail:Int
 known:Int
 queue:List SegD
structure RcvD where
 next:Int
 known:Int
 early:List (Int × SegD)
structure DetD where
 limit:Int
 silent:Int
 seen:Int
structure RepD where
 host:Int
 role:Int
 gen:Int
 rec_:RecD
 rpl:RplD
 gate:GateD
 mark:Int
 out:SndD
 inn:RcvD
 watch:DetD
 beats:Int
 cmd:Int
 cmdAt:Int
 hist:List EntD
abbrev EvD.row (e:EvD):List V:=[iv e.kind,uv e.n,.str e.data]
abbrev EntD.row (e:EntD):List V:=[lv e.at_,iv e.ev.kind,uv e.ev.n,.str e.ev.data]
abbrev OutD.row (o:OutD):List V:=[iv o.kind,lv o.at_,uv o.block,.str o.data]
def ents (l:List EntD):List (List V):=l.map EntD.row
def evs (l:List EvD):List (List V):=l.map EvD.row
def outs (l:List OutD):List (List V):=l.map OutD.row
abbrev zBZ (l:List EntD):V:=.sl 4 false (ents l)
abbrev SegD.row (g:SegD):List V:=[lv g.from_,lv g.known,zBZ g.ents]
def segs (l:List SegD):List (List V):=l.map SegD.row
def zGX (l:List (Int × SegD)):List (List V):=l.map fun e=>[lv e.1,lv e.2.from_,lv e.2.known,zBZ e.2.ents]
abbrev RecD.row (r:RecD):List V:=r.m.row++[uv r.clock,zBZ r.log,.sl 3 false (evs r.queue)]
abbrev RplD.row (r:RplD):List V:=r.m.row++[zBZ r.log,lv r.known,uv r.clock]
abbrev GateD.row (g:GateD):List V:=[.sl 4 false (outs g.held),lv g.acked,lv g.bytes]
abbrev SndD.row (s:SndD):List V:=[lv s.base,lv s.tail,lv s.known,.sl 3 false (segs s.queue)]
abbrev RcvD.row (r:RcvD):List V:=[lv r.next,lv r.known,.sl 4 false (zGX r.early)]
abbrev DetD.row (d:DetD):List V:=[iv d.limit,iv d.silent,lv d.seen]
abbrev RepD.row (r:RepD):List V:=[iv r.host,iv r.role,lv r.gen]++(r.rec_.row++(r.rpl.row++(r.gate.row++([lv r.mark]++(r.out.row++(r.inn.row++(r.watch.row++[lv r.beats,iv r.cmd,lv r.cmdAt,zBZ r.hist])))))))
def zCpu:CpuD:=⟨fun _=>0,0,fun _=>0⟩
def zDsk:DskD:=⟨0,0,0,0,0,0,0,[]⟩
def zNic:NicD:=⟨0,0,false,0,false,0⟩
def zTim:TimD:=⟨false,0,false⟩
def zMch:MchD:=⟨zCpu,[],[],zTim,zDsk,zNic,0,0,0,false,false⟩
def zRec:RecD:=⟨zMch,0,[],[]⟩
def zRpl:RplD:=⟨zMch,[],0,0⟩
def zGate:GateD:=⟨[],0,0⟩
def zSnd:SndD:=⟨0,0,0,[]⟩
def zRcv:RcvD:=⟨0,0,[]⟩
def zDet:DetD:=⟨0,0,0⟩
def zRep:RepD:=⟨0,0,0,zRec,zRpl,zGate,0,zSnd,zRcv,zDet,0,0,0,[]⟩
attribute [simp] zRep zRec zRpl zMch zCpu zDsk zNic zTim zGate zSnd zRcv zDet
@[simp] theorem nil_ents:ents []=[]:=rfl
@[simp] theorem nil_evs:evs []=[]:=rfl
@[simp] theorem zRw:outs []=[]:=rfl
@[simp] theorem nil_segs:segs []=[]:=rfl
@[simp] theorem nil_earls:zGX []=[]:=rfl
@[simp] theorem nil_ints (k:IntKind):ints k []=[]:=rfl
def zHV (limit:Int):Bool:=decide (1<=limit)&&decide (limit<=20)
def zEJ (host:Int) (m:MchD) (gen limit:Int):RepD:={zRep with host:=host,gen:=gen,gate:=⟨[],m.count,0⟩,mark:=m.count,watch:=⟨limit,0,0⟩}
def zBL (host:Int) (m:MchD) (gen limit:Int):Bool:=zHV limit&&(decide (host=0)||decide (host=1))&&!decide (gen=0)&&mayD m&&!decide (m.dk.state=1)
def zCy (host:Int) (m:MchD) (gen limit:Int):RepD:={zEJ host m gen limit with role:=1,rec_:=⟨m,0,[],[]⟩,out:=⟨1,m.count,m.count,[]⟩}
def zEF (host:Int) (m:MchD) (gen limit:Int):RepD:={zEJ host m gen limit with role:=2,rpl:=⟨m,[],m.count,0⟩,inn:=⟨1,m.count,[]⟩}
theorem zCH (xs:List (List V)) (t:Bool) (z:Nat) (hz:z=1\/(z=0/\xs=[])) (hb:xs.length<=100000):zAD prog 91 [.sl z t xs] (.new 25 1 xs):=by
 refine sX func91 ntmps91 ?_;intros;apply wr;refine ⟨?_,fun hx=>?_⟩
 ·refine au ?_;intros;apply wr;refine cF0 rfl ?_;refine aum1 @maxLen.eq_1 ?_;intros;apply wr;refine zAB ?_;simp
 subst hx;refine au ?_;intros;apply wr;refine gT00 rfl ?_;intros;apply wr;refine zAT 2 25 1 (by decide) rfl ?_
 refine zAB ?_;simp
theorem zAN (k:IntKind) (l:List Int):(ints k l).length=l.length:=by simp [ints]
theorem zBo (l:List Int):zAD prog 157 [memV l] (iv (pagesD l)):=by
 refine sZ func157 ntmps157 ?_;exact wx1 trivial trivial (kX2 @zAN @pagesD.eq_1)
theorem zOS (s:Str):zAD prog 199 [.st [.str s]] (.bool (decide ((s.length:Int)<=16))):=by
 refine sZ func199 ntmps199 ?_;exact wx trivial trivial
theorem zQS (t:TimD):zAD prog 200 [.st t.row] (.bool (timMay t)):=by
 refine sZ func200 ntmps200 ?_;exact wx1 trivial trivial @timMay.eq_1
theorem zOQ (d:DskD):zAD prog 259 [.st d.row] (.bool (zGT d)):=by
 refine sZ func259 ntmps259 ?_;exact wx1 trivial trivial @zGT.eq_1
theorem zOX (d:DskD) (p:Int):zAD prog 201 [.st d.row,iv p] (.bool (dskMay d p)):=by
 refine sZ func201 ntmps201 ?_;exact wx1 (qX1 (zOQ _)) trivial @dskMay.eq_1
theorem zPV (n:NicD) (p:Int):zAD prog 202 [.st n.row,iv p] (.bool (nicMay n p)):=by
 refine sZ func202 ntmps202 ?_;exact wx1 trivial trivial @nicMay.eq_1
theorem u8a (x:Int):0<=IntKind.u8.wrap x:=by rw [IntKind.wrap_u8];omega
theorem u8b (x:Int):IntKind.u8.wrap x<256:=by rw [IntKind.wrap_u8];omega
theorem lit8f:∀ k:Fin 256,(([0,1,2,2,3,3,3,3,4,4,4,4,4,4,4,4,5,5,5,5,5,5,5,5,5,5,5,5,5,5,5,5,6,6,6,6,6,6,6,6,6,6,6,6,6,6,6,6,6,6,6,6,6,6,6,6,6,6,6,6,6,6,6,6,7,7,7,7,7,7,7,7,7,7,7,7,7,7,7,7,7,7,7,7,7,7,7,7,7,7,7,7,7,7,7,7,7,7,7,7,7,7,7,7,7,7,7,7,7,7,7,7,7,7,7,7,7,7,7,7,7,7,7,7,7,7,7,7,8,8,8,8,8,8,8,8,8,8,8,8,8,8,8,8,8,8,8,8,8,8,8,8,8,8,8,8,8,8,8,8,8,8,8,8,8,8,8,8,8,8,8,8,8,8,8,8,8,8,8,8,8,8,8,8,8,8,8,8,8,8,8,8,8,8,8,8,8,8,8,8,8,8,8,8,8,8,8,8,8,8,8,8,8,8,8,8,8,8,8,8,8,8,8,8,8,8,8,8,8,8,8,8,8,8,8,8,8,8,8,8,8,8,8,8,8,8,8,8,8,8,8,8,8,8,8,8]:List UInt8)[k.val]?.getD 0).toNat=Lib.bitLen k.val:=by decide +kernel
theorem lit8 (x:Int):(([0,1,2,2,3,3,3,3,4,4,4,4,4,4,4,4,5,5,5,5,5,5,5,5,5,5,5,5,5,5,5,5,6,6,6,6,6,6,6,6,6,6,6,6,6,6,6,6,6,6,6,6,6,6,6,6,6,6,6,6,6,6,6,6,7,7,7,7,7,7,7,7,7,7,7,7,7,7,7,7,7,7,7,7,7,7,7,7,7,7,7,7,7,7,7,7,7,7,7,7,7,7,7,7,7,7,7,7,7,7,7,7,7,7,7,7,7,7,7,7,7,7,7,7,7,7,7,7,8,8,8,8,8,8,8,8,8,8,8,8,8,8,8,8,8,8,8,8,8,8,8,8,8,8,8,8,8,8,8,8,8,8,8,8,8,8,8,8,8,8,8,8,8,8,8,8,8,8,8,8,8,8,8,8,8,8,8,8,8,8,8,8,8,8,8,8,8,8,8,8,8,8,8,8,8,8,8,8,8,8,8,8,8,8,8,8,8,8,8,8,8,8,8,8,8,8,8,8,8,8,8,8,8,8,8,8,8,8,8,8,8,8,8,8,8,8,8,8,8,8,8,8,8,8,8,8]:List UInt8)[(IntKind.u8.wrap x).toNat]?.getD 0).toNat=Lib.bitLen (IntKind.u8.wrap x).toNat:=lit8f ⟨(IntKind.u8.wrap x).toNat,by have:=u8a x;have:=u8b x;omega⟩
theorem lit8g (x:Int) (h:(IntKind.u8.wrap x).toNat<([0,1,2,2,3,3,3,3,4,4,4,4,4,4,4,4,5,5,5,5,5,5,5,5,5,5,5,5,5,5,5,5,6,6,6,6,6,6,6,6,6,6,6,6,6,6,6,6,6,6,6,6,6,6,6,6,6,6,6,6,6,6,6,6,7,7,7,7,7,7,7,7,7,7,7,7,7,7,7,7,7,7,7,7,7,7,7,7,7,7,7,7,7,7,7,7,7,7,7,7,7,7,7,7,7,7,7,7,7,7,7,7,7,7,7,7,7,7,7,7,7,7,7,7,7,7,7,7,8,8,8,8,8,8,8,8,8,8,8,8,8,8,8,8,8,8,8,8,8,8,8,8,8,8,8,8,8,8,8,8,8,8,8,8,8,8,8,8,8,8,8,8,8,8,8,8,8,8,8,8,8,8,8,8,8,8,8,8,8,8,8,8,8,8,8,8,8,8,8,8,8,8,8,8,8,8,8,8,8,8,8,8,8,8,8,8,8,8,8,8,8,8,8,8,8,8,8,8,8,8,8,8,8,8,8,8,8,8,8,8,8,8,8,8,8,8,8,8,8,8,8,8,8,8,8,8]:List UInt8).length):(([0,1,2,2,3,3,3,3,4,4,4,4,4,4,4,4,5,5,5,5,5,5,5,5,5,5,5,5,5,5,5,5,6,6,6,6,6,6,6,6,6,6,6,6,6,6,6,6,6,6,6,6,6,6,6,6,6,6,6,6,6,6,6,6,7,7,7,7,7,7,7,7,7,7,7,7,7,7,7,7,7,7,7,7,7,7,7,7,7,7,7,7,7,7,7,7,7,7,7,7,7,7,7,7,7,7,7,7,7,7,7,7,7,7,7,7,7,7,7,7,7,7,7,7,7,7,7,7,8,8,8,8,8,8,8,8,8,8,8,8,8,8,8,8,8,8,8,8,8,8,8,8,8,8,8,8,8,8,8,8,8,8,8,8,8,8,8,8,8,8,8,8,8,8,8,8,8,8,8,8,8,8,8,8,8,8,8,8,8,8,8,8,8,8,8,8,8,8,8,8,8,8,8,8,8,8,8,8,8,8,8,8,8,8,8,8,8,8,8,8,8,8,8,8,8,8,8,8,8,8,8,8,8,8,8,8,8,8,8,8,8,8,8,8,8,8,8,8,8,8,8,8,8,8,8,8]:List UInt8)[(IntKind.u8.wrap x).toNat]'h).toNat=Lib.bitLen (IntKind.u8.wrap x).toNat:=by
 rw [<- lit8 x,zV3 h];rfl
theorem fd16 (x:Int):x.fdiv (2 ^ min 16 IntKind.u32.bits)=x / 65536:=by rw [zWC _ (by decide)];rfl
theorem fd8 (x:Int):x.fdiv (2 ^ min 8 IntKind.u32.bits)=x / 256:=by rw [zWC _ (by decide)];rfl
theorem bl_w (x:Int) (k:Nat) (hk:k<=24) (h0:0<=x) (h1:x<256):IntKind.i64.wrap ((k:Int)+IntKind.i64.wrap (Lib.bitLen (IntKind.u8.wrap x).toNat))=k+Lib.bitLen x.toNat:=by
 have hw:IntKind.u8.wrap x=x:=by rw [IntKind.wrap_u8];omega
 rw [hw];have:=Lib.bitLen_le x.toNat 8 (by omega) (by omega)
 rw [zAA (n:=(Lib.bitLen x.toNat:Int)) (by omega) (by omega),zAA (by omega) (by omega)]
theorem zDi:IntKind.i64.wrap 16=16:=by decide
theorem zDj:IntKind.i64.wrap 24=24:=by decide
theorem zGh:IntKind.i64.wrap 8=8:=by decide
theorem zOF (x:Int) (h0:0<=x) (h1:x<=4294967295):zAD prog 260 [uv x] (iv (bitLen x)):=by
 refine sX func260 ntmps260 ?_;(repeat intro K hK);apply wr
 repeat' (first|(with_reducible first|refine zAw fun K hK=>?_|refine zAl ?_)|((with_reducible first|refine zAe (by kernel_rfl) ?_|refine zA1 ?_|refine zAy ?_|refine zA0 ?_|refine zAz ?_|refine zAx ?_|refine zAv ?_);simp [u8a,u8b,lit8,fd16,fd8,zDi,zDj,zGh])|((repeat ((fail_if_success ((with_reducible refine hK _ ?_)));clear hK));(with_reducible refine hK _ ?_);clear hK)|refine And.intro (by first|omega|assumption|grind) ?_|(refine zAC rfl (fun h=>?_) (fun h=>?_)<;>(first|(simp [u8a,u8b,lit8,fd16,fd8,zDi,zDj,zGh] at h;done)|(simp [u8a,u8b,lit8,fd16,fd8,zDi,zDj,zGh] at h)|skip)<;>(first|(exfalso;omega)|skip))|(refine zAB ?_;simp [u8a,u8b,lit8,fd16,fd8,zDi,zDj,zGh];(first|done|(simp_all [u8a,u8b,lit8,fd16,fd8,zDi,zDj,zGh];done)|(simp_all [u8a,u8b,lit8,fd16,fd8,zDi,zDj,zGh];omega)|grind);done)|(refine zAI ?_;refine zAB ?_;simp [u8a,u8b,lit8,fd16,fd8,zDi,zDj,zGh];(first|done|(simp_all [u8a,u8b,lit8,fd16,fd8,zDi,zDj,zGh];done)|(simp_all [u8a,u8b,lit8,fd16,fd8,zDi,zDj,zGh];omega)|grind);done)|(refine zAB ?_;simp [u8a,u8b,lit8,fd16,fd8,zDi,zDj,zGh];done)|(refine zAI ?_;refine zAB ?_;simp [u8a,u8b,lit8,fd16,fd8,zDi,zDj,zGh];done))
 all_goals refine zAB ?_
 all_goals simp [lit8g]
 ·skip
  have e:=bl_w (x / 65536 / 256) 24 (by omega) (by omega) (by omega)
  simp at e;rw [e];have e2:=Lib.bitLen_shift24 x.toNat (by omega) (by omega)
  unfold bitLen;rw [e2,show (x / 65536 / 256).toNat=x.toNat / 16777216 by omega]
  simp
 ·skip
  have e:=bl_w (x / 65536) 16 (by omega) (by omega) (by omega)
  simp at e;rw [e];have e2:=Lib.bitLen_shift16 x.toNat (by omega) (by omega)
  unfold bitLen;rw [e2,show (x / 65536).toNat=x.toNat / 65536 by omega]
  simp
 ·skip
  have e:=bl_w (x / 256) 8 (by omega) (by omega) (by omega)
  simp at e;rw [e];have e2:=Lib.bitLen_shift8 x.toNat (by omega) (by omega)
  unfold bitLen;rw [e2,show (x / 256).toNat=x.toNat / 256 by omega]
  simp
 skip
 have e:=bl_w x 0 (by omega) (by omega) (by omega)
 simp at e;rw [e];rfl
theorem zN8 (a g p:Int) (h0:0<=g) (h1:g<=4294967295):zAD prog 203 [.st [uv a,uv g],iv p] (.bool (balMay g p)):=by
 refine sZ func203 ntmps203 ?_;exact wx1 (qX1 (zOF _ h0 h1)) trivial @balMay.eq_1
theorem zPO (m:MchD) (h0:0<=m.given) (h1:m.given<=4294967295):zAD prog 158 [.st m.row] (.bool (decide ((m.keys.length:Int)<=16)&&timMay m.tim&&dskMay m.dk (pagesD m.mem)&&nicMay m.nc (pagesD m.mem)&&balMay m.given (pagesD m.mem))):=by
 refine sZ func158 ntmps158 ?_;exact wx (qX6 (zBo m.mem) (zOS m.keys) (zQS m.tim) (zOX m.dk (pagesD m.mem)) (zPV m.nc (pagesD m.mem)) (zN8 m.tgt m.given (pagesD m.mem) h0 h1)) trivial
theorem zH7 (m:MchD) (h0:0<=m.given) (h1:m.given<=4294967295):zAD prog 112 [.st m.row] (.bool (mayD m)):=by
 refine sZ func112 ntmps112 ?_;exact wx1 (qX2 (zBo m.mem) (zPO m h0 h1)) trivial @mayD.eq_1
theorem zOM:prog.cellsOf 370=2:=by kernel_rfl
theorem lies90 (count:Nat) (h:1<=count):liesAt prog prog.depth 370 count 0 370 1=true:=by
 have hc:=zOM;have hd:prog.depth=(2*(prog.types.size+Made.depth)+1)+1:=rfl;rw [hd];simp only [liesAt,Bool.or_eq_true];left;rw [hd];simp [rowAt,hc,h,sameLayout]
theorem zTI:∃ j,prog.info? 370=some j/\j.size=2:=by
 have h:(prog.info? 370).map (·.size)=some 2:=by kernel_rfl
 exact Option.map_eq_some_iff.1 h
set_option maxHeartbeats 2000000 in
theorem zT5 (b:Nat) (w:World) (h0:w.cell? ⟨b,0,none⟩=some (.pointer (some ⟨b,0,none⟩))) :
  Calls prog 313 #[.pointer (some ⟨b,0,none⟩)] w fun e w'=>e=.returned (.tuple #[])/\w'=w:=by
 obtain ⟨j,hj,_⟩:=zTI
 go_enter func313,ntmps313
 go_wp2
 rw [Lib.run_neq_ptr_same w _ Tryz.underlying368 hj]
 go_wp2
 go_end0
 exact ⟨rfl,rfl⟩
set_option maxHeartbeats 2000000 in
theorem zQ9 (b count:Nat) (w:World) (h0:w.cell? ⟨b,0,none⟩=some (.pointer none)) (hsh:w.shape? b=some (370,count*2)) (hct:1<=count) (hfz:w.frozen? ⟨b,0,none⟩=false) :
  Calls prog 313 #[.pointer (some ⟨b,0,none⟩)] w fun e w'=>e=.returned (.tuple #[])/\w'=w.setCell ⟨b,0,none⟩ (.pointer (some ⟨b,0,none⟩)):=by
 obtain ⟨j,hj,hjs⟩:=zTI;have hlies:liesAt prog prog.depth 370 (count*2 / prog.cellsOf 370) 0 370 1=true:=by
  rw [zOM,Nat.mul_div_cancel _ (by decide)];exact lies90 count hct
 go_enter func313,ntmps313
 go_wp2
 rw [Lib.run_to_unsafe w ⟨b,0,none⟩ Tryz.underlying368 Tryz.underlying427 hj (by rw [hjs];decide) hsh (show 0<count*2 by omega)]
 simp only [Result.andThen];rw [Oper.upon_value]
 go_wp2
 rw [run_callFunc_extern func333 (by kernel_rfl) (by kernel_rfl) (by kernel_rfl) (e:=Extern.AbiNoEscape.same) (by kernel_rfl)]
 rw [Lib.run_noEscape];simp only [Result.andThen];rw [Oper.upon_value]
 go_wp2
 rw [Lib.run_from_unsafe w ⟨b,0,none⟩ Tryz.underlying427 Tryz.underlying368 hj hsh hlies];simp only [Result.andThen];rw [Oper.upon_value]
 go_wp2
 go_end0
 exact ⟨rfl,rfl⟩
set_option maxHeartbeats 2000000 in
theorem zI6 (b:Nat) (A:Option Addr) (n c:Nat) (q:Value) (s:ByteArray) (w w1 w2:World) (c1:w.drew.cell? ⟨b,1,none⟩=some (.slice A n c)) (hSD:(Builtin.unsafeSliceData_ #[159] 415 #[.slice A n c]).run prog w.drew=.ok q w1)
  (c2:w1.cell? ⟨b,1,none⟩=some (.slice A n c)) (hUS:(Builtin.unsafeString_ #[415,3] 9 #[q,.int .i64 n]).run prog w1=.ok (.string s) w2) :
  Calls prog 255 #[.pointer (some ⟨b,0,none⟩)] w fun e w'=>e=.returned (.string s)/\w'=w2:=by
 go_enter func255,ntmps255
 go_wp2
 go_region
 all_goals (go_wp2;go_ret;exact ⟨rfl,rfl⟩)
theorem vals1 {a:Value} {vals:Array Value} (hs:vals.size=1) (h0:vals.getD 0 undef=a):vals=#[a]:=by
 apply Array.ext
 ·simpa using hs
 intro i hi hi'
 have:i=0:=by simp at hi';omega
 subst this;simpa [Array.getD,hi] using h0
abbrev bldO (c0 c1:V):Ob:=⟨370,2,true,false,[[c0,c1]]⟩
abbrev bufO (s:Str):Ob:=⟨5,1,false,false,zAL s⟩
theorem zJR [Glo] {base:Nat} {Xa:Nat->Prop} {w0:W0} {st:St} {a:Act} {w:World} {M:Mp} (hR:RelM base Xa w0 st a w M) {id:Nat} {c0 c1:V} (hob:lookO st.ob id=some (bldO c0 c1)) {g:Nat} (hg:(M id).ownBlock=some g) :
  ∃ cap cur,1<=cap/\w.rowAt g cur 370/\cur.size=cap*2/\(∃ v0,w.cell? ⟨g,0,none⟩=some v0/\R M w (Xf base Xa w M st.ob) st.nx c0 v0)/\∃ v1,w.cell? ⟨g,1,none⟩=some v1/\R M w (Xf base Xa w M st.ob) st.nx c1 v1:=by
 obtain ⟨_,hok⟩:=hR.obs id _ hob;obtain ⟨vs,hrow,hone,hrr⟩:=hok.row;simp only [if_true] at hrr;have hvl:vs.length=2:=by have:=hrow.1;simpa using this
 rcases hrow.sl (zHB hg) with ⟨hn,_⟩|⟨g',O,cap,cur,hM,hbg,hgr,hnc,hcm,hcs,htk⟩
 ·rw [hn] at hg;cases hg
 have hO:O=0:=by have:=hok.off (.inl rfl);rw [hM] at this;exact this
 subst hO;rw [zWV] at hcs;rw [hM] at hg;simp only [Value.ownBlock,zV2] at hg;subst hg;have hcell:∀ j u,vs[j]? =some u->w.cell? ⟨g',j,none⟩=some u:=fun j u hu=>by
  have:=hrow.cells (g:=g') (by rw [hM];rfl) j u hu
  rw [hM] at this;have this:w.cell? ((⟨g',0,none⟩:Addr).add j)=some u:=this;have hadd:(⟨g',0,none⟩:Addr).add j=⟨g',j,none⟩:=by unfold Addr.add;split<;>simp_all
  rwa [hadd] at this
 have hat:∀ j,j<2->vs[j]? =some (vs.getD j undef):=fun j hj=>by rw [zV1,zV3 (by omega)];rfl
 exact ⟨cap,cur,by simpa using hnc,hgr,hcs,⟨_,hcell 0 _ (hat 0 (by omega)),hrr 0 c0 rfl⟩,_,hcell 1 _ (hat 1 (by omega)),hrr 1 c1 rfl⟩
theorem zNC {nx:Nat} {ob:List (Nat × Option Ob)} (id:Nat) (c0 c1:V) (hob:lookO ob id=some (bldO c0 c1)) (hc:c0=.nilp\/c0=.ptr id 2 0 0) :
  InlC prog 313 [.ptr id 2 0 0] nx ob fun r nx' ob'=>r=.tup []/\nx'=nx/\ob'=(id,some (bldO (.ptr id 2 0 0) c1))::ob:=by
 refine ⟨by kernel_rfl,fun base Xa w0 w M vals hR hs hr=>?_⟩
 obtain ⟨g,hid,hg,hve⟩:=zHi (hr 0 _ rfl);have hO0:(M id).offB=0:=(hR.obs id _ hob).2.off (.inl rfl);rw [hO0] at hve;obtain rfl:=vals1 hs hve;obtain ⟨cap,cur,hcap,hgr,hcs,⟨v0,hv0,hr0⟩,_⟩:=zJR (id:=id) hR hob hg;rcases hc with rfl|rfl
 ·obtain rfl:v0=.pointer none:=by cases hr0;rfl
  have hfz:=hgr.frozen 0 (by omega)
  have hsh:w.shape? g=some (370,cap*2):=by
   obtain ⟨fz,h1,_⟩:=hgr;simp [World.shape?,h1,hcs]
  refine (zQ9 g cap w hv0 hsh hcap hfz).mono ?_;rintro e w' ⟨rfl,rfl⟩;have hp:R M w (Xf base Xa w M ob) nx (.ptr id 2 0 0) (.pointer (some ⟨g,0,none⟩)):=hve ▸ hr 0 _ rfl
  obtain ⟨w',h1,h2⟩:=hR.store (P:=prog) (id:=id) hob rfl hg (i:=0) (by simp) (ds:=[.ptr id 2 0 0]) (us:=[.pointer (some ⟨g,0,none⟩)]) (off:=0) (by simp) (by
   simp only [if_true];exact .one_ rfl hp)
  have h3:(storeCells ⟨g,0,none⟩ [.pointer (some ⟨g,0,none⟩)] 0).run prog w=.ok () (w.setCell ⟨g,0,none⟩ (.pointer (some ⟨g,0,none⟩))):=by
   have hadd:(⟨g,0,none⟩:Addr).add 0=⟨g,0,none⟩:=by unfold Addr.add;simp
   have hst:=run_store prog w ⟨g,0,none⟩ (.pointer (some ⟨g,0,none⟩)) .plain (by rfl)
   rw [hv0,hfz] at hst;simp only [storeCells,Sem.run_bind,hadd,hst];simp [Result.andThen]
  simp only [Nat.zero_mul,zWV,hO0] at h1;rw [h3] at h1;simp only [Result.ok.injEq,true_and] at h1;subst h1;exact ⟨_,.tup [],nx,_,M,rfl,⟨rfl,rfl,rfl⟩,h2,.tup _ _ _ rfl fun j u hu=>by simp at hu⟩
 obtain ⟨g',_,hg',hve'⟩:=zHi hr0;rw [hO0] at hve';subst hve';obtain rfl:g=g':=by rw [hg] at hg';simpa using hg'
 refine (zT5 g w hv0).mono ?_;rintro e w' ⟨rfl,rfl⟩;refine ⟨_,.tup [],nx,_,M,rfl,⟨rfl,rfl,rfl⟩,hR.sub fun i o ho=>?_,.tup _ _ _ rfl fun j u hu=>by simp at hu⟩
 simp only [lookO] at ho;split at ho
 ·rename_i e;subst e;simp only [zV2] at ho;subst ho;exact ⟨false,hob,fun h=>h⟩
 exact ⟨o.fz,ho,fun h=>h⟩
theorem zKn {nx:Nat} {ob:List (Nat × Option Ob)} (id bid:Nat) (c0:V) (s:Str) (hob:lookO ob id=some (bldO c0 (.own bid))) (hbb:lookO ob bid=some (bufO s)) :
  InlC prog 255 [.ptr id 2 0 0] nx ob fun r _ _=>r=.str s:=by
 refine ⟨by kernel_rfl,fun base Xa w0 w M vals hR hs hr=>?_⟩
 obtain ⟨g,hid,hg,hve⟩:=zHi (hr 0 _ rfl);have hO0:(M id).offB=0:=(hR.obs id _ hob).2.off (.inl rfl);rw [hO0] at hve;obtain rfl:=vals1 hs hve;obtain ⟨cap0,cur0,hcap,hgr0,_,_,v1,hv1,hr1⟩:=zJR (id:=id) hR hob hg;obtain ⟨hbid,hM⟩:=zGP hr1;obtain ⟨A,l,c,rfl⟩:∃ A l c,v1=.slice A l c:=by cases hr1;exact ⟨_,_,_,rfl⟩
 obtain ⟨_,hok⟩:=hR.obs bid _ hbb;obtain ⟨vs,hrow,hone,hrr⟩:=hok.row;simp only [zWK,if_false] at hrr;have hbl:(zAL s).length=s.length:=by simp [zAL]
 simp only [hbl] at hrow;have hfin:∀ (w2:World) (row:Option Nat),w.grownBy w2 row->(∀ k,row=some k->(M bid).ownB=some k)->(Calls prog 255 #[.pointer (some ⟨g,0,none⟩)] w fun e w'=>e=.returned (.string ⟨s.toArray⟩)/\w'=w2) ->
   Calls prog 255 #[.pointer (some ⟨g,0,none⟩)] w fun e w'=>∃ val r nx' ob' M',e=.returned val/\r=.str s/\RelM base Xa w0 ⟨0,[],nx',ob',nx⟩ ⟨#[],[]⟩ w' M'/\R M' w' (Xf base Xa w' M' ob') nx' r val:=by
  intro w2 row hgb hrw hcl
  refine hcl.mono ?_;rintro e w' ⟨rfl,rfl⟩;obtain ⟨M',_,_,hR'⟩:=hR.grow (ob1:=[]) (fun i o ho=>by simp [lookO] at ho) row (fun b hb e=>hb.2 bid _ hbb rfl (hrw b e.symm)) (fun i o ho=>by simp [lookO] at ho) (fun k hk=>(hrow.lt k (hrw k hk)).1) hgb (.slice none 0 0) (fun k hk=>by simp [Value.ownB] at hk) ⟨5,1,false,false,[]⟩ (fun _=>by simp) (by simp) [] (World.ownsG_nil _ _ _ _) (by simp) (fun j u hu=>by simp at hu)
  exact ⟨_,.str s,_,_,M',rfl,rfl,hR',.str _ _⟩
 have hdrew:∀ k,w.drew.cell? k=w.cell? k:=fun k=>rfl
 have gdrew:w.grownBy w.drew none:=⟨rfl,rfl,rfl,zV9 _,fun _ _ _=>rfl⟩
 rw [hM] at hrow;have hO1:=hok.off (.inr rfl);rw [hM] at hO1;rcases hrow.2 with ⟨h,h0⟩|⟨g2,O,cap,cur,h,hbg,hg2,hnc,hcm,hcs,htk⟩|hodd
 ·simp only [Value.slice.injEq] at h;obtain ⟨rfl,rfl,rfl⟩:=h;obtain rfl:s=[]:=zWB h0;exact hfin w.drew none gdrew (fun k hk=>by cases hk) (zI6 g none 0 0 (.pointer none) ⟨#[]⟩ w w.drew w.drew hv1 rfl hv1 (Lib.run_unsafeString_none _ _ _ _ _))
 ·simp only [Value.slice.injEq] at h;obtain ⟨rfl,rfl,rfl⟩:=h;have hO:O=0:=hO1;clear hO1;subst hO;by_cases h0:s=[]
  ·subst h0;by_cases hc0:c=0
   ·subst hc0;have hlt:g<w.heap.size:=hgr0.lt;have hsh:w.drew.shape? g2=some (5,cur.size):=by
     obtain ⟨fz,h1,_⟩:=hg2;have h1':w.drew.heap[g2]? =some (.cells cur 5 fz):=h1;simp [World.shape?,h1']
    have hSD:=Lib.run_unsafeSliceData_zero (P:=prog) w.drew #[159] 415 5 Tryz.underlying415 ⟨g2,0,none⟩ 0 _ hsh;have hv1':(w.drew.alloc (.view ⟨g2,0,none⟩ 5)).cell? ⟨g,1,none⟩=some (.slice (some ⟨g2,0,none⟩) 0 0):=by
     rw [World.cell?_of_block (w:=w.drew) (w':=w.drew.alloc (.view ⟨g2,0,none⟩ 5)) (a:=⟨g,1,none⟩) (Lib.alloc_old w.drew _ g hlt)];exact hv1
    refine hfin (w.drew.alloc (.view ⟨g2,0,none⟩ 5)) none ⟨rfl,rfl,rfl,by simp,fun k hk _=>?_⟩ (fun k hk=>by cases hk) (zI6 g (some ⟨g2,0,none⟩) 0 0 _ ⟨#[]⟩ w _ _ hv1 hSD hv1' (Lib.run_unsafeString_none _ _ _ _ _))
    exact Lib.alloc_old w.drew _ k hk
   exact hfin w.drew none gdrew (fun k hk=>by cases hk) (zI6 g (some ⟨g2,0,none⟩) 0 c (.pointer (some ⟨g2,0,none⟩)) ⟨#[]⟩ w w.drew w.drew hv1 (Lib.run_unsafeSliceData_row _ _ _ _ _ _ hc0) hv1 (Lib.run_unsafeString_none _ _ _ _ _))
  have hl0:s.length≠0:=by simpa using h0
  have hsh:w.drew.shape? g2=some (5,cur.size):=by
   obtain ⟨fz,h1,_⟩:=hg2;have h1':w.drew.heap[g2]? =some (.cells cur 5 fz):=h1;simp [World.shape?,h1']
  have hflat:(zAL s).flatten=s.map fun (c:UInt8)=>V.int .u8 (c.toNat:Int):=by
   unfold zAL;clear hrow hbb hbl hfin h0 hl0 hnc htk hrr hok hv1 hr1 hM hsh;induction s with
   | nil=>rfl
   | cons c s ih=>simp [ih]
  have hUS:=Lib.run_unsafeString_row (P:=prog) w.drew 415 3 9 5 Tryz.underlying415 (by kernel_rfl) g2 cur.size hsh s h0 (by omega) (by simp only [maxLen] at hcm;omega) (fun j x hx=>by
   have h1:=hrr j (.int .u8 x.toNat) (by rw [hflat,zWD,hx];rfl)
   have h2:=zB7 h1;have hvj:vs[j]? =some (.int .u8 x.toNat):=by
    rw [<- h2,zV1];have hjl:j<vs.length:=by
     have:=(List.getElem?_eq_some_iff.1 hx).1;have:=hrow.1;omega
    rw [zV3 hjl];rfl
   have:=hrow.cells (g:=g2) (by rfl) j _ hvj
   exact this)
  refine hfin (w.drew.freeze ⟨g2,0,none⟩ s.length) (some g2) ?_ (fun k hk=>by rw [hM];simpa [Value.ownB] using hk) (zI6 g (some ⟨g2,0,none⟩) s.length c (.pointer (some ⟨g2,0,none⟩)) ⟨s.toArray⟩ w w.drew _ hv1 (Lib.run_unsafeSliceData_row _ _ _ _ _ _ (by omega)) hv1 hUS)
  unfold World.freeze;rw [if_neg hl0];refine ⟨rfl,rfl,rfl,by simp,fun k _ hk=>?_⟩
  have hne:g2≠k:=fun e=>hk (by rw [e])
  simp [Array.getElem?_modify,hne];rfl
 exact hodd.noSl.elim
def WPost (nx:Nat) (ob:List (Nat × Option Ob)) (id bid:Nat) (s:Str) (nx':Nat) (ob':List (Nat × Option Ob)):Prop:=∃ k,nx<=k/\k<nx'/\lookO ob' k=some (bufO s)/\lookO ob' id=some (bldO (.ptr id 2 0 0) (.own k))/\∀ j,j≠id->j≠bid->j<nx->lookO ob' j=lookO ob j
set_option maxHeartbeats 8000000 in
theorem zFc {nx:Nat} {ob:List (Nat × Option Ob)} (id bid:Nat) (c0:V) (s t:Str) (hob:lookO ob id=some (bldO c0 (.own bid))) (hbb:lookO ob bid=some (bufO s)) (hc:c0=.nilp\/c0=.ptr id 2 0 0) (hi:id<nx) (hb:bid<nx) (hne:id≠bid) (hl:s.length+t.length<=1000000) :
  InlC prog 252 [.ptr id 2 0 0,.str t] nx ob fun r nx' ob'=>r=.tup [.int .i64 t.length,.poi]/\WPost nx ob id bid (s++t) nx' ob':=by
 have hbl:(zAL s).length=s.length:=by simp [zAL]
 have hm:s.length+t.length<=maxLen:=by simp only [maxLen];omega
 have hap:zAL s++zAL t=zAL (s++t):=by simp [zAL]
 have n1:¬ bid=id:=fun e=>hne e.symm
 have n2:¬ id=nx:=by omega
 have n3:¬ bid=nx:=by omega
 have n4:¬ nx=id:=by omega
 have n5:¬ nx=bid:=by omega
 refine InlC.of func252 rfl (by kernel_rfl) rfl ?_
 simp only [ntmps252,St.startI,argT];refine au ?_;intros;apply wr
 first|refine .inr ((zNC id c0 (.own bid) hob hc).mono fun r nx' ob' hp=>?_)|refine (zNC id c0 (.own bid) hob hc).mono fun r nx' ob' hp=>?_|refine ((zNC id c0 (.own bid) hob hc).mono fun r nx' ob' hp=>?_).2
 simp only [aftI];obtain ⟨rfl,rfl,rfl⟩:=hp;simp [hne,n1,n2,n3,n4,n5,hob,hbb,hbl,hap];refine au1 (kX10 @hne @n1 @n2 @n3 @n4 @n5 @hob @hbb @hbl @hap) ?_;intros;apply wr;refine zAB ?_;simp;exact ⟨_,zV9 _,Nat.lt_succ_self _,by simp [lookO,n4],by simp [lookO],fun j h1 h2 h3=>by
  have h4:¬ j=nx':=by omega
  simp [lookO,h1,h2,h4]⟩
set_option maxHeartbeats 8000000 in
theorem zJG {nx:Nat} {ob:List (Nat × Option Ob)} (id:Nat) (t:Str) (hob:lookO ob id=some (bldO .nilp (.sl 0 true []))) (hi:id<nx) (hl:t.length<=1000000) :
  InlC prog 252 [.ptr id 2 0 0,.str t] nx ob fun r nx' ob'=>r=.tup [.int .i64 t.length,.poi]/\WPost nx ob id nx t nx' ob':=by
 have hbl:(zAL ([]:Str)).length=0:=by simp [zAL]
 have hm:t.length<=maxLen:=by simp only [maxLen];omega
 have n2:¬ id=nx:=by omega
 have n3:¬ nx=id:=by omega
 have n4:¬ id=nx+1:=by omega
 have n5:¬ nx+1=id:=by omega
 refine InlC.of func252 rfl (by kernel_rfl) rfl ?_
 simp only [ntmps252,St.startI,argT];refine zKh id 1 5 1 (by decide) hob rfl rfl rfl ?_
 refine au1 (kX2 @n2 @n3) ?_;intros;apply wr
 first|refine .inr ((zNC id .nilp (.own nx) (by simp [lookO]) (.inl rfl)).mono fun r nx' ob' hp=>?_)|refine (zNC id .nilp (.own nx) (by simp [lookO]) (.inl rfl)).mono fun r nx' ob' hp=>?_|refine ((zNC id .nilp (.own nx) (by simp [lookO]) (.inl rfl)).mono fun r nx' ob' hp=>?_).2
 simp only [aftI];obtain ⟨rfl,rfl,rfl⟩:=hp;simp [n2,n3,n4,n5,hob];refine au1 (kX6 @n2 @n3 @n4 @n5 @hob @hm) ?_;intros;apply wr;refine zAB ?_;simp;exact ⟨_,Nat.le_succ _,Nat.lt_succ_self _,by simp [lookO,n4,n5],by simp [lookO],fun j h1 h2 h3=>by
  have h4:¬ j=nx+1:=by omega
  simp [lookO,h1,h2,h4]⟩
theorem zKl {nx:Nat} {ob:List (Nat × Option Ob)} (id bid:Nat) (c0:V) (s:Str) (hob:lookO ob id=some (bldO c0 (.own bid))) (hbb:lookO ob bid=some (bufO s)) :
  InlC prog 254 [.ptr id 2 0 0] nx ob fun r nx' ob'=>r=.int .i64 s.length/\nx'=nx/\ob'=ob:=by
 have hbl:(zAL s).length=s.length:=by simp [zAL]
 refine InlC.of func254 rfl (by kernel_rfl) rfl ?_
 simp only [ntmps254,St.startI,argT];refine au1 (kX3 @hob @hbb @hbl) ?_;intros;apply wr;refine zAB ?_;simp
def grpB (s:Str) (p:Nat):Str:=(s.drop p).take 4
def zBS (s:Str) (n:Nat) (k:Str):List Nat:=(List.range' (n-255) (n-(n-255))).filter fun p=>decide (p+4<=s.length)&&decide (grpB s p=k)
def extC (s:Str) (i p lim:Nat):Nat->Nat->Nat
 | 0,n=>n
 | f+1,n=>if n<lim/\s[i+n]? =s[p+n]? then extC s i p lim f (n+1) else n
def zEK (s:Str) (i lim:Nat):List Nat->Nat × Nat->Nat × Nat
 | [],b=>b
 | p::r,b=>if b.2<lim then zEK s i lim r (if b.2<extC s i p lim lim 4 then (i-p,extC s i p lim lim 4) else b) else b
def limC (s:Str) (i:Nat):Nat:=min 67 (s.length-i)
def zBv (s:Str) (i:Nat):Nat × Nat:=if i+4<=s.length then zEK s i (limC s i) (zBS s i (grpB s i)).reverse (0,0) else (0,0)
def zEe:Nat->Str->Str
 | 0,_=>[]
 | f+1,run=>if run=[] then [] else UInt8.ofNat (min 128 run.length-1)::(run.take (min 128 run.length)++zEe f (run.drop (min 128 run.length)))
def litC (run:Str):Str:=zEe run.length run
def zFw (s:Str):Nat->Nat->Nat->Str->Str
 | 0,_,st,out=>out++litC (s.drop st)
 | f+1,i,st,out =>
  if i<s.length then
   if (zBv s i).2=0 then zFw s f (i+1) st out
   else zFw s f (i+(zBv s i).2) (i+(zBv s i).2) (out++litC ((s.take i).drop st)++[UInt8.ofNat (124+(zBv s i).2),UInt8.ofNat (zBv s i).1])
  else out++litC (s.drop st)
def zEP (s:Str):Str:=zFw s s.length 0 0 []
def zGV:Nat->Nat->Str->Str
 | 0,_,o=>o
 | n+1,d,o=>zGV n d (o++[o.getD (o.length-d) 0])
def unpF:Nat->Str->Str->Option Str
 | 0,_,_=>none
 | _+1,[],o=>some o
 | f+1,c::t,o =>
  if c.toNat<128 then (if t.length<c.toNat+1 then none else unpF f (t.drop (c.toNat+1)) (o++t.take (c.toNat+1)))
  else if c.toNat<=191 then (match t with
   | []=>none
   | d::t'=>if d.toNat=0\/o.length<d.toNat then none else unpF f t' (zGV (c.toNat-124) d.toNat o))
  else none
theorem zEz (f:Nat) (c:UInt8) (t o:Str):unpF (f+1) (c::t) o=if c.toNat<128 then (if t.length<c.toNat+1 then none else unpF f (t.drop (c.toNat+1)) (o++t.take (c.toNat+1)))
  else if c.toNat<=191 then (match t with
   | []=>none
   | d::t'=>if d.toNat=0\/o.length<d.toNat then none else unpF f t' (zGV (c.toNat-124) d.toNat o))
  else none:=by
 cases t<;>rfl
theorem zHJ:∀ (f g:Nat) (t o x:Str),f<=g->unpF f t o=some x->unpF g t o=some x
 | 0,_,_,_,_,_,h=>by simp [unpF] at h
 | f+1,0,_,_,_,hl,_=>by omega
 | f+1,g+1,[],o,x,_,h=>by simpa [unpF] using h
 | f+1,g+1,c::t,o,x,hl,h=>by
  unfold unpF at h ⊢;split at h
  ·rename_i h1;rw [if_pos h1];split at h
   ·cases h
   rename_i h2;rw [if_neg h2];exact zHJ f g _ _ _ (by omega) h
  rename_i h1;rw [if_neg h1];split at h
  ·rename_i h2;rw [if_pos h2];cases t with
   | nil=>simp at h
   | cons d t' =>
    simp only at h ⊢;split at h
    ·cases h
    rename_i h3;rw [if_neg h3];exact zHJ f g _ _ _ (by omega) h
  cases h
theorem zEy {n:Nat} (h:n<256):(UInt8.ofNat n).toNat=n:=by
 simp;omega
theorem zJA:∀ (k:Nat) (run:Str),run.length<=k->∀ (f:Nat) (b o x:Str),unpF f b (o++run)=some x->unpF (f+run.length) (zEe k run++b) o=some x
 | 0,run,hk,f,b,o,x,h=>by
  have:run=[]:=zWB (by omega)
  subst this;simpa [zEe] using h
 | k+1,run,hk,f,b,o,x,h=>by
  unfold zEe;by_cases hr:run=[]
  ·subst hr;simpa using h
  rw [if_neg hr];have hpos:0<run.length:=List.length_pos_iff.2 hr;generalize hn:min 128 run.length=n;have hn1:1<=n:=by omega
  have hn2:n<=128:=by omega
  have hn3:n<=run.length:=by omega
  have hc:(UInt8.ofNat (n-1)).toNat=n-1:=zEy (by omega)
  have ht:(run.take n).length=n:=by rw [zWE];omega
  have ih:=zJA k (run.drop n) (by rw [zWF];omega) f b (o++run.take n) x (by rw [zWH,List.take_append_drop];exact h)
  obtain ⟨F,hF⟩:∃ F,f+run.length=F+1:=⟨f+run.length-1,by omega⟩
  rw [hF,zWM,zEz,if_pos (by rw [hc];omega),hc,show n-1+1=n by omega,if_neg (by simp only [zV7,ht];omega),zWH]
  rw [List.drop_left' ht,List.take_left' ht];refine zHJ _ _ _ _ _ ?_ ih;rw [zWF];omega
theorem zIP:∀ (n d:Nat) (o:Str),(zGV n d o).length=o.length+n
 | 0,_,_=>rfl
 | n+1,d,o=>by rw [zGV,zIP n d];simp;omega
theorem zJZ (s:Str) (i d:Nat) (hd:1<=d) (hdi:d<=i):∀ (n k:Nat),i+k+n<=s.length->(∀ j,j<k+n->s[i+j]? =s[i-d+j]?)->zGV n d (s.take (i+k))=s.take (i+k+n)
 | 0,k,_,_=>rfl
 | n+1,k,hl,h=>by
  rw [zGV];have hlen:(s.take (i+k)).length=i+k:=by rw [zWE];omega
  have e:s.take (i+k)++[(s.take (i+k)).getD ((s.take (i+k)).length-d) 0]=s.take (i+(k+1)):=by
   have hk:=h k (by omega)
   rw [hlen,show i+(k+1)=i+k+1 by omega,List.take_add_one]
   congr 1
   rw [zV1,zWJ,if_pos (by omega),show i+k-d=i-d+k by omega,<- hk,zV3 (by omega)]
   rfl
  rw [e,zJZ s i d hd hdi n (k+1) (by omega) (fun j hj=>h j (by omega)),show i+(k+1)+n=i+k+(n+1) by omega]
structure OkMt (s:Str) (i d l:Nat):Prop where
 l4:4<=l
 l67:l<=67
 il:i+l<=s.length
 d1:1<=d
 d255:d<=255
 di:d<=i
 eq:∀ j,j<l->s[i+j]? =s[i-d+j]?
theorem zOm (s:Str) (i p lim:Nat):∀ (f n:Nat),n<=lim->(∀ j,j<n->s[i+j]? =s[p+j]?)->n<=extC s i p lim f n/\extC s i p lim f n<=lim/\∀ j,j<extC s i p lim f n->s[i+j]? =s[p+j]?
 | 0,n,h1,h2=>⟨zV9 _,h1,h2⟩
 | f+1,n,h1,h2=>by
  unfold extC;split
  ·rename_i h;obtain ⟨q1,q2,q3⟩:=zOm s i p lim f (n+1) (by omega) (fun j hj=>by
    by_cases e:j=n
    ·subst e;exact h.2
    exact h2 j (by omega))
   exact ⟨by omega,q2,q3⟩
  exact ⟨zV9 _,h1,h2⟩
theorem grp_eq {s:Str} {i p:Nat} (h:grpB s p=grpB s i):∀ j,j<4->s[i+j]? =s[p+j]? :=by
 intro j hj
 have e:=congrArg (fun l:Str=>l[j]?) h
 simp only [grpB,zWJ,zWS] at e;rw [if_pos hj,if_pos hj] at e;exact e.symm
theorem zMi {s:Str} {n p:Nat} {k:Str} (h:p∈zBS s n k):p<n/\n<=p+255/\p+4<=s.length/\grpB s p=k:=by
 simp only [zBS,List.mem_filter,List.mem_range'_1,zV5,decide_eq_true_eq] at h;exact ⟨by omega,by omega,h.2.1,h.2.2⟩
theorem zOD (s:Str) (i:Nat) (hi:i+4<=s.length):∀ (l:List Nat) (b:Nat × Nat),(∀ p∈l,p∈zBS s i (grpB s i))->(b.2=0\/OkMt s i b.1 b.2)->(zEK s i (limC s i) l b).2=0\/OkMt s i (zEK s i (limC s i) l b).1 (zEK s i (limC s i) l b).2
 | [],_,_,hb=>hb
 | p::r,b,hl,hb=>by
  unfold zEK;split
  ·refine zOD s i hi r _ (fun q hq=>hl q (zV4 _ hq)) ?_
   split
   ·rename_i h1 h2;obtain ⟨a1,a2,a3,a4⟩:=zMi (hl p (zV8 ..));have hlim:4<=limC s i/\limC s i<=67/\limC s i<=s.length-i:=by unfold limC;omega
    obtain ⟨e1,e2,e3⟩:=zOm s i p (limC s i) (limC s i) 4 hlim.1 (grp_eq a4);exact .inr ⟨e1,by omega,by omega,by simp only;omega,by simp only;omega,by simp only;omega,fun j hj=>by simp only;rw [show i-(i-p)+j=p+j by omega];exact e3 j hj⟩
   exact hb
  exact hb
theorem zIo (s:Str) (i:Nat):(zBv s i).2=0\/OkMt s i (zBv s i).1 (zBv s i).2:=by
 unfold zBv;split
 ·rename_i h;exact zOD s i h _ _ (fun p hp=>List.mem_reverse.1 hp) (.inl rfl)
 exact .inl rfl
theorem zSr (s:Str):∀ (f i st:Nat) (out:Str),i<=s.length->st<=i->s.length<=i+f->(∀ g b x,unpF g b (s.take st)=some x->∃ g',unpF g' (out++b) []=some x)->∃ g',unpF g' (zFw s f i st out) []=some s:=by
 have fin:∀ (st:Nat) (out:Str),st<=s.length->(∀ g b x,unpF g b (s.take st)=some x->∃ g',unpF g' (out++b) []=some x)->∃ g',unpF g' (out++litC (s.drop st)) []=some s:=by
  intro st out hst ho
  refine ho (1+(s.drop st).length) _ s ?_;have:=zJA (s.drop st).length (s.drop st) (zV9 _) 1 [] (s.take st) s (by rw [List.take_append_drop];rfl)
  rwa [zWT] at this
 intro f
 induction f with
 | zero =>
  intro i st out hi hst hf ho
  exact fin st out (by omega) ho
 | succ f ih =>
  intro i st out hi hst hf ho
  unfold zFw;split
  ·rename_i hlt;split
   ·exact ih (i+1) st out (by omega) (by omega) (by omega) ho
   rename_i hz;rcases zIo s i with h|h
   ·exact absurd h hz
   generalize (zBv s i).2=l at *
   generalize (zBv s i).1=d at *
   refine ih (i+l) (i+l) _ (by have:=h.il;omega) (zV9 _) (by have:=h.l4;omega) ?_
   intro g b x hx
   have h1:=h.l4;have h2:=h.l67;have h3:=h.il;have h4:=h.d1;have h5:=h.d255;have h6:=h.di;have hc:(UInt8.ofNat (124+l)).toNat=124+l:=zEy (by omega)
   have hd:(UInt8.ofNat d).toNat=d:=zEy (by omega)
   have hcp:=zJZ s i d h4 h6 l 0 (by omega) (fun j hj=>h.eq j (by omega))
   simp only [Nat.add_zero] at hcp;have e1:unpF (g+1) ([UInt8.ofNat (124+l),UInt8.ofNat d]++b) (s.take i)=some x:=by
    show unpF (g+1) (UInt8.ofNat (124+l)::UInt8.ofNat d::b) (s.take i)=some x
    rw [zEz,if_neg (by rw [hc];omega),if_pos (by rw [hc];omega)]
    simp only [hd,hc];rw [if_neg (by rw [zWE];omega),show 124+l-124=l by omega,hcp]
    exact hx
   have e2:=zJA ((s.take i).drop st).length ((s.take i).drop st) (zV9 _) (g+1) ([UInt8.ofNat (124+l),UInt8.ofNat d]++b) (s.take st) x (by
    have e:s.take st++(s.take i).drop st=s.take i:=by
     rw [show s.take st=(s.take i).take st by rw [List.take_take];congr 1;omega,List.take_append_drop]
    rw [e];exact e1)
   obtain ⟨g',hg'⟩:=ho _ _ _ e2;refine ⟨g',?_⟩;rw [<- hg'];simp only [litC,zWH]
  exact fin st out (by omega) ho
theorem zQX (s:Str):∃ g,unpF g (zEP s) []=some s :=
 zSr s s.length 0 0 [] (Nat.zero_le _) (zV9 _) (by omega) (fun g b x h=>⟨g,by simpa using h⟩)
theorem zQE (s:Str) (n:Nat) (k:Str):zBS s (n+1) k =
  if 255<=n/\n-255+4<=s.length/\grpB s (n-255)=k then (if n+4<=s.length/\grpB s n=k then zBS s n k++[n] else zBS s n k).tail
  else if n+4<=s.length/\grpB s n=k then zBS s n k++[n] else zBS s n k:=by
 have hq:∀ p,(decide (p+4<=s.length)&&decide (grpB s p=k))=decide (p+4<=s.length/\grpB s p=k):=fun p=>by simp
 simp only [zBS,hq];have hsn:(if n+4<=s.length/\grpB s n=k then (List.range' (n-255) (n-(n-255))).filter (fun p=>decide (p+4<=s.length/\grpB s p=k))++[n] else (List.range' (n-255) (n-(n-255))).filter (fun p=>decide (p+4<=s.length/\grpB s p=k)))
   = (List.range' (n-255) (n-(n-255)+1)).filter (fun p=>decide (p+4<=s.length/\grpB s p=k)):=by
  rw [List.range'_concat,List.filter_append,show n-255+1*(n-(n-255))=n by omega]
  split
  ·rename_i h;simp [h]
  rename_i h;simp only [List.filter_cons,List.filter_nil,h,decide_false,zWK,if_false,zWT]
 rw [hsn];by_cases h:255<=n
 ·rw [show n+1-255=n-255+1 by omega,show n+1-(n-255+1)=n-(n-255) by omega,List.range'_succ (s:=n-255),List.filter_cons]
  by_cases h2:n-255+4<=s.length/\grpB s (n-255)=k
  ·rw [if_pos ⟨h,h2⟩,if_pos (by simpa using h2),List.tail_cons]
  rw [if_neg (fun z=>h2 z.2),if_neg (by simpa using h2)]
 rw [if_neg (fun z=>h z.1),show n+1-255=n-255 by omega,show n+1-(n-255)=n-(n-255)+1 by omega]
theorem zDz {t:Str} {i:Nat} (h:i<t.length):∃ b,t[i]? =some b/\t.drop i=b::t.drop (i+1):=⟨t[i],zV3 h,zWZ h⟩
abbrev byO (s:Str):Ob:=⟨5,1,false,false,zAL s⟩
theorem zIN (s:Str):(zAL s).length=s.length:=by simp [zAL]
theorem zKo (s t:Str):zAL s++zAL t=zAL (s++t):=by simp [zAL]
theorem zOJ (b:UInt8):[[V.int .u8 (b.toNat:Int)]]=zAL [b]:=by simp [zAL]
theorem zGl:∀ (k:Nat) (run:Str),run.length<=k->zEe k run=litC run
 | 0,run,h=>by
  have:run=[]:=zWB (by omega)
  subst this;rfl
 | k+1,run,h=>by
  by_cases hr:run=[]
  ·subst hr;rfl
  have hp:0<run.length:=List.length_pos_iff.2 hr;obtain ⟨m,hm⟩:∃ m,run.length=m+1:=⟨run.length-1,by omega⟩
  have hd:(run.drop (min 128 run.length)).length<=m:=by rw [zWF];omega
  rw [litC,hm,zEe,zEe,if_neg hr,if_neg hr,zGl k _ (by omega),zGl m _ hd]
theorem zRp (run:Str) (hr:run≠[]):litC run=UInt8.ofNat (min 128 run.length-1)::(run.take (min 128 run.length)++litC (run.drop (min 128 run.length))):=by
 have hp:0<run.length:=List.length_pos_iff.2 hr;obtain ⟨m,hm⟩:∃ m,run.length=m+1:=⟨run.length-1,by omega⟩
 have hd:(run.drop (min 128 run.length)).length<=m:=by rw [zWF];omega
 have:litC run=zEe (m+1) run:=by rw [litC,hm]
 rw [this,zEe,if_neg hr,zGl m _ hd]
theorem zIh:∀ (k:Nat) (run:Str),(zEe k run).length<=2*run.length
 | 0,run=>by simp [zEe]
 | k+1,run=>by
  unfold zEe;split
  ·simp
  rename_i hr;have hp:0<run.length:=List.length_pos_iff.2 hr;have:=zIh k (run.drop (min 128 run.length));rw [zWF] at this;simp only [zWG,zV7,zWE];omega
theorem zD9 {nx:Nat} {ob:List (Nat × Option Ob)} (id:Nat) (o run:Str) (hid:lookO ob id=some (byO o)) (hn:id<nx) (ho:o.length<=400000) (hr:run.length<=100000) :
  InlC prog 188 [.own id,.str run] nx ob fun r nx' ob'=>∃ id',r=.own id'/\lookO ob' id'=some (byO (o++litC run))/\nx<=nx'/\id'<nx'/\(id'=id\/nx<=id')/\∀ q,q<nx->q≠id->lookO ob' q=lookO ob q:=by
 refine InlC.of func188 rfl (by kernel_rfl) rfl ?_
 simp only [ntmps188,St.startI,argT];refine au1 @hid ?_;intros;apply wr;refine zAX (run.length+1) ?_;refine zA5 (fun k st=>∃ (rest P:Str) (id' nx':Nat) (T:List (Nat × V)) (o':List (Nat × Option Ob)),rest.length<=k/\st=⟨27,T,nx',o',nx⟩/\(lkT T 0=.own id'/\lkT T 1=.str rest)/\lookO o' id'=some (byO P)/\P++litC rest=o++litC run/\(nx<=nx'/\id'<nx'/\(id'=id\/nx<=id'))/\P.length+2*rest.length<=600000/\rest.length<=100000/\∀ q,q<nx->q≠id->lookO o' q=lookO ob q) ?_ _ _ ⟨run,o,id,nx,_,_,zV9 _,rfl,by simp [lkT],hid,rfl,⟨zV9 _,hn,.inl rfl⟩,by omega,hr,fun q _ _=>rfl⟩
 rintro k st ⟨rest,P,id',nx',T,o',hk,rfl,⟨t0,t1⟩,hP,hE,⟨h1,h2,h3⟩,h4,h5,h6⟩ Kl hKl
 refine zBV [(0,.own id'),(1,.str rest)] (by simp [t0,t1]) ?_
 simp;refine au ?_;intros;apply wr;by_cases hz:rest=[]
 ·subst hz;refine gF00 rfl ?_;intros;apply wr;refine zAB ?_;simp;refine ⟨by rw [<- hE];simpa [litC,zEe] using hP,h1,h2,h3,h6⟩
 have hp:0<rest.length:=List.length_pos_iff.2 hz;have c1:(0:Int)<rest.length:=by omega
 obtain ⟨n,hn'⟩:∃ n,n=min 128 rest.length:=⟨_,rfl⟩;have hmn:(if (rest.length:Int)<128 then (rest.length:Int) else 128)=n:=by split<;>omega
 obtain ⟨b,hb'⟩:∃ b,b=UInt8.ofNat (n-1):=⟨_,rfl⟩;have hb:b.toNat=n-1:=by rw [hb'];exact zEy (by omega)
 have w1:IntKind.i64.wrap ((n:Int)-1)=(n:Int)-1:=zAA (by omega) (by omega)
 have w2:IntKind.u8.wrap ((n:Int)-1)=(b.toNat:Int):=by rw [hb,IntKind.wrap_u8];omega
 have d1:¬ nx'=id':=by omega
 have d2:¬ id'=nx':=by omega
 have hbl:=zIN P;have c2:(0:Int)<=n:=by omega
 have c3:(n:Int)<=rest.length:=by omega
 have hlc:=zRp rest hz;rw [<- hn',<- hb'] at hlc;have hol:(zAL (P++[b])).length=P.length+1:=by simp [zAL]
 have htl:(rest.take n).length=n:=by rw [zWE];omega
 refine gT11 (kX2 @c1 @hz) rfl (kX14 @hP @hbl @maxLen.eq_1 @hmn @w1 @w2 @d1 @d2 @zOJ @zKo @c2 @c3 @hol @htl) ?_;intros;apply wr;refine hKl (k-1) _ (by omega) ⟨rest.drop n,P++([b]++rest.take n),nx'+1+1,nx'+1+1+1,_,_,by rw [zWF];omega,rfl,by simp [lkT],by simp [lookO,zAL],?_,⟨by omega,by omega,.inr (by omega)⟩,?_,by rw [zWF];omega,fun q q1 q2=>?_⟩
 ·rw [<- hE,hlc];simp
 ·simp only [zV7,zWG,List.length_nil,zWF,htl];omega
 simp [lookO,show ¬ q=nx' by omega,show ¬ q=nx'+1 by omega,show ¬ q=nx'+1+1 by omega,show ¬ q=id' by omega,h6 q q1 q2]
abbrev cwO (s:Str) (c:V) (k:Int):Ob:=⟨304,3,true,false,[[.str s,c,.int .i64 k]]⟩
theorem zBp {nx:Nat} {ob:List (Nat × Option Ob)} (wid:Nat) (s:Str) (c:V) (k:Int) (i:Nat) (hi:i+4<=s.length) (hs:s.length<=100000) (hob:lookO ob wid=some (cwO s c k)) :
  InlC prog 256 [.ptr wid 3 0 0,.int .i64 i] nx ob fun r nx' ob'=>r=.tup [.str (grpB s i),.bool true]/\nx'=nx/\ob'=ob:=by
 have w1:IntKind.i64.wrap ((i:Int)+4)=(i:Int)+4:=zAA (by omega) (by omega)
 have c0:¬ (i:Int)<0:=by omega
 have c1:¬ (s.length:Int)<(i:Int)+4:=by omega
 have c2:(i:Int)+4<=(s.length:Int):=by omega
 have c3:((i:Int)+4).toNat=i+4:=by omega
 have hE:(s.take (i+4)).drop i=grpB s i:=by rw [grpB,List.drop_take];congr 1;omega
 refine InlC.of func256 rfl (by kernel_rfl) rfl ?_
 simp only [ntmps256,St.startI,argT];refine au1 @hob ?_;intros;apply wr;refine au1 (kX2 @hob @w1) ?_;intros;apply wr;refine gF11 (kX3 @w1 @c1 @c0) rfl (kX4 @hob @w1 @c2 @c3) ?_;intros;apply wr;refine zAB ?_;simp [hE]
theorem zBX {nx:Nat} {ob:List (Nat × Option Ob)} (wid:Nat) (s:Str) (c:V) (k:Int) (i:Int) (hi:i<0\/(s.length:Int)<i+4) (h1:-1000<=i) (h2:i<=200000) (hs:s.length<=100000) (hob:lookO ob wid=some (cwO s c k)) :
  InlC prog 256 [.ptr wid 3 0 0,.int .i64 i] nx ob fun r nx' ob'=>r=.tup [.str [],.bool false]/\nx'=nx/\ob'=ob:=by
 have w1:IntKind.i64.wrap (i+4)=i+4:=zAA (by omega) (by omega)
 by_cases c0:i<0
 ·refine InlC.of func256 rfl (by kernel_rfl) rfl ?_
  simp only [ntmps256,St.startI,argT];refine au1 @hob ?_;intros;apply wr;refine au1 (kX3 @hob @w1 @c0) ?_;intros;apply wr;refine gT10 @c0 rfl ?_;intros;apply wr;refine zAB ?_;simp
 have c1:(s.length:Int)<i+4:=by omega
 refine InlC.of func256 rfl (by kernel_rfl) rfl ?_
 simp only [ntmps256,St.startI,argT];refine au1 @hob ?_;intros;apply wr;refine au1 (kX4 @hob @w1 @c0 @c1) ?_;intros;apply wr;refine gT10 (kX3 @w1 @c1 @c0) rfl ?_;intros;apply wr;refine zAB ?_;simp
theorem zGq (s:Str) (x:List V) (r:List (List V)):midx s (x::r)=if mkey x=some s then some 0 else (midx s r).map (·+1):=rfl
theorem zBm (s:Str) (x:List V) (r:List (List V)):mget s (x::r)=if mkey x=some s then some x.tail else mget s r:=by
 unfold mget;rw [zGq];by_cases hk:mkey x=some s
 ·simp [hk]
 simp only [hk,if_false];cases hm:midx s r<;>simp
theorem zJ4 (s:Str) (cs:List V) (x:List V) (r:List (List V)):mput s cs (x::r)=if mkey x=some s then (.str s::cs)::r else x::mput s cs r:=by
 unfold mput;rw [zGq];by_cases hk:mkey x=some s
 ·simp [hk]
 simp only [hk,if_false];cases hm:midx s r<;>simp
theorem zJ3 (s:Str) (x:List V) (r:List (List V)):mdel s (x::r)=if mkey x=some s then r else x::mdel s r:=by
 unfold mdel;rw [zGq];by_cases hk:mkey x=some s
 ·simp [hk]
 simp only [hk,if_false];cases hm:midx s r<;>simp
theorem zGC (s k:Str) (cs:List V):∀ rows:List (List V),mget k (mput s cs rows)=if k=s then some cs else mget k rows
 | []=>by
  show mget k [.str s::cs]=_
  rw [zBm];by_cases h:k=s
  ·subst h;simp [mkey]
  have:¬ s=k:=fun e=>h e.symm
  simp [mkey,h,this]
 | x::r=>by
  rw [zJ4];by_cases hk:mkey x=some s
  ·rw [if_pos hk,zBm,zBm];by_cases h:k=s
   ·subst h;simp [mkey]
   have h2:¬ s=k:=fun e=>h e.symm
   have h3:¬ mkey x=some k:=by rw [hk];simpa using h2
   rw [if_neg (by simpa [mkey] using h2),if_neg h,if_neg h3]
  rw [if_neg hk,zBm,zBm,zGC s k cs r];by_cases h:k=s
  ·subst h;rw [if_neg hk,if_pos rfl,if_pos rfl]
  rw [if_neg h,if_neg h]
def mnd (rows:List (List V)):Prop:=(rows.map mkey).Nodup
theorem zFk {k:Str}:∀ {rows:List (List V)},some k ∉ rows.map mkey->mget k rows=none
 | [],_=>rfl
 | x::r,h=>by
  simp only [zWP,List.mem_cons,not_or] at h;rw [zBm,if_neg (fun e=>h.1 e.symm),zFk h.2]
theorem zGB (s k:Str):∀ rows:List (List V),mnd rows->mget k (mdel s rows)=if k=s then none else mget k rows
 | [],_=>by show mget k []=_;split<;>rfl
 | x::r,h=>by
  have h':=List.nodup_cons.1 (show (mkey x::r.map mkey).Nodup from h)
  rw [zJ3];by_cases hk:mkey x=some s
  ·rw [if_pos hk];by_cases e:k=s
   ·subst e;rw [if_pos rfl];exact zFk (by rw [<- hk];exact h'.1)
   rw [if_neg e,zBm,if_neg (by rw [hk];simpa using fun e'=>e e'.symm)]
  rw [if_neg hk,zBm,zBm,zGB s k r h'.2];by_cases e:k=s
  ·subst e;rw [if_neg hk,if_pos rfl,if_pos rfl]
  rw [if_neg e,if_neg e]
theorem zIe (s:Str) (cs:List V):∀ rows:List (List V),(mput s cs rows).map mkey=if some s∈rows.map mkey then rows.map mkey else rows.map mkey++[some s]
 | []=>by simp [mput,midx,mkey]
 | x::r=>by
  rw [zJ4];by_cases hk:mkey x=some s
  ·have hs:mkey (.str s::cs)=some s:=rfl;rw [if_pos hk,zWP,zWP,hs,hk,if_pos (zV8 ..)]
  have hk':¬ some s=mkey x:=fun e=>hk e.symm
  rw [if_neg hk,zWP,zIe s cs r];by_cases h:some s∈r.map mkey
  ·rw [if_pos h,if_pos (by rw [zWP];exact zV4 _ h)];rfl
  rw [if_neg h,if_neg (by rw [zWP,List.mem_cons];rintro (e|e);exact hk' e;exact h e)];rfl
theorem zUr {s:Str} {cs:List V} {rows:List (List V)} (h:mnd rows):mnd (mput s cs rows):=by
 unfold mnd;rw [zIe];split
 ·exact h
 rename_i hn;exact List.nodup_append.2 ⟨h,by simp,fun a ha b hb e=>by rw [List.mem_singleton] at hb;subst hb;subst e;exact hn ha⟩
theorem zKt (s:Str):∀ rows:List (List V),(mdel s rows).Sublist rows
 | []=>by show ([]:List (List V)).Sublist [];exact List.Sublist.slnil
 | x::r=>by
  rw [zJ3];split
  ·exact List.sublist_cons_self _ _
  exact (zKt s r).cons_cons _
theorem zUq {s:Str} {rows:List (List V)} (h:mnd rows):mnd (mdel s rows):=h.sublist ((zKt s rows).map mkey)
theorem zPP {s:Str} {rows:List (List V)} (h:mkeys rows):mkeys (mdel s rows):=fun x hx=>h x ((zKt s rows).subset hx)
theorem zPQ {s:Str} {cs:List V} {rows:List (List V)} (h:mkeys rows):mkeys (mput s cs rows):=fun x hx=>by
 have:mkey x∈(mput s cs rows).map mkey:=List.mem_map.2 ⟨x,hx,rfl⟩;rw [zIe] at this;have hr:∀ o∈rows.map mkey,o.isSome=true:=fun o ho=>by
  obtain ⟨y,hy,rfl⟩:=List.mem_map.1 ho;exact h y hy
 split at this
 ·exact hr _ this
 rcases List.mem_append.1 this with q|q
 ·exact hr _ q
 rw [List.mem_singleton.1 q];rfl
theorem zIg (r:Str):(litC r).length<=2*r.length:=zIh _ _
theorem zEm (s:Str):∀ (f i st:Nat) (out:Str),st<=i->i<=s.length->(zFw s f i st out).length<=out.length+2*(s.length-st)
 | 0,i,st,out,h1,h2=>by
  unfold zFw;have:=zIg (s.drop st);rw [zWF] at this;simp only [zV7];omega
 | f+1,i,st,out,h1,h2=>by
  unfold zFw;have h0:=zIg (s.drop st);have h3:=zIg ((s.take i).drop st);rw [zWF] at h0 h3;rw [zWE] at h3;rcases zIo s i with hm|hm
  ·simp only [hm];split
   ·rename_i hi;have:=zEm s f (i+1) st out (by omega) (by omega)
    first
     | (simp;omega)
     | (split<;>first|omega|(simp;omega))
     | omega
   simp only [zV7];omega
  have hl:=hm.l4;have hil:=hm.il;split
  ·rename_i hi;split
   ·have:=zEm s f (i+1) st out (by omega) (by omega)
    omega
   refine zWR (zEm s f _ _ _ (zV9 _) hil) ?_;simp only [zV7,zWG,List.length_nil];omega
  simp only [zV7];omega
theorem zDn (s:Str):(zEP s).length<=2*s.length:=by
 have:=zEm s s.length 0 0 [] (zV9 _) (Nat.zero_le _);simpa [zEP] using this
end Go.Proofs.YthjpcmecgjfilaaGreat
end
