/- A part of the proof of ReplicaFollows. -/
import Derived.Test.YthjpcmecgjfilaaGreatB04
import Derived.Test.YthjpcmecgjfilaaGreatB05
import Derived.Lib.BitFns
set_option linter.unusedSimpArgs false
set_option linter.unusedVariables false
set_option maxHeartbeats 16000000
set_option maxRecDepth 100000
section
namespace Go.Proofs.YthjpcmecgjfilaaGreat
open Go.Ab Go.RowKit
abbrev Str:=List UInt8
structure CpuD where
 x:Nat->Int
 pc:Int
 csr:Nat->Int
structure DskD where
 blocks:Int
 block:Int
 frame:Int
 state:Int
 cmd:Int
 opBlock:Int
 opFrame:Int
 opData:Str
structure NicD where
 frame:Int
 len:Int
 posted:Bool
 buffer:Int
 received:Bool
 got:Int
structure TimD where
 armed:Bool
 dl:Int
 fired:Bool
structure MchD where
 cpu:CpuD
 mem:List Int
 keys:Str
 tim:TimD
 dk:DskD
 nc:NicD
 tgt:Int
 given:Int
 count:Int
 waiting:Bool
 halted:Bool
abbrev uv (n:Int):V:=.int .u32 n
abbrev lv (n:Int):V:=.int .u64 n
abbrev iv (n:Int):V:=.int .i64 n
abbrev memV (l:List Int):V:=.sl 1 false (ints .u32 l)
abbrev CpuD.row (c:CpuD):List V:=[uv (c.x 0),uv (c.x 1),uv (c.x 2),uv (c.x 3),uv (c.x 4),uv (c.x 5),uv (c.x 6),uv (c.x 7),uv (c.x 8),uv (c.x 9),uv (c.x 10),uv (c.x 11),uv (c.x 12),uv (c.x 13),uv (c.x 14),uv (c.x 15),uv c.pc,uv (c.csr 0),uv (c.csr 1),uv (c.csr 2),uv (c.csr 3),uv (c.csr 4),uv (c.csr 5),uv (c.csr 6),uv (c.csr 7)]
abbrev DskD.row (d:DskD):List V:=[uv d.blocks,uv d.block,uv d.frame,iv d.state,iv d.cmd,uv d.opBlock,uv d.opFrame,.str d.opData]
abbrev NicD.row (n:NicD):List V:=[uv n.frame,uv n.len,.bool n.posted,uv n.buffer,.bool n.received,uv n.got]
abbrev TimD.row (t:TimD):List V:=[.bool t.armed,uv t.dl,.bool t.fired]
abbrev MchD.row (m:MchD):List V:=m.cpu.row++memV m.mem::.str m.keys::(m.tim.row++(m.dk.row++(m.nc.row++[uv m.tgt,uv m.given,lv m.count,.bool m.waiting,.bool m.halted])))
def pagesD (mem:List Int):Int:=if (mem.length:Int).tmod 32=0/\(mem.length:Int)<=1024 then IntKind.i64.wrap (mem.length / 32) else 0
def timMay (t:TimD):Bool:=if t.armed then !t.fired&&t.dl != 0 else if t.fired then true else t.dl==0
def zHx (d:DskD):Bool:=if d.cmd=1 then d.opData==[] else if d.cmd=2 then d.opData.length==128 else false
def dskMay (d:DskD) (pages:Int):Bool :=
 if d.blocks > 64 then false
 else if d.state=0\/d.state=2\/d.state=3 then d.cmd==0&&d.opBlock==0&&d.opFrame==0&&d.opData==[]
 else if d.state=1 then zHx d&&decide (d.opBlock<d.blocks)&&decide (IntKind.i64.wrap d.opFrame<pages)
 else false
def nicMay (n:NicD) (pages:Int):Bool :=
 if n.posted&&n.received then false
 else if n.posted&&decide (pages<=IntKind.i64.wrap n.buffer) then false
 else if !n.posted&&n.buffer != 0 then false
 else if n.received then decide (n.got >= 1)&&decide (n.got<=128) else n.got==0
def bitLen (x:Int):Nat:=Lib.bitLen x.toNat
def balMay (given pages:Int):Bool:=decide ((bitLen given:Int)<=max pages 0)
def mayD (m:MchD):Bool :=
 (pagesD m.mem != 0)&&(m.cpu.x 0==0)&&decide (m.cpu.csr 0<=31)&&decide (m.cpu.csr 7<=31)&&decide (m.cpu.csr 6<=255)&&(m.cpu.csr 1 % 4==0) &&
  decide (m.count<=1152921504606846976)&&!(m.waiting&&m.halted) &&
  (decide ((m.keys.length:Int)<=16)&&timMay m.tim&&dskMay m.dk (pagesD m.mem)&&nicMay m.nc (pagesD m.mem)&&balMay m.given (pagesD m.mem))
structure EvD where
 kind:Int
 n:Int
 data:Str
structure EntD where
 at_:Int
 ev:EvD
structure OutD where
 kind:Int
 at_:Int
 block:Int
 data:Str
structure SegD where
 from_:Int
 known:Int
 ents:List EntD
structure RecD where
 m:MchD
 clock:Int
 log:List EntD
 queue:List EvD
structure RplD where
 m:MchD
 log:List EntD
 known:Int
 clock:Int
structure GateD where
 held:List OutD
 acked:Int
 bytes:Int
structure SndD where
 base:Int
 tail:Int
 known:Int
 queue:List SegD
structure RcvD where
 next:Int
 known:Int
 early:List (Int × SegD)
structure DetD where
 limit:Int
 silent:Int
 seen:Int
structure RepD where
 host:Int
 role:Int
 gen:Int
 rec_:RecD
 rpl:RplD
 gate:GateD
 mark:Int
 out:SndD
 inn:RcvD
 watch:DetD
 beats:Int
 cmd:Int
 cmdAt:Int
 hist:List EntD
abbrev EvD.row (e:EvD):List V:=[iv e.kind,uv e.n,.str e.data]
abbrev EntD.row (e:EntD):List V:=[lv e.at_,iv e.ev.kind,uv e.ev.n,.str e.ev.data]
abbrev OutD.row (o:OutD):List V:=[iv o.kind,lv o.at_,uv o.block,.str o.data]
def ents (l:List EntD):List (List V):=l.map EntD.row
def evs (l:List EvD):List (List V):=l.map EvD.row
def outs (l:List OutD):List (List V):=l.map OutD.row
abbrev zBV (l:List EntD):V:=.sl 4 false (ents l)
abbrev SegD.row (g:SegD):List V:=[lv g.from_,lv g.known,zBV g.ents]
def segs (l:List SegD):List (List V):=l.map SegD.row
def zGg (l:List (Int × SegD)):List (List V):=l.map fun e=>[lv e.1,lv e.2.from_,lv e.2.known,zBV e.2.ents]
abbrev RecD.row (r:RecD):List V:=r.m.row++[uv r.clock,zBV r.log,.sl 3 false (evs r.queue)]
abbrev RplD.row (r:RplD):List V:=r.m.row++[zBV r.log,lv r.known,uv r.clock]
abbrev GateD.row (g:GateD):List V:=[.sl 4 false (outs g.held),lv g.acked,lv g.bytes]
abbrev SndD.row (s:SndD):List V:=[lv s.base,lv s.tail,lv s.known,.sl 3 false (segs s.queue)]
abbrev RcvD.row (r:RcvD):List V:=[lv r.next,lv r.known,.sl 4 false (zGg r.early)]
abbrev DetD.row (d:DetD):List V:=[iv d.limit,iv d.silent,lv d.seen]
abbrev RepD.row (r:RepD):List V:=[iv r.host,iv r.role,lv r.gen]++(r.rec_.row++(r.rpl.row++(r.gate.row++([lv r.mark]++(r.out.row++(r.inn.row++(r.watch.row++[lv r.beats,iv r.cmd,lv r.cmdAt,zBV r.hist])))))))
def zCpu:CpuD:=⟨fun _=>0,0,fun _=>0⟩
def zDsk:DskD:=⟨0,0,0,0,0,0,0,[]⟩
def zNic:NicD:=⟨0,0,false,0,false,0⟩
def zTim:TimD:=⟨false,0,false⟩
def zMch:MchD:=⟨zCpu,[],[],zTim,zDsk,zNic,0,0,0,false,false⟩
def zRec:RecD:=⟨zMch,0,[],[]⟩
def zRpl:RplD:=⟨zMch,[],0,0⟩
def zGate:GateD:=⟨[],0,0⟩
def zSnd:SndD:=⟨0,0,0,[]⟩
def zRcv:RcvD:=⟨0,0,[]⟩
def zDet:DetD:=⟨0,0,0⟩
def zRep:RepD:=⟨0,0,0,zRec,zRpl,zGate,0,zSnd,zRcv,zDet,0,0,0,[]⟩
attribute [simp] zRep zRec zRpl zMch zCpu zDsk zNic zTim zGate zSnd zRcv zDet
@[simp] theorem nil_ents:ents []=[]:=rfl
@[simp] theorem nil_evs:evs []=[]:=rfl
@[simp] theorem zR7:outs []=[]:=rfl
@[simp] theorem nil_segs:segs []=[]:=rfl
@[simp] theorem nil_earls:zGg []=[]:=rfl
@[simp] theorem nil_ints (k:IntKind):ints k []=[]:=rfl
def zHa (limit:Int):Bool:=decide (1<=limit)&&decide (limit<=20)
def zEO (host:Int) (m:MchD) (gen limit:Int):RepD:={zRep with host:=host,gen:=gen,gate:=⟨[],m.count,0⟩,mark:=m.count,watch:=⟨limit,0,0⟩}
def zBL (host:Int) (m:MchD) (gen limit:Int):Bool:=zHa limit&&(decide (host=0)||decide (host=1))&&!decide (gen=0)&&mayD m&&!decide (m.dk.state=1)
def zC1 (host:Int) (m:MchD) (gen limit:Int):RepD:={zEO host m gen limit with role:=1,rec_:=⟨m,0,[],[]⟩,out:=⟨1,m.count,m.count,[]⟩}
def zEL (host:Int) (m:MchD) (gen limit:Int):RepD:={zEO host m gen limit with role:=2,rpl:=⟨m,[],m.count,0⟩,inn:=⟨1,m.count,[]⟩}
def grpB (s:Str) (p:Nat):Str:=(s.drop p).take 4
def zBT (s:Str) (n:Nat) (k:Str):List Nat:=(List.range' (n-255) (n-(n-255))).filter fun p=>decide (p+4<=s.length)&&decide (grpB s p=k)
def extC (s:Str) (i p lim:Nat):Nat->Nat->Nat
 | 0,n=>n
 | f+1,n=>if n<lim/\s[i+n]? =s[p+n]? then extC s i p lim f (n+1) else n
def zEQ (s:Str) (i lim:Nat):List Nat->Nat × Nat->Nat × Nat
 | [],b=>b
 | p::r,b=>if b.2<lim then zEQ s i lim r (if b.2<extC s i p lim lim 4 then (i-p,extC s i p lim lim 4) else b) else b
def limC (s:Str) (i:Nat):Nat:=min 67 (s.length-i)
def zB2 (s:Str) (i:Nat):Nat × Nat:=if i+4<=s.length then zEQ s i (limC s i) (zBT s i (grpB s i)).reverse (0,0) else (0,0)
def zEn:Nat->Str->Str
 | 0,_=>[]
 | f+1,run=>if run=[] then [] else UInt8.ofNat (min 128 run.length-1)::(run.take (min 128 run.length)++zEn f (run.drop (min 128 run.length)))
def litC (run:Str):Str:=zEn run.length run
def zF3 (s:Str):Nat->Nat->Nat->Str->Str
 | 0,_,st,out=>out++litC (s.drop st)
 | f+1,i,st,out =>
  if i<s.length then
   if (zB2 s i).2=0 then zF3 s f (i+1) st out
   else zF3 s f (i+(zB2 s i).2) (i+(zB2 s i).2) (out++litC ((s.take i).drop st)++[UInt8.ofNat (124+(zB2 s i).2),UInt8.ofNat (zB2 s i).1])
  else out++litC (s.drop st)
def zET (s:Str):Str:=zF3 s s.length 0 0 []
def zGe:Nat->Nat->Str->Str
 | 0,_,o=>o
 | n+1,d,o=>zGe n d (o++[o.getD (o.length-d) 0])
def unpF:Nat->Str->Str->Option Str
 | 0,_,_=>none
 | _+1,[],o=>some o
 | f+1,c::t,o =>
  if c.toNat<128 then (if t.length<c.toNat+1 then none else unpF f (t.drop (c.toNat+1)) (o++t.take (c.toNat+1)))
  else if c.toNat<=191 then (match t with
   | []=>none
   | d::t'=>if d.toNat=0\/o.length<d.toNat then none else unpF f t' (zGe (c.toNat-124) d.toNat o))
  else none
theorem zFA (f:Nat) (c:UInt8) (t o:Str):unpF (f+1) (c::t) o=if c.toNat<128 then (if t.length<c.toNat+1 then none else unpF f (t.drop (c.toNat+1)) (o++t.take (c.toNat+1)))
  else if c.toNat<=191 then (match t with
   | []=>none
   | d::t'=>if d.toNat=0\/o.length<d.toNat then none else unpF f t' (zGe (c.toNat-124) d.toNat o))
  else none:=by
 cases t<;>rfl
theorem zHQ:∀ (f g:Nat) (t o x:Str),f<=g->unpF f t o=some x->unpF g t o=some x
 | 0,_,_,_,_,_,h=>by simp [unpF] at h
 | f+1,0,_,_,_,hl,_=>by omega
 | f+1,g+1,[],o,x,_,h=>by simpa [unpF] using h
 | f+1,g+1,c::t,o,x,hl,h=>by
  unfold unpF at h ⊢;split at h
  ·rename_i h1;rw [if_pos h1];split at h
   ·cases h
   rename_i h2;rw [if_neg h2];exact zHQ f g _ _ _ (by omega) h
  rename_i h1;rw [if_neg h1];split at h
  ·rename_i h2;rw [if_pos h2];cases t with
   | nil=>simp at h
   | cons d t' =>
    simp only at h ⊢;split at h
    ·cases h
    rename_i h3;rw [if_neg h3];exact zHQ f g _ _ _ (by omega) h
  cases h
theorem zE9 {n:Nat} (h:n<256):(UInt8.ofNat n).toNat=n:=by
 simp;omega
theorem zJK:∀ (k:Nat) (run:Str),run.length<=k->∀ (f:Nat) (b o x:Str),unpF f b (o++run)=some x->unpF (f+run.length) (zEn k run++b) o=some x
 | 0,run,hk,f,b,o,x,h=>by
  have:run=[]:=zWP (by omega)
  subst this;simpa [zEn] using h
 | k+1,run,hk,f,b,o,x,h=>by
  unfold zEn;by_cases hr:run=[]
  ·subst hr;simpa using h
  rw [if_neg hr];have hpos:0<run.length:=List.length_pos_iff.2 hr;generalize hn:min 128 run.length=n;have hn1:1<=n:=by omega
  have hn2:n<=128:=by omega
  have hn3:n<=run.length:=by omega
  have hc:(UInt8.ofNat (n-1)).toNat=n-1:=zE9 (by omega)
  have ht:(run.take n).length=n:=by rw [zWS];omega
  have ih:=zJK k (run.drop n) (by rw [zWT];omega) f b (o++run.take n) x (by rw [zWW,List.take_append_drop];exact h)
  obtain ⟨F,hF⟩:∃ F,f+run.length=F+1:=⟨f+run.length-1,by omega⟩
  rw [hF,zWd,zFA,if_pos (by rw [hc];omega),hc,show n-1+1=n by omega,if_neg (by simp only [zWL,ht];omega),zWW]
  rw [List.drop_left' ht,List.take_left' ht];refine zHQ _ _ _ _ _ ?_ ih;rw [zWT];omega
theorem zIX:∀ (n d:Nat) (o:Str),(zGe n d o).length=o.length+n
 | 0,_,_=>rfl
 | n+1,d,o=>by rw [zGe,zIX n d];simp;omega
theorem zJh (s:Str) (i d:Nat) (hd:1<=d) (hdi:d<=i):∀ (n k:Nat),i+k+n<=s.length->(∀ j,j<k+n->s[i+j]? =s[i-d+j]?)->zGe n d (s.take (i+k))=s.take (i+k+n)
 | 0,k,_,_=>rfl
 | n+1,k,hl,h=>by
  rw [zGe];have hlen:(s.take (i+k)).length=i+k:=by rw [zWS];omega
  have e:s.take (i+k)++[(s.take (i+k)).getD ((s.take (i+k)).length-d) 0]=s.take (i+(k+1)):=by
   have hk:=h k (by omega)
   rw [hlen,show i+(k+1)=i+k+1 by omega,List.take_add_one]
   congr 1
   rw [zWF,zWY,if_pos (by omega),show i+k-d=i-d+k by omega,<- hk,zWH (by omega)]
   rfl
  rw [e,zJh s i d hd hdi n (k+1) (by omega) (fun j hj=>h j (by omega)),show i+(k+1)+n=i+k+(n+1) by omega]
structure OkMt (s:Str) (i d l:Nat):Prop where
 l4:4<=l
 l67:l<=67
 il:i+l<=s.length
 d1:1<=d
 d255:d<=255
 di:d<=i
 eq:∀ j,j<l->s[i+j]? =s[i-d+j]?
theorem zO2 (s:Str) (i p lim:Nat):∀ (f n:Nat),n<=lim->(∀ j,j<n->s[i+j]? =s[p+j]?)->n<=extC s i p lim f n/\extC s i p lim f n<=lim/\∀ j,j<extC s i p lim f n->s[i+j]? =s[p+j]?
 | 0,n,h1,h2=>⟨zWN _,h1,h2⟩
 | f+1,n,h1,h2=>by
  unfold extC;split
  ·rename_i h;obtain ⟨q1,q2,q3⟩:=zO2 s i p lim f (n+1) (by omega) (fun j hj=>by
    by_cases e:j=n
    ·subst e;exact h.2
    exact h2 j (by omega))
   exact ⟨by omega,q2,q3⟩
  exact ⟨zWN _,h1,h2⟩
theorem grp_eq {s:Str} {i p:Nat} (h:grpB s p=grpB s i):∀ j,j<4->s[i+j]? =s[p+j]? :=by
 intro j hj
 have e:=congrArg (fun l:Str=>l[j]?) h
 simp only [grpB,zWY,zWf] at e;rw [if_pos hj,if_pos hj] at e;exact e.symm
theorem zMw {s:Str} {n p:Nat} {k:Str} (h:p∈zBT s n k):p<n/\n<=p+255/\p+4<=s.length/\grpB s p=k:=by
 simp only [zBT,List.mem_filter,List.mem_range'_1,zWJ,decide_eq_true_eq] at h;exact ⟨by omega,by omega,h.2.1,h.2.2⟩
theorem zOW (s:Str) (i:Nat) (hi:i+4<=s.length):∀ (l:List Nat) (b:Nat × Nat),(∀ p∈l,p∈zBT s i (grpB s i))->(b.2=0\/OkMt s i b.1 b.2)->(zEQ s i (limC s i) l b).2=0\/OkMt s i (zEQ s i (limC s i) l b).1 (zEQ s i (limC s i) l b).2
 | [],_,_,hb=>hb
 | p::r,b,hl,hb=>by
  unfold zEQ;split
  ·refine zOW s i hi r _ (fun q hq=>hl q (zWI _ hq)) ?_
   split
   ·rename_i h1 h2;obtain ⟨a1,a2,a3,a4⟩:=zMw (hl p (zWM ..));have hlim:4<=limC s i/\limC s i<=67/\limC s i<=s.length-i:=by unfold limC;omega
    obtain ⟨e1,e2,e3⟩:=zO2 s i p (limC s i) (limC s i) 4 hlim.1 (grp_eq a4);exact .inr ⟨e1,by omega,by omega,by simp only;omega,by simp only;omega,by simp only;omega,fun j hj=>by simp only;rw [show i-(i-p)+j=p+j by omega];exact e3 j hj⟩
   exact hb
  exact hb
theorem zIx (s:Str) (i:Nat):(zB2 s i).2=0\/OkMt s i (zB2 s i).1 (zB2 s i).2:=by
 unfold zB2;split
 ·rename_i h;exact zOW s i h _ _ (fun p hp=>List.mem_reverse.1 hp) (.inl rfl)
 exact .inl rfl
theorem zS3 (s:Str):∀ (f i st:Nat) (out:Str),i<=s.length->st<=i->s.length<=i+f->(∀ g b x,unpF g b (s.take st)=some x->∃ g',unpF g' (out++b) []=some x)->∃ g',unpF g' (zF3 s f i st out) []=some s:=by
 have fin:∀ (st:Nat) (out:Str),st<=s.length->(∀ g b x,unpF g b (s.take st)=some x->∃ g',unpF g' (out++b) []=some x)->∃ g',unpF g' (out++litC (s.drop st)) []=some s:=by
  intro st out hst ho
  refine ho (1+(s.drop st).length) _ s ?_;have:=zJK (s.drop st).length (s.drop st) (zWN _) 1 [] (s.take st) s (by rw [List.take_append_drop];rfl)
  rwa [zWh] at this
 intro f
 induction f with
 | zero =>
  intro i st out hi hst hf ho
  exact fin st out (by omega) ho
 | succ f ih =>
  intro i st out hi hst hf ho
  unfold zF3;split
  ·rename_i hlt;split
   ·exact ih (i+1) st out (by omega) (by omega) (by omega) ho
   rename_i hz;rcases zIx s i with h|h
   ·exact absurd h hz
   generalize (zB2 s i).2=l at *
   generalize (zB2 s i).1=d at *
   refine ih (i+l) (i+l) _ (by have:=h.il;omega) (zWN _) (by have:=h.l4;omega) ?_
   intro g b x hx
   have h1:=h.l4;have h2:=h.l67;have h3:=h.il;have h4:=h.d1;have h5:=h.d255;have h6:=h.di;have hc:(UInt8.ofNat (124+l)).toNat=124+l:=zE9 (by omega)
   have hd:(UInt8.ofNat d).toNat=d:=zE9 (by omega)
   have hcp:=zJh s i d h4 h6 l 0 (by omega) (fun j hj=>h.eq j (by omega))
   simp only [Nat.add_zero] at hcp;have e1:unpF (g+1) ([UInt8.ofNat (124+l),UInt8.ofNat d]++b) (s.take i)=some x:=by
    show unpF (g+1) (UInt8.ofNat (124+l)::UInt8.ofNat d::b) (s.take i)=some x
    rw [zFA,if_neg (by rw [hc];omega),if_pos (by rw [hc];omega)]
    simp only [hd,hc];rw [if_neg (by rw [zWS];omega),show 124+l-124=l by omega,hcp]
    exact hx
   have e2:=zJK ((s.take i).drop st).length ((s.take i).drop st) (zWN _) (g+1) ([UInt8.ofNat (124+l),UInt8.ofNat d]++b) (s.take st) x (by
    have e:s.take st++(s.take i).drop st=s.take i:=by
     rw [show s.take st=(s.take i).take st by rw [List.take_take];congr 1;omega,List.take_append_drop]
    rw [e];exact e1)
   obtain ⟨g',hg'⟩:=ho _ _ _ e2;refine ⟨g',?_⟩;rw [<- hg'];simp only [litC,zWW]
  exact fin st out (by omega) ho
theorem zQn (s:Str):∃ g,unpF g (zET s) []=some s :=
 zS3 s s.length 0 0 [] (Nat.zero_le _) (zWN _) (by omega) (fun g b x h=>⟨g,by simpa using h⟩)
theorem zQV (s:Str) (n:Nat) (k:Str):zBT s (n+1) k =
  if 255<=n/\n-255+4<=s.length/\grpB s (n-255)=k then (if n+4<=s.length/\grpB s n=k then zBT s n k++[n] else zBT s n k).tail
  else if n+4<=s.length/\grpB s n=k then zBT s n k++[n] else zBT s n k:=by
 have hq:∀ p,(decide (p+4<=s.length)&&decide (grpB s p=k))=decide (p+4<=s.length/\grpB s p=k):=fun p=>by simp
 simp only [zBT,hq];have hsn:(if n+4<=s.length/\grpB s n=k then (List.range' (n-255) (n-(n-255))).filter (fun p=>decide (p+4<=s.length/\grpB s p=k))++[n] else (List.range' (n-255) (n-(n-255))).filter (fun p=>decide (p+4<=s.length/\grpB s p=k)))
   = (List.range' (n-255) (n-(n-255)+1)).filter (fun p=>decide (p+4<=s.length/\grpB s p=k)):=by
  rw [List.range'_concat,List.filter_append,show n-255+1*(n-(n-255))=n by omega]
  split
  ·rename_i h;simp [h]
  rename_i h;simp only [List.filter_cons,List.filter_nil,h,decide_false,zWa,if_false,zWh]
 rw [hsn];by_cases h:255<=n
 ·rw [show n+1-255=n-255+1 by omega,show n+1-(n-255+1)=n-(n-255) by omega,List.range'_succ (s:=n-255),List.filter_cons]
  by_cases h2:n-255+4<=s.length/\grpB s (n-255)=k
  ·rw [if_pos ⟨h,h2⟩,if_pos (by simpa using h2),List.tail_cons]
  rw [if_neg (fun z=>h2 z.2),if_neg (by simpa using h2)]
 rw [if_neg (fun z=>h z.1),show n+1-255=n-255 by omega,show n+1-(n-255)=n-(n-255)+1 by omega]
theorem zD4 {t:Str} {i:Nat} (h:i<t.length):∃ b,t[i]? =some b/\t.drop i=b::t.drop (i+1):=⟨t[i],zWH h,zWo h⟩
end Go.Proofs.YthjpcmecgjfilaaGreat
end
