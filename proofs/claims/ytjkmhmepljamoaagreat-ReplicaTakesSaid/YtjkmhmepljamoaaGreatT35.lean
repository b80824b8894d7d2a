/- A part of the proof of ReplicaTakes. -/
import Derived.Test.YtjkmhmepljamoaaGreatT06
import Derived.Test.YtjkmhmepljamoaaGreatT07
import Derived.Test.YtjkmhmepljamoaaGreatT18
import Derived.Test.YtjkmhmepljamoaaGreatT33
import Derived.Test.YtjkmhmepljamoaaGreatT34
set_option linter.all false
set_option maxHeartbeats 16000000
set_option maxRecDepth 100000
section
namespace Go.Proofs.YtjkmhmepljamoaaGreat
open Go.Ab Go.RowKit Tryz
def stp(n:Int):Int:=min (max n 0) 64
def EB(r:RepD)(steps clock:Int):RepD:=if r.role=1/\8<=r.out.queue.length then r else DD r (stp steps) clock
theorem OkP.up{r:RepD}{k k':Nat}(h:OkP r k)(hk:k<=k'):OkP r k':=⟨h.c.up hk,h.p,h.pl,h.g,h.o,h.on,h.i,h.en,h.h⟩
theorem Uj(r:RepD)(steps clock:Int)(hl:LA r=true)(h:OkP r 400)(hc:W32 clock)(hq:r.rec_.queue.length<=400)(hg:r.gate.held.length<=30000)(ht:L64 r.out.tail):AC prog 7 [.st r.row,iv steps,uv clock] (.st (EB r steps clock).row):=by
 have hcl:=ED r (h.up (by omega));have hrl:=RZ r (stp steps) clock h hc hq hg ht;have hst:(if 64<if steps<0 then 0 else steps then 64 else if steps<0 then 0 else steps)=stp steps:=by unfold stp;(repeat' split)<;>omega
 have hlq:=Db r.out.queue;refine sX func7 ntmps7 ?_;refine cY (hcl) (kX2 @hst @hlq) ?_;intros;apply wr;have h8:(decide ((8:Int)<=r.out.queue.length))=decide (8<=r.out.queue.length):=by simp;omega
 by_cases h1:r.role=1
 ·refine EM @h1 ?_;refine DT @h1 @hlq ?_;intros;apply wr;refine AB rfl (fun hk=>?_) (fun hk=>?_)
  ·have hR:EB r steps clock=r:=by unfold EB;rw[if_pos (by rw[h8]at hk;simpa using hk)]
   refine au ?_;refine aw ?_;simp[hR]
  have hR:EB r steps clock=DD r (stp steps) clock:=by unfold EB;rw[if_neg (by rw[h8]at hk;simpa using hk)]
  refine au ?_;refine cX (hrl) ?_;refine aw ?_;simp[hR]
 have h3:r.role=3:=by unfold LA at hl;simp[h1]at hl;exact hl
 have hR:EB r steps clock=DD r (stp steps) clock:=by unfold EB;rw[if_neg (fun z=>h1 z.1)]
 refine B1 @h1 ?_;refine DT @h3 @hlq ?_;refine B1 @h1 ?_;refine cX (hrl) ?_;refine aw ?_;simp[hR]

theorem OJ(r:RecD)(e:EvD):(AZ r e).queue=r.queue:=by unfold AZ;split<;>rfl
theorem K3(r:RecD):(BM r).queue=r.queue:=by unfold BM;split;exact OJ _ _;rfl
theorem WY(r:RecD):(goR r).1.queue=r.queue:=by unfold goR I6;simp only;split<;>rfl
theorem Fh:∀(n:Nat)(r:RecD)(o:List OutD),(Dz n r o).1.queue=r.queue
 | 0,r,o=>rfl
 | n+1,r,o=>by
  unfold Dz;split
  ·exact K3 r
  rw[Fh n,WY,K3]
theorem Rz(r:RecD)(steps clock:Int)(h:r.queue=[]):(Dl r steps clock).1.queue=[]:=by
 unfold Dl;split
 ·rw[Fh];rfl
 exact h
theorem TM(g:GateD)(o:OutD):(DX g o).held.length<=g.held.length+1:=by
 unfold DX
 (repeat' split)<;>simp
theorem M7:∀(l:List OutD)(g:GateD),(l.foldl DX g).held.length<=g.held.length+l.length
 | [],g=>by simp
 | o::l,g=>by
  have h1:=TM g o;have h2:=M7 l (DX g o);simp only[List.foldl_cons,fR];omega
theorem IJ(g:GateD)(l:List OutD):(GH g l).1.held.length<=g.held.length+l.length:=by
 unfold GH;split
 ·exact M7 l g
 simp
structure OkL(r:RepD)(i:Nat):Prop where
 role:r.role=1
 host:r.host=0
 gen:r.gen=1
 m:OkM r.rec_.m
 c:W32 r.rec_.clock
 l:r.rec_.log=[]
 q:r.rec_.queue=[]
 p:OkM r.rpl.m
 pl:r.rpl.log=[]
 g:r.gate.held.length<=64*i
 o:∀g∈r.out.queue,OkG g
 on:r.out.queue.length<=i
 t:L64 r.out.tail
 e:r.inn.early=[]
 h:r.hist.length<=128*i
theorem OkL.okP{r:RepD}{i:Nat}(h:OkL r i)(hi:i<=100):OkP r 400:=by
 refine⟨⟨h.m,h.c,by rw[h.l];simp,by rw[h.q];simp,by rw[h.q];simp,by rw[h.l];simp⟩,h.p,by rw[h.pl];simp,by have:=h.g;omega,h.o,by have:=h.on;omega,by rw[h.e];simp,by rw[h.e];simp,by have:=h.h;omega⟩
theorem OkL.run{r:RepD}{i:Nat}(h:OkL r i)(steps:Int){clock:Int}(hc:W32 clock):OkL (EB r steps clock) (i+1):=by
 unfold EB;split
 ·exact⟨h.role,h.host,h.gen,h.m,h.c,h.l,h.q,h.p,h.pl,by have:=h.g;omega,h.o,by have:=h.on;omega,h.t,h.e,by have:=h.h;omega⟩
 rename_i hne;have hst:0<=stp steps/\stp steps<=64:=by unfold stp;omega
 have hlim:DY (stp steps)<=64:=by unfold DY;omega
 have hR:OkR r.rec_ 0:=⟨h.m,h.c,by rw[h.l];simp,by rw[h.q];simp,by rw[h.q];simp,by rw[h.l];simp⟩;have hA:=hR.adv (stp steps) hc;have hQ:=Rz r.rec_ (stp steps) clock h.q;have hO:=FZ r.rec_ (stp steps) clock;rw[h.q]at hA;simp only[List.length_nil]at hA;unfold DD;generalize Dl r.rec_ (stp steps) clock=A at hA hQ hO;obtain⟨a,o⟩:=A;simp only at hA hQ hO ⊢;have hal:=hA.l;have hH:=IJ r.gate o;unfold Ro Rt;simp only;have hcnt:=Cj hA.m;have hpush:∀s:SndD,s=(Cx r.out ⟨r.out.tail,a.m.count,a.log⟩).1->(∀g∈s.queue,OkG g)/\s.queue.length<=i+1/\L64 s.tail:=by
  intro s hs;have h0:(∀g∈r.out.queue,OkG g)/\r.out.queue.length<=i+1/\L64 r.out.tail:=⟨h.o,by have:=h.on;omega,h.t⟩;unfold Cx at hs
  (repeat' split at hs)
  ·subst hs;exact h0
  ·subst hs;exact h0
  ·subst hs;exact h0
  subst hs;refine⟨fun g hg=>?_,?_,hcnt⟩
  ·rcases List.mem_append.1 hg with q|q
   ·exact h.o g q
   simp at q;subst q;exact⟨h.t,hcnt,hA.t,by simp only;omega⟩
  simp only[eX,fR,List.length_nil];have:=h.on;omega
 have hout:∀s:SndD,s=(if r.role=1/\(a.log≠[]\/a.m.count≠r.out.tail)then(Cx r.out ⟨r.out.tail,a.m.count,a.log⟩).1 else r.out)->(∀g∈s.queue,OkG g)/\s.queue.length<=i+1/\L64 s.tail:=by
  intro s hs;split at hs
  ·exact hpush s hs
  subst hs;exact⟨h.o,by have:=h.on;omega,h.t⟩
 obtain⟨q1,q2,q3⟩:=hout _ rfl;refine⟨h.role,h.host,h.gen,hA.m,hA.c,rfl,hQ,h.p,h.pl,?_,q1,q2,q3,h.e,?_⟩
 ·simp only;have:=h.g;omega
 simp only[eX];have:=h.h;omega
theorem VX:OkM V4:=by
 refine⟨⟨fun i=>⟨by simp,by simp⟩,⟨by simp,by simp⟩,fun i=>⟨by simp,by simp⟩,by simp⟩,by intro w hw;simp at hw,by simp,by simp,⟨by simp,by simp⟩,?_,?_,⟨by simp,by simp⟩,⟨by simp,by simp⟩,by simp⟩
 ·constructor<;>(constructor<;>simp)
 constructor<;>(constructor<;>simp)
theorem ZO:OkR zRec 0:=⟨VX,BD,by simp,by simp,by simp,by simp⟩
theorem rm1_ok(r:RepD)(hro:r.role=1)(hm:r.rec_.m.mem.length<=100000):AC prog 15 [.st r.row] (.st r.rec_.m.row):=by
 refine sZ func15 ntmps15 ?_;exact wx1 (qX1 (GV r.rec_.m hm)) trivial @hro
theorem rm2_ok(r:RepD)(hro:r.role=2)(hm:r.rpl.m.mem.length<=100000):AC prog 15 [.st r.row] (.st r.rpl.m.row):=by
 refine sZ func15 ntmps15 ?_;exact wx1 (qX1 (GV r.rpl.m hm)) trivial @hro
abbrev dskO(x:OutD):Prop:=x.kind=3\/x.kind=4
theorem req_at(d:DskD)(t:Int):dskO (BK d t).1->(BK d t).1.at_=t:=by
 unfold BK dskO
 (repeat' split)<;>simp
theorem W9(d:DskD)(l:List Int)(c t:Int):∀x∈(Ap d l c t).2,dskO x->x.at_=t:=by
 unfold Ap;split
 ·simp
 split
 ·simp
 intro x hx;rw[List.mem_singleton.1 hx];exact req_at _ _
theorem Wb(d:DskD)(l:List Int){c:Int}(hc:c=1\/c=2)(t:Int):(Ap d l c t).1.state=1->d.state=1\/∃x∈(Ap d l c t).2,dskO x:=by
 unfold Ap;split
 ·intro h;exact .inl h
 split
 ·intro h;simp at h
 intro _;refine .inr ⟨_,List.mem_singleton.2 rfl,?_⟩;unfold BK dskO;rcases hc with rfl|rfl<;>simp
theorem dsk_at(d:DskD)(l:List Int)(p v t:Int):∀x∈(Am d l p v t).2,dskO x->x.at_=t:=by
 unfold Am
 (repeat' split)<;>first|exact W9 _ _ _ _|simp
theorem dsk_st(d:DskD)(l:List Int)(p v t:Int):(Am d l p v t).1.state=1->d.state=1\/∃x∈(Am d l p v t).2,dskO x:=by
 unfold Am
 (repeat' split)<;>first|(rename_i q;exact Wb _ _ q _)|(intro h;exact .inl h)|(intro h;simp at h)
theorem nic_at(n:NicD)(l:List Int)(p v t:Int):∀x∈(Ag n l p v t).2,¬dskO x:=by
 unfold Ag dskO
 (repeat' split)<;>first|simp|(simp only[];split<;>simp)
theorem YM(m:MchD)(p v t:Int):∀x∈(AH m p v t).2,dskO x->x.at_=t:=by
 unfold AH
 (repeat' split)<;>first|exact dsk_at _ _ _ _ _|(intro x hx q;exact absurd q (nic_at _ _ _ _ _ x hx))|simp
theorem YO(m:MchD)(p v t:Int):(AH m p v t).1.dk.state=1->m.dk.state=1\/∃x∈(AH m p v t).2,dskO x:=by
 unfold AH
 (repeat' split)<;>first|exact dsk_st _ _ _ _ _|(intro h;exact .inl h)
theorem cF(m:MchD)(p k:Int):(AQ m p k).1.dk=m.dk:=by
 unfold AQ
 (repeat' split)<;>rfl
theorem Zl(m:MchD)(e:EffD)(k t:Int):∀x∈(Bl m e k t).2,dskO x->x.at_=t:=by
 unfold Bl
 (repeat' split)<;>first|exact YM _ _ _ _|simp
theorem Zm(m:MchD)(e:EffD)(k t:Int):(Bl m e k t).1.dk.state=1->m.dk.state=1\/∃x∈(Bl m e k t).2,dskO x:=by
 unfold Bl;split
 ·intro h;simp only[cF]at h;exact .inl h
 (repeat' split)<;>first|exact YO _ _ _ _|(intro h;exact .inl h)
theorem V8(m:MchD):(Cu m).dk=m.dk:=by
 show(AL m).dk=m.dk;unfold AL
 (repeat' split)<;>rfl
theorem dS(m:MchD)(k:Int):∀x∈(stepD m k).2,dskO x->x.at_=m.count:=by
 unfold stepD;split
 ·exact Zl _ _ _ _
 simp
theorem dT(m:MchD)(k:Int):(stepD m k).1.dk.state=1->m.dk.state=1\/∃x∈(stepD m k).2,dskO x:=by
 unfold stepD;split
 ·intro h;rw[<- V8 m];exact Zm _ _ _ _ h
 intro h;exact .inl h
theorem IY(m:MchD)(k:Int):(stepD m k).1.count=if runsD m=true then m.count+1 else m.count:=by
 unfold stepD;split
 ·show(Bl _ _ _ _).1.count+1=_;rw[F4,Ea]
 rfl
theorem Vm(m:MchD)(e:EvD)(h:e.kind=6\/e.kind=2):(applyD m e).1.dk=m.dk:=by
 unfold applyD
 (repeat' split)<;>first|rfl|(exfalso;omega)
theorem F2(m:MchD)(e:EvD)(h:m.halted=true):applyD m e=(m,false):=by
 unfold applyD;rw[if_pos (.inr h)]
structure Lg(f c:Int)(l:List EntD):Prop where
 a:∀e∈l,f<=e.at_/\e.at_<=c/\evVal e.ev=true
 o:ordD l=true
 t:∀e,l.getLast? =some e->e.ev.kind=1->e.at_<c
theorem Pi:∀(l:List EntD)(e:EntD),ordD l=true->(∀a,l.getLast? =some a->a.at_<=e.at_/\(a.ev.kind=1->a.at_<e.at_))->ordD (l++[e])=true
 | [],e,_,_=>rfl
 | [a],e,_,h=>by
  obtain⟨h1,h2⟩:=h a rfl;have q:¬(e.at_<a.at_\/(e.at_=a.at_/\a.ev.kind=1)):=by
   rintro(q|⟨q,z⟩)
   ·omega
   have:=h2 z;omega
  simp only[fW,f9,ordD,Bool.and_true,gC,Bool.or_eq_false_iff,Bool.and_eq_false_iff,decide_eq_false_iff_not];refine⟨fun z=>q (.inl z),?_⟩;by_cases z:a.ev.kind=1
  ·exact .inl (fun y=>q (.inr ⟨y,z⟩))
  exact .inr z
 | a::b::r,e,ho,h=>by
  rw[ordD,eU]at ho;rw[fW,fW,ordD,eU];exact⟨ho.1,Pi (b::r) e ho.2 (fun x hx=>h x (by rw[List.getLast?_cons_cons];exact hx))⟩
theorem Lg.up{f c c':Int}{l:List EntD}(h:Lg f c l)(hc:c<=c'):Lg f c' l :=
 ⟨fun e he=>by have:=h.a e he;exact⟨this.1,by omega,this.2.2⟩,h.o,fun e he hk=>by have:=h.t e he hk;omega⟩
theorem Lg.add{f c c':Int}{l:List EntD}(h:Lg f c l)(e:EvD)(hf:f<=c)(hv:evVal e=true)(hc:c<=c')(hk:e.kind=1->c<c'):Lg f c' (l++[⟨c,e⟩]):=by
 refine⟨fun x hx=>?_,Pi l _ h.o (fun a ha=>?_),fun x hx hk'=>?_⟩
 ·rcases List.mem_append.1 hx with q|q
  ·have:=h.a x q;exact⟨this.1,by omega,this.2.2⟩
  rw[List.mem_singleton.1 q];exact⟨hf,hc,hv⟩
 ·exact⟨(h.a a (List.mem_of_getLast? ha)).2.1,h.t a ha⟩
 rw[List.getLast?_append]at hx;simp at hx;subst hx;exact hk hk'
structure RunI(b f:Int)(s:Prop)(r:RecD)(o:List OutD):Prop where
 m:mayD r.m=true
 lg:Lg f r.m.count r.log
 fc:f<=r.m.count
 bc:b<=r.m.count
 dk:r.m.dk.state=1->s\/∃x∈o,dskO x
 ot:∀x∈o,dskO x->b<=x.at_
theorem RunI.offer{b f:Int}{s:Prop}{r:RecD}{o:List OutD}(h:RunI b f s r o)(hM:OkM r.m){e:EvD}(hv:evVal e=true)(hk:e.kind=6\/e.kind=2)(hn:W32 e.n):RunI b f s (AZ r e) o:=by
 have hc:=(DU hM hn).2;unfold AZ;split
 ·refine⟨CO hM h.m e,?_,?_,?_,?_,h.ot⟩
  ·show Lg f (applyD r.m e).1.count _;rw[hc];exact h.lg.add e h.fc hv (by omega) (fun z=>by omega)
  ·show f<=(applyD r.m e).1.count;rw[hc];exact h.fc
  ·show b<=(applyD r.m e).1.count;rw[hc];exact h.bc
  show(applyD r.m e).1.dk.state=1->_;rw[Vm r.m e hk];exact h.dk
 exact h
theorem RunI.tick{b f:Int}{s:Prop}{r:RecD}{o:List OutD}(h:RunI b f s r o)(hM:OkM r.m):RunI b f s (BM r) o:=by
 unfold BM;split
 ·exact h.offer hM (by rfl) (.inr rfl) BD
 exact h
theorem KT{m:MchD}(h:readsD m=true):runsD m=true:=by
 unfold readsD at h;simp only[eU]at h;exact h.1
theorem RunI.go{b f:Int}{s:Prop}{r:RecD}{o:List OutD}(h:RunI b f s r o)(hM:OkM r.m):RunI b f s (goR r).1 (o++(goR r).2):=by
 have hcnt:=IY r.m r.clock;have hle:r.m.count<=(stepD r.m r.clock).1.count:=by rw[hcnt];split<;>omega
 refine⟨Gm hM h.m _,?_,Int.le_trans h.fc hle,Int.le_trans h.bc hle,fun q=>?_,fun x hx q=>?_⟩
 ·show Lg f (stepD r.m r.clock).1.count (I6 r).log;unfold I6;split
  ·rename_i z;rw[if_pos (KT z)]at hcnt;exact h.lg.add ⟨1,r.clock,[]⟩ h.fc (by rfl) hle (fun _=>by omega)
  exact h.lg.up hle
 ·rcases dT r.m r.clock q with z|⟨x,hx,z⟩
  ·rcases h.dk z with y|⟨x,hx,y⟩
   ·exact .inl y
   exact .inr ⟨x,List.mem_append_left _ hx,y⟩
  exact .inr ⟨x,List.mem_append_right _ hx,z⟩
 rcases List.mem_append.1 hx with z|z
 ·exact h.ot x z q
 rw[dS r.m r.clock x z q];exact h.bc
theorem RunI.run:∀(n:Nat){b f:Int}{s:Prop}{r:RecD}{k:Nat}{o:List OutD},RunI b f s r o->OkR r k->RunI b f s (Dz n r o).1 (Dz n r o).2
 | 0,_,_,_,_,_,_,h,_=>h
 | n+1,b,f,s,r,k,o,h,hR=>by
  obtain⟨h1,-⟩:=hR.tick;have h2:=h.tick hR.m;unfold Dz;split
  ·exact h2
  exact RunI.run n (h2.go h1.m) h1.go
theorem VC{r:RecD}(h:r.m.halted=true):BM r=r:=by
 unfold BM AZ;split
 ·rw[F2 _ _ h];rfl
 rfl
theorem run_halt:∀(n:Nat){r:RecD}{o:List OutD},r.m.halted=true->(Dz n r o).1.m.halted=true
 | 0,_,_,h=>h
 | n+1,r,o,h=>by
  unfold Dz;rw[VC h,if_pos (by unfold Em;rw[h];rfl)];exact h
theorem Tp(r:RecD)(e:EvD):r.log.length<=(AZ r e).log.length:=by
 unfold AZ;split<;>simp
theorem QV(r:RecD):r.log.length<=(BM r).log.length:=by
 unfold BM;split
 ·exact Tp _ _
 exact fA _
theorem go_log(r:RecD):r.log.length<=(goR r).1.log.length:=by
 show _<=(I6 r).log.length;unfold I6;split<;>simp
theorem Uk:∀(n:Nat)(r:RecD)(o:List OutD),r.log.length<=(Dz n r o).1.log.length
 | 0,_,_=>fA _
 | n+1,r,o=>by
  unfold Dz;split
  ·exact QV r
  exact f8 (QV r) (f8 (go_log _) (Uk n _ _))
theorem ZS{r:RecD}{n b:Int}(hR:OkR r 0)(hm:mayD r.m=true)(hl:r.log=[])(hq:r.queue=[⟨6,n,[]⟩])(hn:W32 n){clock:Int}(hc:W32 clock)(hb:b<=r.m.count)(steps:Int):
  RunI b r.m.count (r.m.dk.state=1) (Dl r steps clock).1 (Dl r steps clock).2/\(Dl r steps clock).1.queue=[]/\((Dl r steps clock).1.log≠[]\/(Dl r steps clock).1.m.halted=true):=by
 have hA:Dl r steps clock=Dz (DY steps) (Cb r clock) []:=by unfold Dl;rw[if_pos hm]
 rw[hA];have hQ:=hR.queue hc;have hq0:Cb r clock={AZ {r with clock:=max r.clock clock} ⟨6,n,[]⟩with queue:=[]}:=by unfold Cb;rw[hq];rfl
 have i0:RunI b r.m.count (r.m.dk.state=1) {r with clock:=max r.clock clock} []:=⟨hm,⟨by show ∀e∈r.log,_;rw[hl];simp,by show ordD r.log=true;rw[hl];rfl,by show ∀e,r.log.getLast? =some e->_;rw[hl];simp⟩,Int.le_refl _,hb,fun z=>.inl z,by simp⟩;have i1:=i0.offer hR.m (e:=⟨6,n,[]⟩) (by rfl) (.inl rfl) hn;have i2:RunI b r.m.count (r.m.dk.state=1) (Cb r clock) []:=by rw[hq0];exact⟨i1.m,i1.lg,i1.fc,i1.bc,i1.dk,i1.ot⟩
 refine⟨RunI.run _ i2 hQ,by rw[Fh];rfl,?_⟩;cases hh:r.m.halted with
 | true =>
  refine .inr (run_halt _ ?_);rw[hq0];show(AZ _ _).m.halted=true;unfold AZ;rw[F2 _ _ (by exact hh)];exact hh
 | false =>
  refine .inl (fun z=>?_);have h1:=Uk (DY steps) (Cb r clock) [];rw[z]at h1;have h2:(Cb r clock).log=[⟨r.m.count,⟨6,n,[]⟩⟩]:=by
   rw[hq0];show(AZ _ _).log=_;unfold AZ applyD;simp[hm,hh,hl]
  rw[h2]at h1;simp at h1
theorem ML:∀(l:List EntD)(f:Int),(∀e∈l,evVal e.ev=true)->(Dn f l).length<=211*l.length
 | [],_,_=>by simp[Dn]
 | e::l,f,h=>by
  have h1:=Aj (e.at_-f);have h2:=MM (h e (fB ..));have h3:=ML l e.at_ (fun x hx=>h x (eW _ hx));simp only[Dn,eX,fR];omega
theorem ZG{f c:Int}{l:List EntD}(h:Lg f c l)(hf:f<=c)(hn:l.length<=200):(Af ⟨f,c,l⟩).2=0:=by
 have hb:DV l c=false:=by
  unfold DV;rw[List.any_eq_false];intro e he;have:=h.a e he;simp;omega
 have hE:Dt l f=0:=by
  have ha:l.all (fun e=>evVal e.ev)=true:=List.all_eq_true.2 (fun e he=>(h.a e he).2.2);have hfo:firstOk f l=true:=by
   cases l with
   | nil=>rfl
   | cons e r=>have:=(h.a e (fB ..)).1;simpa[firstOk]using this
  rw[KI (by omega) ha (by rw[h.o,hfo];simp)];have h1:=ML l f (fun e he=>(h.a e he).2.2);have h2:=Aj (l.length:Int);rw[if_neg (by rw[eX];omega)]
 unfold Af;rw[if_neg (by rw[hb];simp;omega)];unfold Lh;rw[if_pos hE]
theorem HC:∀(q:List SegD)(b:Int)(g:SegD),chainOk b q=true->g.from_=lastAt b q->(Af g).2=0->chainOk b (q++[g])=true/\lastAt b (q++[g])=g.known
 | [],b,g,_,h,hs=>by
  simp only[lastAt]at h;simp[chainOk,lastAt,segOk,h,hs]
 | x::q,b,g,hc,h,hs=>by
  rw[chainOk,eU]at hc;rw[lastAt]at h;obtain⟨a1,a2⟩:=HC q x.known g hc.2 h hs;rw[fW,chainOk,lastAt,a1,Bool.and_true];exact⟨hc.1,a2⟩
theorem M6:∀(l:List OutD)(g:GateD),(l.foldl DX g).acked=g.acked
 | [],_=>rfl
 | o::l,g=>by
  rw[List.foldl_cons,M6 l];unfold DX
  (repeat' split)<;>rfl
theorem PV(g:GateD)(l:List OutD):(GH g l).1.acked=g.acked:=by
 unfold GH;split
 ·exact M6 l g
 rfl
theorem S4{b:Int}:∀(l:List OutD)(c:Int×Int),(∀x∈l,dskO x->b<=x.at_)->(b<=c.2\/∃x∈l,dskO x)->b<=(WH c l).2
 | [],c,_,h=>by
  rcases h with h|⟨x,hx,-⟩
  ·exact h
  cases hx
 | o::l,c,ha,h=>by
  show b<=(WH (Y1 c o) l).2;refine S4 l _ (fun x hx=>ha x (eW _ hx)) ?_;unfold Y1;split
  ·rename_i z;exact .inl (ha o (fB ..) z)
  rename_i z;rcases h with h|⟨x,hx,hd⟩
  ·exact .inl h
  rcases List.mem_cons.1 hx with q|q
  ·subst q;exact absurd hd z
  exact .inr ⟨x,q,hd⟩
abbrev balE(n:Int):EvD:=⟨6,n,[]⟩
structure OkY(r:RepD)(i:Nat)(b:Int):Prop where
 l:OkL r i
 m:mayD r.rec_.m=true
 bs:r.out.base=1
 kn:r.out.known=b
 ch:chainOk b r.out.queue=true
 ta:r.out.tail=lastAt b r.out.queue
 tc:r.out.tail=r.rec_.m.count
 bc:b<=r.rec_.m.count
 ak:r.gate.acked=b
 dk:r.rec_.m.dk.state=1->b<=r.cmdAt
 qn:r.out.queue.length=i\/r.rec_.m.halted=true
theorem OkY.snd{r:RepD}{i:Nat}{b:Int}(h:OkY r i b)(hi:i<=8):CM r.out=true:=by
 have hon:=h.l.on;have ht:=h.ta;have hc:=h.ch;have hk:=h.kn;have h0:¬(r.out.base<1\/4611686018427387904<r.out.base\/8<r.out.queue.length):=by rw[h.bs];omega
 unfold CM;rw[if_neg h0];cases hq:r.out.queue with
 | nil =>
  rw[hq]at ht;simp only[lastAt]at ht;simp only[decide_eq_true_eq];omega
 | cons g q =>
  rw[hq]at hc ht;have hc2:=hc;rw[chainOk]at hc2;simp only[eU,decide_eq_true_eq]at hc2;rw[<- hc2.1.1]at hc ht hk;simp only[hc,ht,hk,Int.le_refl,decide_true,Bool.and_self]
theorem OkY.round{r:RepD}{i:Nat}{b:Int}(h:OkY r i b)(hi:i<8){n:Int}(hn:W32 n):OkY (EB {r with rec_:={r.rec_ with queue:=[balE n]}} 5 0) (i+1) b:=by
 have hl:=h.l;have hon:=hl.on;have hne:¬(r.role=1/\8<=r.out.queue.length):=by omega
 have hR:OkR {r.rec_ with queue:=[balE n]} 0:=⟨hl.m,hl.c,by show r.rec_.log.length<=0;rw[hl.l];simp,by simp,fun e he=>by rw[List.mem_singleton.1 he];exact⟨hn,by simp⟩,by show ∀e∈r.rec_.log,_;rw[hl.l];simp⟩;have hA:=hR.adv 5 BD;have hO:=FZ {r.rec_ with queue:=[balE n]} 5 0;obtain⟨hI,hQ,hG⟩:=ZS hR h.m hl.l rfl hn BD h.bc 5;have hh:r.rec_.m.halted=true->(Dl {r.rec_ with queue:=[balE n]} 5 0).1.m.halted=true:=fun z=>by
  unfold Dl;rw[if_pos h.m];refine run_halt _ ?_;show(AZ _ _).m.halted=true;unfold AZ;rw[F2 _ _ (by exact z)];exact z
 unfold EB;rw[if_neg hne];rw[show stp 5=5 by decide];unfold DD;simp only;generalize Dl {r.rec_ with queue:=[balE n]} 5 0=A at *;obtain⟨a,o⟩:=A;simp only at hA hO hI hQ hG hh ⊢;rw[show DY 5=5 by decide]at hA hO;have hal:=hA.l;simp only[fR,List.length_nil]at hal;have hcnt:=Cj hA.m;have hlg:=hI.lg;have hfc:=hI.fc;rw[show({r.rec_ with queue:=[balE n]}:RecD).m.count=r.out.tail from h.tc.symm]at hlg hfc;have hsg:=ZG hlg hfc (by omega);have hsO:=h.snd (by omega);obtain⟨s1,s2⟩:=HC r.out.queue b ⟨r.out.tail,a.m.count,a.log⟩ h.ch h.ta hsg;have hp:Cx r.out ⟨r.out.tail,a.m.count,a.log⟩=({r.out with queue:=r.out.queue++[⟨r.out.tail,a.m.count,a.log⟩],tail:=a.m.count},0):=by
  unfold Cx;rw[if_neg (by rw[hsO];simp),if_neg (by rw[hsg];simp),if_neg (by omega)]
 have hH:=IJ r.gate o;have hK:=PV r.gate o;unfold Ro Rt segA;simp only[hl.role,true_and];rw[hp];have hout:∀s:SndD,s=(if a.log≠[]\/a.m.count≠r.out.tail then {r.out with queue:=r.out.queue++[⟨r.out.tail,a.m.count,a.log⟩],tail:=a.m.count}else r.out) ->
   (∀g∈s.queue,OkG g)/\s.queue.length<=i+1/\s.tail=a.m.count/\s.base=1/\s.known=b/\chainOk b s.queue=true/\s.tail=lastAt b s.queue/\(s.queue.length=i+1\/a.m.halted=true):=by
  intro s hs;split at hs
  ·subst hs;refine⟨fun g hg=>?_,by simp;omega,rfl,h.bs,h.kn,s1,s2.symm,?_⟩
   ·rcases List.mem_append.1 hg with q|q
    ·exact hl.o g q
    rw[List.mem_singleton.1 q];exact⟨hl.t,hcnt,hA.t,by simp only;omega⟩
   rcases h.qn with q|q
   ·exact .inl (by simp[q])
   exact .inr (hh q)
  rename_i z;subst hs;refine⟨hl.o,by omega,?_,h.bs,h.kn,h.ch,h.ta,?_⟩
  ·by_cases q:a.m.count=r.out.tail
   ·exact q.symm
   exact absurd (.inr q) z
  rcases hG with q|q
  ·exact absurd (.inl q) z
  exact .inr q
 obtain⟨q1,q2,q3,q4,q5,q6,q7,q8⟩:=hout _ rfl;refine⟨⟨rfl,hl.host,hl.gen,hA.m,hA.c,rfl,hQ,hl.p,hl.pl,?_,q1,q2,by rw[q3];exact hcnt,hl.e,?_⟩,hI.m,q4,q5,q6,q7,q3,hI.bc,by rw[hK];exact h.ak,fun z=>?_,q8⟩
 ·try simp only
  have:=hl.g;omega
 ·simp only[eX];have:=hl.h;omega
 refine S4 o _ hI.ot ?_;rcases hI.dk z with y|y
 ·exact .inl (h.dk y)
 exact .inr y
theorem YZ(xs:List (List V))(hb:xs.length<=100000):AC prog 83 [.sl 1 false xs] (.new 9 1 xs):=by
 refine sX func83 ntmps83 ?_;intros;apply wr;refine⟨?_,fun hx=>?_⟩
 ·refine au ?_;intros;apply wr;refine cF0 rfl ?_;refine J4 @maxLen.eq_1 ?_;refine ar ?_;simp
 subst hx;refine au ?_;refine CU ?_;intros;apply wr;refine AU 2 9 1 (by decide) rfl ?_;refine ar ?_;simp
theorem Ia(bs:List (List UInt8))(g o:Int)(hb:bs.length<=100000):AC prog 36 [.st [.sl 1 false (strs bs),lv g,iv o]] (.st [.sl 1 false (strs bs),lv g,iv o]):=by
 refine sZ func36 ntmps36 ?_;exact wx (qX1 (YZ (strs bs) (by rw[Cd];exact hb))) trivial
theorem NH{bs:List (List UInt8)}{i:Nat}{s:List UInt8}(h:bs[i]? =some s):(strs bs)[i]? =some [.str s]:=by simp[strs,h]
def GF(r:RepD)(steps:Int):RepD:={r with rpl:=(Cg r.rpl steps).1,gate:=(Pu (GH r.gate (Cg r.rpl steps).2).1 r.mark).1}
theorem TF(r:RepD)(steps:Int)(hJ:OkJ r.rpl)(hl:r.rpl.log.length<=50000)(hd:∀e∈r.rpl.log,e.ev.data.length<=100000)(hg:r.gate.held.length<=20000)(ho:(Cg r.rpl steps).2.length<=4000):AC prog 28 [.st r.row,iv steps] (.st (GF r steps).row):=by
 have ha:=XL r.rpl steps hJ hl hd;unfold GF;generalize Cg r.rpl steps=A at *;have hh:=TN r.gate A.2 (by omega) (by omega);have hgl:=IJ r.gate A.2;generalize GH r.gate A.2=H at *;have hr:=KW H.1 r.mark (by omega);generalize Pu H.1 r.mark=R at *;refine sZ func28 ntmps28 ?_;exact wx (qX3 (ha) (hh) (hr)) trivial
theorem cR(r:RepD)(steps clock:Int)(h:OkP r 40000)(hro:r.role=2)(hJ:OkJ r.rpl)(hl:r.rpl.log.length<=50000)(hd:∀e∈r.rpl.log,e.ev.data.length<=100000)(hg:r.gate.held.length<=20000)(ho:(Cg r.rpl (stp steps)).2.length<=4000):AC prog 7 [.st r.row,iv steps,uv clock] (.st (GF r (stp steps)).row):=by
 have hc:=ED r h;have hf:=TF r (stp steps) hJ hl hd hg ho;have hst:(if 64<if steps<0 then 0 else steps then 64 else if steps<0 then 0 else steps)=stp steps:=by unfold stp;(repeat' split)<;>omega
 have hlq:=Db r.out.queue;refine sX func7 ntmps7 ?_;refine cY (hc) (kX2 @hst @hlq) ?_;refine EL @hro (kX2 @hst @hlq) ?_;refine EL @hro (kX2 @hst @hlq) ?_;refine DT @hro (kX2 @hst @hlq) ?_;refine cc1 (hf) @hst ?_;refine au ?_;refine aw ?_;simp
end Go.Proofs.YtjkmhmepljamoaaGreat
end
