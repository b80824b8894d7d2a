/- A part of the proof of ReplicaDisk. -/
import Derived.Test.YtjkmhmepljamoaaGreatK05
import Derived.Test.YtjkmhmepljamoaaGreatK06
import Derived.Test.YtjkmhmepljamoaaGreatK14
import Derived.Test.YtjkmhmepljamoaaGreatK28
import Derived.Test.YtjkmhmepljamoaaGreatK29
set_option linter.all false
set_option maxHeartbeats 16000000
set_option maxRecDepth 100000
section
namespace Go.Proofs.YtjkmhmepljamoaaGreat
open Go.Ab Go.RowKit Tryz
def stp(n:Int):Int:=min (max n 0) 64
def FW(r:RepD)(steps clock:Int):RepD:=if r.role=1/\8<=r.out.queue.length then r else Dd r (stp steps) clock
theorem OkP.up{r:RepD}{k k':Nat}(h:OkP r k)(hk:k<=k'):OkP r k':=⟨h.c.up hk,h.p,h.pl,h.g,h.o,h.on,h.i,h.en,h.h⟩
theorem VC(r:RepD)(steps clock:Int)(hl:GF r=true)(h:OkP r 400)(hc:W32 clock)(hq:r.rec_.queue.length<=400)(hg:r.gate.held.length<=30000)(ht:L64 r.out.tail):AC prog 7 [.st r.row,iv steps,uv clock] (.st (FW r steps clock).row):=by
 have hcl:=C2 r (h.up (by omega));have hrl:=Rx r (stp steps) clock h hc hq hg ht;have hst:(if 64<if steps<0 then 0 else steps then 64 else if steps<0 then 0 else steps)=stp steps:=by unfold stp;(repeat' split)<;>omega
 have hlq:=Df r.out.queue;refine sX func7 ntmps7 ?_;refine cY (hcl) (kX2 @hst @hlq) ?_;intros;apply wr;have h8:(decide ((8:Int)<=r.out.queue.length))=decide (8<=r.out.queue.length):=by simp;omega
 by_cases h1:r.role=1
 ·refine ED @h1 ?_;refine DI @h1 @hlq ?_;intros;apply wr;refine AB rfl (fun hk=>?_) (fun hk=>?_)
  ·have hR:FW r steps clock=r:=by unfold FW;rw[if_pos (by rw[h8]at hk;simpa using hk)]
   refine au ?_;refine aw ?_;simp[hR]
  have hR:FW r steps clock=Dd r (stp steps) clock:=by unfold FW;rw[if_neg (by rw[h8]at hk;simpa using hk)]
  refine au ?_;refine cX (hrl) ?_;refine aw ?_;simp[hR]
 have h3:r.role=3:=by unfold GF at hl;simp[h1]at hl;exact hl
 have hR:FW r steps clock=Dd r (stp steps) clock:=by unfold FW;rw[if_neg (fun z=>h1 z.1)]
 refine BU @h1 ?_;refine DI @h3 @hlq ?_;refine BU @h1 ?_;refine cX (hrl) ?_;refine aw ?_;simp[hR]

theorem OZ(r:RecD)(e:EvD):(AW r e).queue=r.queue:=by unfold AW;split<;>rfl
theorem Kk(r:RecD):(BF r).queue=r.queue:=by unfold BF;split;exact OZ _ _;rfl
theorem Wm(r:RecD):(goR r).1.queue=r.queue:=by unfold goR Ir;simp only;split<;>rfl
theorem Ft:∀(n:Nat)(r:RecD)(o:List OutD),(DW n r o).1.queue=r.queue
 | 0,r,o=>rfl
 | n+1,r,o=>by
  unfold DW;split
  ·exact Kk r
  rw[Ft n,Wm,Kk]
theorem S0(r:RecD)(steps clock:Int)(h:r.queue=[]):(Cv r steps clock).1.queue=[]:=by
 unfold Cv;split
 ·rw[Ft];rfl
 exact h
theorem Tf(g:GateD)(o:OutD):(D2 g o).held.length<=g.held.length+1:=by
 unfold D2
 (repeat' split)<;>simp
theorem Mo:∀(l:List OutD)(g:GateD),(l.foldl D2 g).held.length<=g.held.length+l.length
 | [],g=>by simp
 | o::l,g=>by
  have h1:=Tf g o;have h2:=Mo l (D2 g o);simp only[List.foldl_cons,iO];omega
theorem Gg(g:GateD)(l:List OutD):(FO g l).1.held.length<=g.held.length+l.length:=by
 unfold FO;split
 ·exact Mo l g
 simp
structure OkL(r:RepD)(i:Nat):Prop where
 role:r.role=1
 host:r.host=0
 gen:r.gen=1
 m:OkM r.rec_.m
 c:W32 r.rec_.clock
 l:r.rec_.log=[]
 q:r.rec_.queue=[]
 p:OkM r.rpl.m
 pl:r.rpl.log=[]
 g:r.gate.held.length<=64*i
 o:∀g∈r.out.queue,OkG g
 on:r.out.queue.length<=i
 t:L64 r.out.tail
 e:r.inn.early=[]
 h:r.hist.length<=128*i
theorem OkL.okP{r:RepD}{i:Nat}(h:OkL r i)(hi:i<=100):OkP r 400:=by
 refine⟨⟨h.m,h.c,by rw[h.l];simp,by rw[h.q];simp,by rw[h.q];simp,by rw[h.l];simp⟩,h.p,by rw[h.pl];simp,by have:=h.g;omega,h.o,by have:=h.on;omega,by rw[h.e];simp,by rw[h.e];simp,by have:=h.h;omega⟩
theorem OkL.run{r:RepD}{i:Nat}(h:OkL r i)(steps:Int){clock:Int}(hc:W32 clock):OkL (FW r steps clock) (i+1):=by
 unfold FW;split
 ·exact⟨h.role,h.host,h.gen,h.m,h.c,h.l,h.q,h.p,h.pl,by have:=h.g;omega,h.o,by have:=h.on;omega,h.t,h.e,by have:=h.h;omega⟩
 rename_i hne;have hst:0<=stp steps/\stp steps<=64:=by unfold stp;omega
 have hlim:DC (stp steps)<=64:=by unfold DC;omega
 have hR:OkR r.rec_ 0:=⟨h.m,h.c,by rw[h.l];simp,by rw[h.q];simp,by rw[h.q];simp,by rw[h.l];simp⟩;have hA:=hR.adv (stp steps) hc;have hQ:=S0 r.rec_ (stp steps) clock h.q;have hO:=F8 r.rec_ (stp steps) clock;rw[h.q]at hA;simp only[List.length_nil]at hA;unfold Dd;generalize Cv r.rec_ (stp steps) clock=A at hA hQ hO;obtain⟨a,o⟩:=A;simp only at hA hQ hO ⊢;have hal:=hA.l;have hH:=Gg r.gate o;unfold XE YK;simp only;have hcnt:=DZ hA.m;have hpush:∀s:SndD,s=(Dc r.out ⟨r.out.tail,a.m.count,a.log⟩).1->(∀g∈s.queue,OkG g)/\s.queue.length<=i+1/\L64 s.tail:=by
  intro s hs;have h0:(∀g∈r.out.queue,OkG g)/\r.out.queue.length<=i+1/\L64 r.out.tail:=⟨h.o,by have:=h.on;omega,h.t⟩;unfold Dc at hs
  (repeat' split at hs)
  ·subst hs;exact h0
  ·subst hs;exact h0
  ·subst hs;exact h0
  subst hs;refine⟨fun g hg=>?_,?_,hcnt⟩
  ·rcases List.mem_append.1 hg with q|q
   ·exact h.o g q
   simp at q;subst q;exact⟨h.t,hcnt,hA.t,by simp only;omega⟩
  simp only[gV,iO,List.length_nil];have:=h.on;omega
 have hout:∀s:SndD,s=(if r.role=1/\(a.log≠[]\/a.m.count≠r.out.tail)then(Dc r.out ⟨r.out.tail,a.m.count,a.log⟩).1 else r.out)->(∀g∈s.queue,OkG g)/\s.queue.length<=i+1/\L64 s.tail:=by
  intro s hs;split at hs
  ·exact hpush s hs
  subst hs;exact⟨h.o,by have:=h.on;omega,h.t⟩
 obtain⟨q1,q2,q3⟩:=hout _ rfl;refine⟨h.role,h.host,h.gen,hA.m,hA.c,rfl,hQ,h.p,h.pl,?_,q1,q2,q3,h.e,?_⟩
 ·simp only;have:=h.g;omega
 simp only[gV];have:=h.h;omega
theorem Vm:OkM Vt:=by
 refine⟨⟨fun i=>⟨by simp,by simp⟩,⟨by simp,by simp⟩,fun i=>⟨by simp,by simp⟩,by simp⟩,by intro w hw;simp at hw,by simp,by simp,⟨by simp,by simp⟩,?_,?_,⟨by simp,by simp⟩,⟨by simp,by simp⟩,by simp⟩
 ·constructor<;>(constructor<;>simp)
 constructor<;>(constructor<;>simp)
theorem zRec_r:OkR zRec 0:=⟨Vm,Ax,by simp,by simp,by simp,by simp⟩
theorem Z5(r:RepD)(hro:r.role=1)(hm:r.rec_.m.mem.length<=100000):AC prog 15 [.st r.row] (.st r.rec_.m.row):=by
 refine sZ func15 ntmps15 ?_;exact wx1 (qX1 (G9 r.rec_.m hm)) trivial @hro
theorem rm2_ok(r:RepD)(hro:r.role=2)(hm:r.rpl.m.mem.length<=100000):AC prog 15 [.st r.row] (.st r.rpl.m.row):=by
 refine sZ func15 ntmps15 ?_;exact wx1 (qX1 (G9 r.rpl.m hm)) trivial @hro
abbrev dskO(x:OutD):Prop:=x.kind=3\/x.kind=4
theorem req_at(d:DskD)(t:Int):dskO (Ag d t).1->(Ag d t).1.at_=t:=by
 unfold Ag dskO
 (repeat' split)<;>simp
theorem Wx(d:DskD)(l:List Int)(c t:Int):∀x∈(Am d l c t).2,dskO x->x.at_=t:=by
 unfold Am;split
 ·simp
 split
 ·simp
 intro x hx;rw[List.mem_singleton.1 hx];exact req_at _ _
theorem Wz(d:DskD)(l:List Int){c:Int}(hc:c=1\/c=2)(t:Int):(Am d l c t).1.state=1->d.state=1\/∃x∈(Am d l c t).2,dskO x:=by
 unfold Am;split
 ·intro h;exact .inl h
 split
 ·intro h;simp at h
 intro _;refine .inr ⟨_,List.mem_singleton.2 rfl,?_⟩;unfold Ag dskO;rcases hc with rfl|rfl<;>simp
theorem dsk_at(d:DskD)(l:List Int)(p v t:Int):∀x∈(Ak d l p v t).2,dskO x->x.at_=t:=by
 unfold Ak
 (repeat' split)<;>first|exact Wx _ _ _ _|simp
theorem dsk_st(d:DskD)(l:List Int)(p v t:Int):(Ak d l p v t).1.state=1->d.state=1\/∃x∈(Ak d l p v t).2,dskO x:=by
 unfold Ak
 (repeat' split)<;>first|(rename_i q;exact Wz _ _ q _)|(intro h;exact .inl h)|(intro h;simp at h)
theorem nic_at(n:NicD)(l:List Int)(p v t:Int):∀x∈(AZ n l p v t).2,¬dskO x:=by
 unfold AZ dskO
 (repeat' split)<;>first|simp|(simp only[];split<;>simp)
theorem Yd(m:MchD)(p v t:Int):∀x∈(AH m p v t).2,dskO x->x.at_=t:=by
 unfold AH
 (repeat' split)<;>first|exact dsk_at _ _ _ _ _|(intro x hx q;exact absurd q (nic_at _ _ _ _ _ x hx))|simp
theorem Yf(m:MchD)(p v t:Int):(AH m p v t).1.dk.state=1->m.dk.state=1\/∃x∈(AH m p v t).2,dskO x:=by
 unfold AH
 (repeat' split)<;>first|exact dsk_st _ _ _ _ _|(intro h;exact .inl h)
theorem dS(m:MchD)(p k:Int):(AO m p k).1.dk=m.dk:=by
 unfold AO
 (repeat' split)<;>rfl
theorem aN(m:MchD)(e:EffD)(k t:Int):∀x∈(BZ m e k t).2,dskO x->x.at_=t:=by
 unfold BZ
 (repeat' split)<;>first|exact Yd _ _ _ _|simp
theorem aO(m:MchD)(e:EffD)(k t:Int):(BZ m e k t).1.dk.state=1->m.dk.state=1\/∃x∈(BZ m e k t).2,dskO x:=by
 unfold BZ;split
 ·intro h;simp only[dS]at h;exact .inl h
 (repeat' split)<;>first|exact Yf _ _ _ _|(intro h;exact .inl h)
theorem Vw(m:MchD):(CM m).dk=m.dk:=by
 show(AL m).dk=m.dk;unfold AL
 (repeat' split)<;>rfl
theorem fG(m:MchD)(k:Int):∀x∈(stepD m k).2,dskO x->x.at_=m.count:=by
 unfold stepD;split
 ·exact aN _ _ _ _
 simp
theorem fH(m:MchD)(k:Int):(stepD m k).1.dk.state=1->m.dk.state=1\/∃x∈(stepD m k).2,dskO x:=by
 unfold stepD;split
 ·intro h;rw[<- Vw m];exact aO _ _ _ _ h
 intro h;exact .inl h
theorem If(m:MchD)(k:Int):(stepD m k).1.count=if runsD m=true then m.count+1 else m.count:=by
 unfold stepD;split
 ·show(BZ _ _ _ _).1.count+1=_;rw[Fc,Eb]
 rfl
theorem WL(m:MchD)(e:EvD)(h:e.kind=6\/e.kind=2):(applyD m e).1.dk=m.dk:=by
 unfold applyD
 (repeat' split)<;>first|rfl|(exfalso;omega)
theorem F9(m:MchD)(e:EvD)(h:m.halted=true):applyD m e=(m,false):=by
 unfold applyD;rw[if_pos (.inr h)]
structure Lg(f c:Int)(l:List EntD):Prop where
 a:∀e∈l,f<=e.at_/\e.at_<=c/\evVal e.ev=true
 o:ordD l=true
 t:∀e,l.getLast? =some e->e.ev.kind=1->e.at_<c
theorem Pz:∀(l:List EntD)(e:EntD),ordD l=true->(∀a,l.getLast? =some a->a.at_<=e.at_/\(a.ev.kind=1->a.at_<e.at_))->ordD (l++[e])=true
 | [],e,_,_=>rfl
 | [a],e,_,h=>by
  obtain⟨h1,h2⟩:=h a rfl;have q:¬(e.at_<a.at_\/(e.at_=a.at_/\a.ev.kind=1)):=by
   rintro(q|⟨q,z⟩)
   ·omega
   have:=h2 z;omega
  simp only[iT,jA,ordD,Bool.and_true,i7,Bool.or_eq_false_iff,Bool.and_eq_false_iff,decide_eq_false_iff_not];refine⟨fun z=>q (.inl z),?_⟩;by_cases z:a.ev.kind=1
  ·exact .inl (fun y=>q (.inr ⟨y,z⟩))
  exact .inr z
 | a::b::r,e,ho,h=>by
  rw[ordD,gX]at ho;rw[iT,iT,ordD,gX];exact⟨ho.1,Pz (b::r) e ho.2 (fun x hx=>h x (by rw[List.getLast?_cons_cons];exact hx))⟩
theorem Lg.up{f c c':Int}{l:List EntD}(h:Lg f c l)(hc:c<=c'):Lg f c' l :=
 ⟨fun e he=>by have:=h.a e he;exact⟨this.1,by omega,this.2.2⟩,h.o,fun e he hk=>by have:=h.t e he hk;omega⟩
theorem Lg.add{f c c':Int}{l:List EntD}(h:Lg f c l)(e:EvD)(hf:f<=c)(hv:evVal e=true)(hc:c<=c')(hk:e.kind=1->c<c'):Lg f c' (l++[⟨c,e⟩]):=by
 refine⟨fun x hx=>?_,Pz l _ h.o (fun a ha=>?_),fun x hx hk'=>?_⟩
 ·rcases List.mem_append.1 hx with q|q
  ·have:=h.a x q;exact⟨this.1,by omega,this.2.2⟩
  rw[List.mem_singleton.1 q];exact⟨hf,hc,hv⟩
 ·exact⟨(h.a a (List.mem_of_getLast? ha)).2.1,h.t a ha⟩
 rw[List.getLast?_append]at hx;simp at hx;subst hx;exact hk hk'
structure RunI(b f:Int)(s:Prop)(r:RecD)(o:List OutD):Prop where
 m:mayD r.m=true
 lg:Lg f r.m.count r.log
 fc:f<=r.m.count
 bc:b<=r.m.count
 dk:r.m.dk.state=1->s\/∃x∈o,dskO x
 ot:∀x∈o,dskO x->b<=x.at_
theorem RunI.offer{b f:Int}{s:Prop}{r:RecD}{o:List OutD}(h:RunI b f s r o)(hM:OkM r.m){e:EvD}(hv:evVal e=true)(hk:e.kind=6\/e.kind=2)(hn:W32 e.n):RunI b f s (AW r e) o:=by
 have hc:=(DX hM hn).2;unfold AW;split
 ·refine⟨CQ hM h.m e,?_,?_,?_,?_,h.ot⟩
  ·show Lg f (applyD r.m e).1.count _;rw[hc];exact h.lg.add e h.fc hv (by omega) (fun z=>by omega)
  ·show f<=(applyD r.m e).1.count;rw[hc];exact h.fc
  ·show b<=(applyD r.m e).1.count;rw[hc];exact h.bc
  show(applyD r.m e).1.dk.state=1->_;rw[WL r.m e hk];exact h.dk
 exact h
theorem RunI.tick{b f:Int}{s:Prop}{r:RecD}{o:List OutD}(h:RunI b f s r o)(hM:OkM r.m):RunI b f s (BF r) o:=by
 unfold BF;split
 ·exact h.offer hM (by rfl) (.inr rfl) Ax
 exact h
theorem Kd{m:MchD}(h:readsD m=true):runsD m=true:=by
 unfold readsD at h;simp only[gX]at h;exact h.1
theorem RunI.go{b f:Int}{s:Prop}{r:RecD}{o:List OutD}(h:RunI b f s r o)(hM:OkM r.m):RunI b f s (goR r).1 (o++(goR r).2):=by
 have hcnt:=If r.m r.clock;have hle:r.m.count<=(stepD r.m r.clock).1.count:=by rw[hcnt];split<;>omega
 refine⟨HB hM h.m _,?_,Int.le_trans h.fc hle,Int.le_trans h.bc hle,fun q=>?_,fun x hx q=>?_⟩
 ·show Lg f (stepD r.m r.clock).1.count (Ir r).log;unfold Ir;split
  ·rename_i z;rw[if_pos (Kd z)]at hcnt;exact h.lg.add ⟨1,r.clock,[]⟩ h.fc (by rfl) hle (fun _=>by omega)
  exact h.lg.up hle
 ·rcases fH r.m r.clock q with z|⟨x,hx,z⟩
  ·rcases h.dk z with y|⟨x,hx,y⟩
   ·exact .inl y
   exact .inr ⟨x,List.mem_append_left _ hx,y⟩
  exact .inr ⟨x,List.mem_append_right _ hx,z⟩
 rcases List.mem_append.1 hx with z|z
 ·exact h.ot x z q
 rw[fG r.m r.clock x z q];exact h.bc
theorem RunI.run:∀(n:Nat){b f:Int}{s:Prop}{r:RecD}{k:Nat}{o:List OutD},RunI b f s r o->OkR r k->RunI b f s (DW n r o).1 (DW n r o).2
 | 0,_,_,_,_,_,_,h,_=>h
 | n+1,b,f,s,r,k,o,h,hR=>by
  obtain⟨h1,-⟩:=hR.tick;have h2:=h.tick hR.m;unfold DW;split
  ·exact h2
  exact RunI.run n (h2.go h1.m) h1.go
theorem VZ{r:RecD}(h:r.m.halted=true):BF r=r:=by
 unfold BF AW;split
 ·rw[F9 _ _ h];rfl
 rfl
theorem run_halt:∀(n:Nat){r:RecD}{o:List OutD},r.m.halted=true->(DW n r o).1.m.halted=true
 | 0,_,_,h=>h
 | n+1,r,o,h=>by
  unfold DW;rw[VZ h,if_pos (by unfold Ep;rw[h];rfl)];exact h
theorem UJ(r:RecD)(e:EvD):r.log.length<=(AW r e).log.length:=by
 unfold AW;split<;>simp
theorem Qc(r:RecD):r.log.length<=(BF r).log.length:=by
 unfold BF;split
 ·exact UJ _ _
 exact g8 _
theorem go_log(r:RecD):r.log.length<=(goR r).1.log.length:=by
 show _<=(Ir r).log.length;unfold Ir;split<;>simp
theorem VE:∀(n:Nat)(r:RecD)(o:List OutD),r.log.length<=(DW n r o).1.log.length
 | 0,_,_=>g8 _
 | n+1,r,o=>by
  unfold DW;split
  ·exact Qc r
  exact iY (Qc r) (iY (go_log _) (VE n _ _))
theorem Zn{r:RecD}{n b:Int}(hR:OkR r 0)(hm:mayD r.m=true)(hl:r.log=[])(hq:r.queue=[⟨6,n,[]⟩])(hn:W32 n){clock:Int}(hc:W32 clock)(hb:b<=r.m.count)(steps:Int):
  RunI b r.m.count (r.m.dk.state=1) (Cv r steps clock).1 (Cv r steps clock).2/\(Cv r steps clock).1.queue=[]/\((Cv r steps clock).1.log≠[]\/(Cv r steps clock).1.m.halted=true):=by
 have hA:Cv r steps clock=DW (DC steps) (CX r clock) []:=by unfold Cv;rw[if_pos hm]
 rw[hA];have hQ:=hR.queue hc;have hq0:CX r clock={AW {r with clock:=max r.clock clock} ⟨6,n,[]⟩with queue:=[]}:=by unfold CX;rw[hq];rfl
 have i0:RunI b r.m.count (r.m.dk.state=1) {r with clock:=max r.clock clock} []:=⟨hm,⟨by show ∀e∈r.log,_;rw[hl];simp,by show ordD r.log=true;rw[hl];rfl,by show ∀e,r.log.getLast? =some e->_;rw[hl];simp⟩,Int.le_refl _,hb,fun z=>.inl z,by simp⟩;have i1:=i0.offer hR.m (e:=⟨6,n,[]⟩) (by rfl) (.inl rfl) hn;have i2:RunI b r.m.count (r.m.dk.state=1) (CX r clock) []:=by rw[hq0];exact⟨i1.m,i1.lg,i1.fc,i1.bc,i1.dk,i1.ot⟩
 refine⟨RunI.run _ i2 hQ,by rw[Ft];rfl,?_⟩;cases hh:r.m.halted with
 | true =>
  refine .inr (run_halt _ ?_);rw[hq0];show(AW _ _).m.halted=true;unfold AW;rw[F9 _ _ (by exact hh)];exact hh
 | false =>
  refine .inl (fun z=>?_);have h1:=VE (DC steps) (CX r clock) [];rw[z]at h1;have h2:(CX r clock).log=[⟨r.m.count,⟨6,n,[]⟩⟩]:=by
   rw[hq0];show(AW _ _).log=_;unfold AW applyD;simp[hm,hh,hl]
  rw[h2]at h1;simp at h1
theorem M5:∀(l:List EntD)(f:Int),(∀e∈l,evVal e.ev=true)->(Dt f l).length<=211*l.length
 | [],_,_=>by simp[Dt]
 | e::l,f,h=>by
  have h1:=Ae (e.at_-f);have h2:=M6 (h e (g7 ..));have h3:=M5 l e.at_ (fun x hx=>h x (gW _ hx));simp only[Dt,gV,iO];omega
theorem Z7{f c:Int}{l:List EntD}(h:Lg f c l)(hf:f<=c)(hn:l.length<=200):(Ai ⟨f,c,l⟩).2=0:=by
 have hb:DY l c=false:=by
  unfold DY;rw[List.any_eq_false];intro e he;have:=h.a e he;simp;omega
 have hE:Dx l f=0:=by
  have ha:l.all (fun e=>evVal e.ev)=true:=List.all_eq_true.2 (fun e he=>(h.a e he).2.2);have hfo:firstOk f l=true:=by
   cases l with
   | nil=>rfl
   | cons e r=>have:=(h.a e (g7 ..)).1;simpa[firstOk]using this
  rw[K4 (by omega) ha (by rw[h.o,hfo];simp)];have h1:=M5 l f (fun e he=>(h.a e he).2.2);have h2:=Ae (l.length:Int);rw[if_neg (by rw[gV];omega)]
 unfold Ai;rw[if_neg (by rw[hb];simp;omega)];unfold Ly;rw[if_pos hE]
theorem KN:∀(q:List SegD)(b:Int)(g:SegD),chainOk b q=true->g.from_=lastAt b q->(Ai g).2=0->chainOk b (q++[g])=true/\lastAt b (q++[g])=g.known
 | [],b,g,_,h,hs=>by
  simp only[lastAt]at h;simp[chainOk,lastAt,En,h,hs]
 | x::q,b,g,hc,h,hs=>by
  rw[chainOk,gX]at hc;rw[lastAt]at h;obtain⟨a1,a2⟩:=KN q x.known g hc.2 h hs;rw[iT,chainOk,lastAt,a1,Bool.and_true];exact⟨hc.1,a2⟩
theorem Mn:∀(l:List OutD)(g:GateD),(l.foldl D2 g).acked=g.acked
 | [],_=>rfl
 | o::l,g=>by
  rw[List.foldl_cons,Mn l];unfold D2
  (repeat' split)<;>rfl
theorem Pb(g:GateD)(l:List OutD):(FO g l).1.acked=g.acked:=by
 unfold FO;split
 ·exact Mn l g
 rfl
theorem Sr{b:Int}:∀(l:List OutD)(c:Int×Int),(∀x∈l,dskO x->b<=x.at_)->(b<=c.2\/∃x∈l,dskO x)->b<=(Kw c l).2
 | [],c,_,h=>by
  rcases h with h|⟨x,hx,-⟩
  ·exact h
  cases hx
 | o::l,c,ha,h=>by
  show b<=(Kw (SJ c o) l).2;refine Sr l _ (fun x hx=>ha x (gW _ hx)) ?_;unfold SJ;split
  ·rename_i z;exact .inl (ha o (g7 ..) z)
  rename_i z;rcases h with h|⟨x,hx,hd⟩
  ·exact .inl h
  rcases List.mem_cons.1 hx with q|q
  ·subst q;exact absurd hd z
  exact .inr ⟨x,q,hd⟩
abbrev balE(n:Int):EvD:=⟨6,n,[]⟩
structure OkY(r:RepD)(i:Nat)(b:Int):Prop where
 l:OkL r i
 m:mayD r.rec_.m=true
 bs:r.out.base=1
 kn:r.out.known=b
 ch:chainOk b r.out.queue=true
 ta:r.out.tail=lastAt b r.out.queue
 tc:r.out.tail=r.rec_.m.count
 bc:b<=r.rec_.m.count
 ak:r.gate.acked=b
 dk:r.rec_.m.dk.state=1->b<=r.cmdAt
 qn:r.out.queue.length=i\/r.rec_.m.halted=true
theorem OkY.snd{r:RepD}{i:Nat}{b:Int}(h:OkY r i b)(hi:i<=8):CH r.out=true:=by
 have hon:=h.l.on;have ht:=h.ta;have hc:=h.ch;have hk:=h.kn;have h0:¬(r.out.base<1\/4611686018427387904<r.out.base\/8<r.out.queue.length):=by rw[h.bs];omega
 unfold CH;rw[if_neg h0];cases hq:r.out.queue with
 | nil =>
  rw[hq]at ht;simp only[lastAt]at ht;simp only[decide_eq_true_eq];omega
 | cons g q =>
  rw[hq]at hc ht;have hc2:=hc;rw[chainOk]at hc2;simp only[gX,decide_eq_true_eq]at hc2;rw[<- hc2.1.1]at hc ht hk;simp only[hc,ht,hk,Int.le_refl,decide_true,Bool.and_self]
theorem OkY.round{r:RepD}{i:Nat}{b:Int}(h:OkY r i b)(hi:i<8){n:Int}(hn:W32 n):OkY (FW {r with rec_:={r.rec_ with queue:=[balE n]}} 5 0) (i+1) b:=by
 have hl:=h.l;have hon:=hl.on;have hne:¬(r.role=1/\8<=r.out.queue.length):=by omega
 have hR:OkR {r.rec_ with queue:=[balE n]} 0:=⟨hl.m,hl.c,by show r.rec_.log.length<=0;rw[hl.l];simp,by simp,fun e he=>by rw[List.mem_singleton.1 he];exact⟨hn,by simp⟩,by show ∀e∈r.rec_.log,_;rw[hl.l];simp⟩;have hA:=hR.adv 5 Ax;have hO:=F8 {r.rec_ with queue:=[balE n]} 5 0;obtain⟨hI,hQ,hG⟩:=Zn hR h.m hl.l rfl hn Ax h.bc 5;have hh:r.rec_.m.halted=true->(Cv {r.rec_ with queue:=[balE n]} 5 0).1.m.halted=true:=fun z=>by
  unfold Cv;rw[if_pos h.m];refine run_halt _ ?_;show(AW _ _).m.halted=true;unfold AW;rw[F9 _ _ (by exact z)];exact z
 unfold FW;rw[if_neg hne];rw[show stp 5=5 by decide];unfold Dd;simp only;generalize Cv {r.rec_ with queue:=[balE n]} 5 0=A at *;obtain⟨a,o⟩:=A;simp only at hA hO hI hQ hG hh ⊢;rw[show DC 5=5 by decide]at hA hO;have hal:=hA.l;simp only[iO,List.length_nil]at hal;have hcnt:=DZ hA.m;have hlg:=hI.lg;have hfc:=hI.fc;rw[show({r.rec_ with queue:=[balE n]}:RecD).m.count=r.out.tail from h.tc.symm]at hlg hfc;have hsg:=Z7 hlg hfc (by omega);have hsO:=h.snd (by omega);obtain⟨s1,s2⟩:=KN r.out.queue b ⟨r.out.tail,a.m.count,a.log⟩ h.ch h.ta hsg;have hp:Dc r.out ⟨r.out.tail,a.m.count,a.log⟩=({r.out with queue:=r.out.queue++[⟨r.out.tail,a.m.count,a.log⟩],tail:=a.m.count},0):=by
  unfold Dc;rw[if_neg (by rw[hsO];simp),if_neg (by rw[hsg];simp),nG]
 have hH:=Gg r.gate o;have hK:=Pb r.gate o;unfold XE YK segA;simp only[hl.role,true_and];rw[hp];have hout:∀s:SndD,s=(if a.log≠[]\/a.m.count≠r.out.tail then {r.out with queue:=r.out.queue++[⟨r.out.tail,a.m.count,a.log⟩],tail:=a.m.count}else r.out) ->
   (∀g∈s.queue,OkG g)/\s.queue.length<=i+1/\s.tail=a.m.count/\s.base=1/\s.known=b/\chainOk b s.queue=true/\s.tail=lastAt b s.queue/\(s.queue.length=i+1\/a.m.halted=true):=by
  intro s hs;split at hs
  ·subst hs;refine⟨fun g hg=>?_,by simp;omega,rfl,h.bs,h.kn,s1,s2.symm,?_⟩
   ·rcases List.mem_append.1 hg with q|q
    ·exact hl.o g q
    rw[List.mem_singleton.1 q];exact⟨hl.t,hcnt,hA.t,by simp only;omega⟩
   rcases h.qn with q|q
   ·exact .inl (by simp[q])
   exact .inr (hh q)
  rename_i z;subst hs;refine⟨hl.o,by omega,?_,h.bs,h.kn,h.ch,h.ta,?_⟩
  ·by_cases q:a.m.count=r.out.tail
   ·exact q.symm
   exact absurd (.inr q) z
  rcases hG with q|q
  ·exact absurd (.inl q) z
  exact .inr q
 obtain⟨q1,q2,q3,q4,q5,q6,q7,q8⟩:=hout _ rfl;refine⟨⟨rfl,hl.host,hl.gen,hA.m,hA.c,rfl,hQ,hl.p,hl.pl,?_,q1,q2,by rw[q3];exact hcnt,hl.e,?_⟩,hI.m,q4,q5,q6,q7,q3,hI.bc,by rw[hK];exact h.ak,fun z=>?_,q8⟩
 ·try simp only
  have:=hl.g;omega
 ·simp only[gV];have:=hl.h;omega
 refine Sr o _ hI.ot ?_;rcases hI.dk z with y|y
 ·exact .inl (h.dk y)
 exact .inr y
theorem Rp(r:RecD)(h1:r.m.mem.length<=100000)(h2:r.log.length<=100000)(h3:r.queue.length<=100000):AC prog 108 [.st r.row] (.st (recC r.m r.clock (Bo r.log) (.new 106 3 (evs r.queue)))):=by
 refine sX func108 ntmps108 ?_;intros;apply wr
 (refine au ?_;intros;apply wr)
 repeat' ((first|(refine AB rfl (fun h=>?_) (fun h=>?_)<;>(first|(simp at h;done)|(simp at h)|skip)<;>(first|(exfalso;omega)|skip))|refine cc (DL (ints .u32 r.m.mem) false 1 (.inl rfl) (by rw[AN];exact h1)) ?_|refine cc (G6 (ents r.log) false 4 (.inl rfl) (by rw[Ay];exact h2)) ?_|refine cc (PV (evs r.queue) false 3 (.inl rfl) (by rw[HV];exact h3)) ?_|exact rt|fail)<;>(refine au ?_;intros;apply wr))
 refine Yk [2,3] ?_;simp;refine ar ?_;simp
theorem bD(e:EvD):evs [e]=[e.row]:=rfl
theorem S5(r:RecD)(e:EvD)(h1:r.m.mem.length<=100000)(h2:r.log.length<=100000)(h3:r.queue.length<=90000):AC prog 53 [.st r.row,.st e.row] (.tup [.st (Ey r e).1.row,.bool (Ey r e).2]):=by
 have hc:=Rp r h1 h2 (by omega);have hv:=IW e;have hl:=HV r.queue;by_cases ha:evVal e=true/\e.kind≠1/\r.queue.length<16
 ·obtain⟨a1,a2,a3⟩:=ha;have hE:Ey r e=({r with queue:=r.queue++[e]},true):=by unfold Ey;rw[if_pos ⟨a1,a2,a3⟩]
  rw[hE];rw[a1]at hv;have a4:¬(16:Int)<=r.queue.length:=by omega
  refine sX func53 ntmps53 ?_;refine cX (hc) ?_;refine cY (hv) @hl ?_;refine EP (kX3 @a2 @a4 @hl) (kX2 @hl @maxLen.eq_1) ?_;refine aw ?_;simp[bB,bD]
 have hE:Ey r e=(r,false):=by unfold Ey;rw[if_neg ha]
 rw[hE];have hct:(!evVal e||e.kind==1||decide ((16:Int)<=r.queue.length))=true:=by
  cases q1:evVal e with
  | false=>rfl
  | true =>
   by_cases q2:e.kind=1
   ·simp[q2]
   have q3:(16:Int)<=r.queue.length:=by
    by_cases z:r.queue.length<16
    ·exact absurd ⟨q1,q2,z⟩ ha
    omega
   simp[q3]
 refine sX func53 ntmps53 ?_;refine cX (hc) ?_;refine cY (hv) @hl ?_;refine ED (kX2 @hct @hl) ?_;refine aw ?_;simp
theorem Sq(xs:List (List V))(hb:xs.length<=100000):AC prog 83 [.sl 1 false xs] (.new 9 1 xs):=by
 refine sX func83 ntmps83 ?_;intros;apply wr;refine⟨?_,fun hx=>?_⟩
 ·refine au ?_;intros;apply wr;refine cF0 rfl ?_;refine Jn @maxLen.eq_1 ?_;refine ar ?_;simp
 subst hx;refine au ?_;refine CV ?_;intros;apply wr;refine AT 2 9 1 (by decide) rfl ?_;refine ar ?_;simp
theorem Ga(bs:List (List UInt8))(g o:Int)(hb:bs.length<=100000):AC prog 36 [.st [.sl 1 false (strs bs),lv g,iv o]] (.st [.sl 1 false (strs bs),lv g,iv o]):=by
 refine sZ func36 ntmps36 ?_;exact wx (qX1 (Sq (strs bs) (by rw[BV];exact hb))) trivial
theorem E5{bs:List (List UInt8)}{i:Nat}{s:List UInt8}(h:bs[i]? =some s):(strs bs)[i]? =some [.str s]:=by simp[strs,h]
def Wk(r:RepD)(steps:Int):RepD:={r with rpl:=(Ck r.rpl steps).1,gate:=(GL (FO r.gate (Ck r.rpl steps).2).1 r.mark).1}
theorem bW(r:RepD)(steps:Int)(hJ:OkJ r.rpl)(hl:r.rpl.log.length<=50000)(hd:∀e∈r.rpl.log,e.ev.data.length<=100000)(hg:r.gate.held.length<=20000)(ho:(Ck r.rpl steps).2.length<=4000):AC prog 28 [.st r.row,iv steps] (.st (Wk r steps).row):=by
 have ha:=X8 r.rpl steps hJ hl hd;unfold Wk;generalize Ck r.rpl steps=A at *;have hh:=Ti r.gate A.2 (by omega) (by omega);have hgl:=Gg r.gate A.2;generalize FO r.gate A.2=H at *;have hr:=EY H.1 r.mark (by omega);generalize GL H.1 r.mark=R at *;refine sZ func28 ntmps28 ?_;exact wx (qX3 (ha) (hh) (hr)) trivial
theorem VB(r:RepD)(steps clock:Int)(h:OkP r 40000)(hro:r.role=2)(hJ:OkJ r.rpl)(hl:r.rpl.log.length<=50000)(hd:∀e∈r.rpl.log,e.ev.data.length<=100000)(hg:r.gate.held.length<=20000)(ho:(Ck r.rpl (stp steps)).2.length<=4000):AC prog 7 [.st r.row,iv steps,uv clock] (.st (Wk r (stp steps)).row):=by
 have hc:=C2 r h;have hf:=bW r (stp steps) hJ hl hd hg ho;have hst:(if 64<if steps<0 then 0 else steps then 64 else if steps<0 then 0 else steps)=stp steps:=by unfold stp;(repeat' split)<;>omega
 have hlq:=Df r.out.queue;refine sX func7 ntmps7 ?_;refine cY (hc) (kX2 @hst @hlq) ?_;refine EP @hro (kX2 @hst @hlq) ?_;refine EP @hro (kX2 @hst @hlq) ?_;refine DI @hro (kX2 @hst @hlq) ?_;refine cc1 (hf) @hst ?_;refine au ?_;refine aw ?_;simp
end Go.Proofs.YtjkmhmepljamoaaGreat
end
