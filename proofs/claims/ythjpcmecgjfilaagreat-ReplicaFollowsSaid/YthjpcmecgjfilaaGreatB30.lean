/- A part of the proof of ReplicaFollows. -/
import Derived.Test.YthjpcmecgjfilaaGreatB08
import Derived.Test.YthjpcmecgjfilaaGreatB25
import Derived.Test.YthjpcmecgjfilaaGreatB29
set_option linter.unusedSimpArgs false
set_option linter.unusedVariables false
set_option maxHeartbeats 16000000
set_option maxRecDepth 100000
section
namespace Go.Proofs.YthjpcmecgjfilaaGreat
open Go.Ab Go.RowKit Tryz
theorem zN8 (r:RepD) (steps clock:Int) (h:OkP r 400) (hc:W32 clock) (hq:r.rec_.queue.length<=400) (hg:r.gate.held.length<=30000) (ht:L64 r.out.tail):zAD prog 32 [.st r.row,iv steps,uv clock] (.st (zCV r steps clock).row):=by
 have hadv:=adv_ok r.rec_ steps clock 400 h.c (by omega) hc
 have hA:=h.c.adv steps hc;have hO:=zEa r.rec_ steps clock;have hlim:=zLG steps;unfold zCV;generalize advD r.rec_ steps clock=A at *
 obtain ⟨a,o⟩:=A;simp only at *
 have hhold:=zPI r.gate o (by omega) (by omega)
 have hlo:=zBF o;have hAl:=hA.l;have hAm:=hA.m.n;obtain ⟨G,hG⟩:∃ G,G=zDj r.gate o:=⟨_,rfl⟩;rw [<- hG] at hhold;refine sX func32 ntmps32 ?_;(repeat intro K hK);apply wr
 refine cX (hadv) ?_;(repeat intro K hK);apply wr
 refine cY (hhold) @hlo ?_;(repeat intro K hK);apply wr
 obtain ⟨I,hI⟩:∃ I:Nat->St->Prop,I=(fun kk ss=>∃ (i:Nat) (c t:Int),i<=o.length/\kk=o.length-i/\(cmdL (r.cmd,r.cmdAt) (o.take i)=(c,t))/\ss=⟨95,[(31,.int .i64 i),(30,.int .i64 o.length),(29,.sl 4 false (outs o)),(3,.ptr 0 125 0 0),(6,.ptr 1 125 0 0)],59,[(0,some (repO (RepD.row {r with rec_:=a,gate:=G.1,cmd:=c,cmdAt:=t}))),(1,some (repO zRR))],0⟩):=⟨_,rfl⟩
 refine lX I (id) (by rw [hI];exact ⟨0,r.cmd,r.cmdAt,by simp,rfl,rfl,rfl⟩) ?_
 intro kk ss hIk _
 rw [hI] at hIk;obtain ⟨i,c,t,hi,rfl,hx,rfl⟩:=hIk;refine au1 @hlo ?_;(repeat intro K hK);apply wr
 refine zAC rfl (fun hh=>?_) (fun hh=>?_)
 ·simp at hh;obtain ⟨x,hxo,-,htk,-⟩:=get_at hh;have hget:=zED hxo;have hst:cmdL (r.cmd,r.cmdAt) (o.take (i+1))=cmd1 (c,t) x:=by unfold cmdL at hx ⊢;rw [htk,List.foldl_append,hx];rfl
  refine au1 @hget ?_;(repeat intro K hK);apply wr
  refine zAC rfl (fun hk=>?_) (fun hk=>?_)
  ·have hc1:cmd1 (c,t) x=(0,x.at_):=by unfold cmd1;rw [if_pos (by simpa using hk)]
   rw [hc1] at hst;refine au ?_;(repeat intro K hK);apply wr
   refine zAG 6 [0,1,0,4,15,31] [(4,([[],[0],[],[2]],[(1,3)])),(1,([],[])),(1,([],[]))] ?_;refine af ?_;(repeat intro K hK);apply wr
   refine af ?_;(repeat intro K hK);apply wr
   exact aX (id) (by rw [hI];exact ⟨i+1,0,x.at_,by omega,rfl,hst,rfl⟩) (zAA (n:=(i:Int)+1) (by omega) (by omega))
  have hc1:cmd1 (c,t) x=(c,t):=by unfold cmd1;rw [if_neg (by simpa using hk)]
  rw [hc1] at hst;refine af ?_;(repeat intro K hK);apply wr
  exact aX (id) (by rw [hI];exact ⟨i+1,c,t,by omega,rfl,hst,rfl⟩) (zAA (n:=(i:Int)+1) (by omega) (by omega))
 simp at hh;rw [zGW hh] at hx;refine af ?_;(repeat intro K hK);apply wr
 refine cXf (zUJ {r with rec_:=a,gate:=G.1,cmd:=c,cmdAt:=t}) ?_;(repeat intro K hK);apply wr
 have hbz:zIU {r with rec_:=a,gate:=G.1,cmd:=c,cmdAt:=t}=zIU {r with rec_:=a}:=rfl
 clear hK;clear K;rename_i K hK;refine zBe (α:=Int) (fun d=>(⟨95,[(3,.ptr 0 125 0 0),(6,.ptr 1 125 0 0)],60,[(0,some (repO (RepD.row {r with rec_:=a,gate:=G.1,cmd:=d,cmdAt:=t}))),(1,some (repO zRR))],0⟩:St)) (fun d=>d=(if zIU {r with rec_:=a}=true then c else 0)) hK (fun d hxhJ=>?_) (fun hJ=>?_)
 all_goals clear hK
 ·have hR:runA r a o={r with rec_:=a,gate:=G.1,cmd:=d,cmdAt:=t}:=by unfold runA;rw [hx,<- hG,hxhJ]
  have hcut:=cut_ok a (by omega) (by omega) (by have:=hA.q;omega)
  have hcc:=zGd r.hist a.log (by have:=h.h;omega) (by omega)
  have hcnt:=zCy hA.m;have hsg:OkG ⟨r.out.tail,a.m.count,a.log⟩:=⟨ht,hcnt,hA.t,by show a.log.length<=_;omega⟩
  have hpush:=zVO r.out ⟨r.out.tail,a.m.count,a.log⟩ h.o hsg (by have:=h.on;omega)
  refine af ?_;(repeat intro K hK);apply wr
  refine cXf (hcut) ?_;(repeat intro K hK);apply wr
  refine cYf (hcc) @zAn ?_;(repeat intro K hK);apply wr
  have hbb:(r.role==1&&(decide (0<a.log.length)||a.m.count != r.out.tail))=decide (r.role=1/\(a.log≠[]\/a.m.count≠r.out.tail)):=by
   cases a.log<;>by_cases q1:r.role=1<;>by_cases q2:a.m.count=r.out.tail<;>simp [q1,q2]
  refine zAC rfl (fun hb=>?_) (fun hb=>?_)
  ·have hp:r.role=1/\(a.log≠[]\/a.m.count≠r.out.tail):=by rw [hbb] at hb;exact of_decide_eq_true hb
   have hF:logA (runA r a o)={r with rec_:=cutD a,gate:=G.1,cmd:=d,cmdAt:=t,hist:=r.hist++a.log,out:=(zCT r.out ⟨r.out.tail,a.m.count,a.log⟩).1}:=by rw [hR];unfold logA segA;simp only;rw [if_pos hp]
   refine af ?_;(repeat intro K hK);apply wr
   refine cXf (hpush) ?_;(repeat intro K hK);apply wr
   refine zAI ?_;refine zAB ?_;simp [hF,cutD]
  have hp:¬ (r.role=1/\(a.log≠[]\/a.m.count≠r.out.tail)):=by rw [hbb] at hb;exact of_decide_eq_false hb
  have hF:logA (runA r a o)={r with rec_:=cutD a,gate:=G.1,cmd:=d,cmdAt:=t,hist:=r.hist++a.log}:=by rw [hR];unfold logA;simp only;rw [if_neg hp]
  refine af ?_;(repeat intro K hK);apply wr
  refine zAI ?_;refine zAB ?_;simp [hF,cutD]
 refine zAC rfl (fun hb=>?_) (fun hb=>?_)
 ·refine af ?_;(repeat intro K hK);apply wr
  refine hJ 0 _ (id) ((by rw [hbz] at hb;simp at hb;simp [hb])) ⟨rfl,?_,?_,?_,by simp⟩
  ·simp [leT,ltV,lt1,ren,ren1]
  ·simp [leO,lt1,ren1]
  (simp;try omega)
 refine af ?_;(repeat intro K hK);apply wr
 refine hJ c _ (id) ((by rw [hbz] at hb;simp at hb;simp [hb])) ⟨rfl,?_,?_,?_,by simp⟩
 ·simp [leT,ltV,lt1,ren,ren1]
 ·simp [leO,lt1,ren1]
 (simp;try omega)
def stp (n:Int):Int:=min (max n 0) 64
def zDs (r:RepD) (steps clock:Int):RepD:=if r.role=1/\8<=r.out.queue.length then r else zCV r (stp steps) clock
theorem OkP.up {r:RepD} {k k':Nat} (h:OkP r k) (hk:k<=k'):OkP r k':=⟨h.c.up hk,h.p,h.pl,h.g,h.o,h.on,h.i,h.en,h.h⟩
theorem zQO (r:RepD) (steps clock:Int) (hl:zGu r=true) (h:OkP r 400) (hc:W32 clock) (hq:r.rec_.queue.length<=400) (hg:r.gate.held.length<=30000) (ht:L64 r.out.tail):zAD prog 9 [.st r.row,iv steps,uv clock] (.st (zDs r steps clock).row):=by
 have hcl:=zDG r (h.up (by omega))
 have hrl:=zN8 r (stp steps) clock h hc hq hg ht;have hst:(if 64<if steps<0 then 0 else steps then 64 else if steps<0 then 0 else steps)=stp steps:=by unfold stp;(repeat' split)<;>omega
 have hlq:=zCX r.out.queue;refine sX func9 ntmps9 ?_;intros;apply wr;refine cY (hcl) (kX2 @hst @hlq) ?_;intros;apply wr;have h8:(decide ((8:Int)<=r.out.queue.length))=decide (8<=r.out.queue.length):=by simp;omega
 by_cases h1:r.role=1
 ·refine gT10 @h1 rfl ?_;intros;apply wr;refine gT11 @h1 rfl @hlq ?_;intros;apply wr;refine zAC rfl (fun hk=>?_) (fun hk=>?_)
  ·have hR:zDs r steps clock=r:=by unfold zDs;rw [if_pos (by rw [h8] at hk;simpa using hk)]
   refine au ?_;intros;apply wr;refine zAI ?_;refine zAB ?_;simp [hR]
  have hR:zDs r steps clock=zCV r (stp steps) clock:=by unfold zDs;rw [if_neg (by rw [h8] at hk;simpa using hk)]
  refine au ?_;intros;apply wr;refine cX (hrl) ?_;intros;apply wr;refine zAI ?_;refine zAB ?_;simp [hR]
 have h3:r.role=3:=by unfold zGu at hl;simp [h1] at hl;exact hl
 have hR:zDs r steps clock=zCV r (stp steps) clock:=by unfold zDs;rw [if_neg (fun z=>h1 z.1)]
 refine gF10 @h1 rfl ?_;intros;apply wr;refine gT11 @h3 rfl @hlq ?_;intros;apply wr;refine gF10 @h1 rfl ?_;intros;apply wr;refine cX (hrl) ?_;intros;apply wr;refine zAI ?_;refine zAB ?_;simp [hR]
theorem zLM (r:RecD) (e:EvD):(zAV r e).queue=r.queue:=by unfold zAV;split<;>rfl
theorem zIO (r:RecD):(zAu r).queue=r.queue:=by unfold zAu;split;exact zLM _ _;rfl
theorem zRj (r:RecD):(goR r).1.queue=r.queue:=by unfold goR clkR;simp only;split<;>rfl
theorem zEH:∀ (n:Nat) (r:RecD) (o:List OutD),(runR n r o).1.queue=r.queue
 | 0,r,o=>rfl
 | n+1,r,o=>by
  unfold runR;split
  ·exact zIO r
  rw [zEH n,zRj,zIO]
theorem zOJ (r:RecD) (steps clock:Int) (h:r.queue=[]):(advD r steps clock).1.queue=[]:=by
 unfold advD;split
 ·rw [zEH];rfl
 exact h
theorem zPH (g:GateD) (o:OutD):(zCJ g o).held.length<=g.held.length+1:=by
 unfold zCJ
 (repeat' split)<;>simp
theorem zJ5:∀ (l:List OutD) (g:GateD),(l.foldl zCJ g).held.length<=g.held.length+l.length
 | [],g=>by simp
 | o::l,g=>by
  have h1:=zPH g o;have h2:=zJ5 l (zCJ g o);simp only [List.foldl_cons,zWU];omega
theorem zEl (g:GateD) (l:List OutD):(zDj g l).1.held.length<=g.held.length+l.length:=by
 unfold zDj;split
 ·exact zJ5 l g
 simp
structure OkL (r:RepD) (i:Nat):Prop where
 role:r.role=1
 host:r.host=0
 gen:r.gen=1
 m:OkM r.rec_.m
 c:W32 r.rec_.clock
 l:r.rec_.log=[]
 q:r.rec_.queue=[]
 p:OkM r.rpl.m
 pl:r.rpl.log=[]
 g:r.gate.held.length<=64*i
 o:∀ g∈r.out.queue,OkG g
 on:r.out.queue.length<=i
 t:L64 r.out.tail
 e:r.inn.early=[]
 h:r.hist.length<=128*i
theorem OkL.okP {r:RepD} {i:Nat} (h:OkL r i) (hi:i<=100):OkP r 400:=by
 refine ⟨⟨h.m,h.c,by rw [h.l];simp,by rw [h.q];simp,by rw [h.q];simp,by rw [h.l];simp⟩,h.p,by rw [h.pl];simp,by have:=h.g;omega,h.o,by have:=h.on;omega,by rw [h.e];simp,by rw [h.e];simp,by have:=h.h;omega⟩
theorem OkL.run {r:RepD} {i:Nat} (h:OkL r i) (steps:Int) {clock:Int} (hc:W32 clock):OkL (zDs r steps clock) (i+1):=by
 unfold zDs;split
 ·exact ⟨h.role,h.host,h.gen,h.m,h.c,h.l,h.q,h.p,h.pl,by have:=h.g;omega,h.o,by have:=h.on;omega,h.t,h.e,by have:=h.h;omega⟩
 rename_i hne;have hst:0<=stp steps/\stp steps<=64:=by unfold stp;omega
 have hlim:limS (stp steps)<=64:=by unfold limS;omega
 have hR:OkR r.rec_ 0:=⟨h.m,h.c,by rw [h.l];simp,by rw [h.q];simp,by rw [h.q];simp,by rw [h.l];simp⟩
 have hA:=hR.adv (stp steps) hc;have hQ:=zOJ r.rec_ (stp steps) clock h.q;have hO:=zEa r.rec_ (stp steps) clock;rw [h.q] at hA;simp only [List.length_nil] at hA;unfold zCV;generalize advD r.rec_ (stp steps) clock=A at hA hQ hO;obtain ⟨a,o⟩:=A;simp only at hA hQ hO ⊢;have hal:=hA.l;have hH:=zEl r.gate o;unfold logA runA;simp only;have hcnt:=zCy hA.m;have hpush:∀ s:SndD,s=(zCT r.out ⟨r.out.tail,a.m.count,a.log⟩).1->(∀ g∈s.queue,OkG g)/\s.queue.length<=i+1/\L64 s.tail:=by
  intro s hs
  have h0:(∀ g∈r.out.queue,OkG g)/\r.out.queue.length<=i+1/\L64 r.out.tail:=⟨h.o,by have:=h.on;omega,h.t⟩
  unfold zCT at hs
  (repeat' split at hs)
  ·subst hs;exact h0
  ·subst hs;exact h0
  ·subst hs;exact h0
  subst hs;refine ⟨fun g hg=>?_,?_,hcnt⟩
  ·rcases List.mem_append.1 hg with q|q
   ·exact h.o g q
   simp at q;subst q;exact ⟨h.t,hcnt,hA.t,by simp only;omega⟩
  simp only [zWL,zWU,List.length_nil];have:=h.on;omega
 have hout:∀ s:SndD,s=(if r.role=1/\(a.log≠[]\/a.m.count≠r.out.tail) then (zCT r.out ⟨r.out.tail,a.m.count,a.log⟩).1 else r.out)->(∀ g∈s.queue,OkG g)/\s.queue.length<=i+1/\L64 s.tail:=by
  intro s hs
  split at hs
  ·exact hpush s hs
  subst hs;exact ⟨h.o,by have:=h.on;omega,h.t⟩
 obtain ⟨q1,q2,q3⟩:=hout _ rfl;refine ⟨h.role,h.host,h.gen,hA.m,hA.c,rfl,hQ,h.p,h.pl,?_,q1,q2,q3,h.e,?_⟩
 ·simp only;have:=h.g;omega
 simp only [zWL];have:=h.h;omega
theorem zTv:OkM zMch:=by
 refine ⟨⟨fun i=>⟨by simp,by simp⟩,⟨by simp,by simp⟩,fun i=>⟨by simp,by simp⟩,by simp⟩,by intro w hw;simp at hw,by simp,by simp,⟨by simp,by simp⟩,?_,?_,⟨by simp,by simp⟩,⟨by simp,by simp⟩,by simp⟩
 ·constructor<;>(constructor<;>simp)
 constructor<;>(constructor<;>simp)
theorem zRec_r:OkR zRec 0:=⟨zTv,zAp,by simp,by simp,by simp,by simp⟩
abbrev dskO (x:OutD):Prop:=x.kind=3\/x.kind=4
theorem req_at (d:DskD) (t:Int):dskO (zB9 d t).1->(zB9 d t).1.at_=t:=by
 unfold zB9 dskO
 (repeat' split)<;>simp
theorem zRu (d:DskD) (l:List Int) (c t:Int):∀ x∈(zBQ d l c t).2,dskO x->x.at_=t:=by
 unfold zBQ;split
 ·simp
 split
 ·simp
 intro x hx
 rw [List.mem_singleton.1 hx];exact req_at _ _
theorem zRw (d:DskD) (l:List Int) {c:Int} (hc:c=1\/c=2) (t:Int):(zBQ d l c t).1.state=1->d.state=1\/∃ x∈(zBQ d l c t).2,dskO x:=by
 unfold zBQ;split
 ·intro h;exact .inl h
 split
 ·intro h;simp at h
 intro _
 refine .inr ⟨_,List.mem_singleton.2 rfl,?_⟩;unfold zB9 dskO;rcases hc with rfl|rfl<;>simp
theorem dsk_at (d:DskD) (l:List Int) (p v t:Int):∀ x∈(zBI d l p v t).2,dskO x->x.at_=t:=by
 unfold zBI
 (repeat' split)<;>first|exact zRu _ _ _ _|simp
theorem dsk_st (d:DskD) (l:List Int) (p v t:Int):(zBI d l p v t).1.state=1->d.state=1\/∃ x∈(zBI d l p v t).2,dskO x:=by
 unfold zBI
 (repeat' split)<;>first|(rename_i q;exact zRw _ _ q _)|(intro h;exact .inl h)|(intro h;simp at h)
theorem nic_at (n:NicD) (l:List Int) (p v t:Int):∀ x∈(zAb n l p v t).2,¬ dskO x:=by
 unfold zAb dskO
 (repeat' split)<;>first|simp|(simp only [];split<;>simp)
theorem zS8 (m:MchD) (p v t:Int):∀ x∈(zAL m p v t).2,dskO x->x.at_=t:=by
 unfold zAL
 (repeat' split)<;>first|exact dsk_at _ _ _ _ _|(intro x hx q;exact absurd q (nic_at _ _ _ _ _ x hx))|simp
theorem zTA (m:MchD) (p v t:Int):(zAL m p v t).1.dk.state=1->m.dk.state=1\/∃ x∈(zAL m p v t).2,dskO x:=by
 unfold zAL
 (repeat' split)<;>first|exact dsk_st _ _ _ _ _|(intro h;exact .inl h)
theorem zVY (m:MchD) (p k:Int):(zAd m p k).1.dk=m.dk:=by
 unfold zAd
 (repeat' split)<;>rfl
theorem zUR (m:MchD) (e:EffD) (k t:Int):∀ x∈(zBH m e k t).2,dskO x->x.at_=t:=by
 unfold zBH
 (repeat' split)<;>first|exact zS8 _ _ _ _|simp
theorem zUS (m:MchD) (e:EffD) (k t:Int):(zBH m e k t).1.dk.state=1->m.dk.state=1\/∃ x∈(zBH m e k t).2,dskO x:=by
 unfold zBH;split
 ·intro h
  simp only [zVY] at h;exact .inl h
 (repeat' split)<;>first|exact zTA _ _ _ _|(intro h;exact .inl h)
theorem zQ1 (m:MchD):(zBg m).dk=m.dk:=by
 show (zAK m).dk=m.dk
 unfold zAK
 (repeat' split)<;>rfl
theorem zVu (m:MchD) (k:Int):∀ x∈(stepD m k).2,dskO x->x.at_=m.count:=by
 unfold stepD;split
 ·exact zUR _ _ _ _
 simp
theorem zVv (m:MchD) (k:Int):(stepD m k).1.dk.state=1->m.dk.state=1\/∃ x∈(stepD m k).2,dskO x:=by
 unfold stepD;split
 ·intro h
  rw [<- zQ1 m];exact zUS _ _ _ _ h
 intro h;exact .inl h
theorem zGV (m:MchD) (k:Int):(stepD m k).1.count=if runsD m=true then m.count+1 else m.count:=by
 unfold stepD;split
 ·show (zBH _ _ _ _).1.count+1=_
  rw [zD3,zDE]
 rfl
theorem zRE (m:MchD) (e:EvD) (h:e.kind=6\/e.kind=2):(applyD m e).1.dk=m.dk:=by
 unfold applyD
 (repeat' split)<;>first|rfl|(exfalso;omega)
theorem zDy (m:MchD) (e:EvD) (h:m.halted=true):applyD m e=(m,false):=by
 unfold applyD;rw [if_pos (.inr h)]
structure Lg (f c:Int) (l:List EntD):Prop where
 a:∀ e∈l,f<=e.at_/\e.at_<=c/\evVal e.ev=true
 o:ordD l=true
 t:∀ e,l.getLast? =some e->e.ev.kind=1->e.at_<c
theorem zMd:∀ (l:List EntD) (e:EntD),ordD l=true->(∀ a,l.getLast? =some a->a.at_<=e.at_/\(a.ev.kind=1->a.at_<e.at_))->ordD (l++[e])=true
 | [],e,_,_=>rfl
 | [a],e,_,h=>by
  obtain ⟨h1,h2⟩:=h a rfl;have q:¬ (e.at_<a.at_\/(e.at_=a.at_/\a.ev.kind=1)):=by
   rintro (q|⟨q,z⟩)
   ·omega
   have:=h2 z;omega
  simp only [zWd,zWj,ordD,Bool.and_true,zWl,Bool.or_eq_false_iff,Bool.and_eq_false_iff,decide_eq_false_iff_not];refine ⟨fun z=>q (.inl z),?_⟩
  by_cases z:a.ev.kind=1
  ·exact .inl (fun y=>q (.inr ⟨y,z⟩))
  exact .inr z
 | a::b::r,e,ho,h=>by
  rw [ordD,zWJ] at ho;rw [zWd,zWd,ordD,zWJ];exact ⟨ho.1,zMd (b::r) e ho.2 (fun x hx=>h x (by rw [List.getLast?_cons_cons];exact hx))⟩
theorem Lg.up {f c c':Int} {l:List EntD} (h:Lg f c l) (hc:c<=c'):Lg f c' l :=
 ⟨fun e he=>by have:=h.a e he;exact ⟨this.1,by omega,this.2.2⟩,h.o,fun e he hk=>by have:=h.t e he hk;omega⟩
theorem Lg.add {f c c':Int} {l:List EntD} (h:Lg f c l) (e:EvD) (hf:f<=c) (hv:evVal e=true) (hc:c<=c') (hk:e.kind=1->c<c'):Lg f c' (l++[⟨c,e⟩]):=by
 refine ⟨fun x hx=>?_,zMd l _ h.o (fun a ha=>?_),fun x hx hk'=>?_⟩
 ·rcases List.mem_append.1 hx with q|q
  ·have:=h.a x q;exact ⟨this.1,by omega,this.2.2⟩
  rw [List.mem_singleton.1 q];exact ⟨hf,hc,hv⟩
 ·exact ⟨(h.a a (List.mem_of_getLast? ha)).2.1,h.t a ha⟩
 rw [List.getLast?_append] at hx;simp at hx;subst hx;exact hk hk'
structure RunI (b f:Int) (s:Prop) (r:RecD) (o:List OutD):Prop where
 m:mayD r.m=true
 lg:Lg f r.m.count r.log
 fc:f<=r.m.count
 bc:b<=r.m.count
 dk:r.m.dk.state=1->s\/∃ x∈o,dskO x
 ot:∀ x∈o,dskO x->b<=x.at_
theorem RunI.offer {b f:Int} {s:Prop} {r:RecD} {o:List OutD} (h:RunI b f s r o) (hM:OkM r.m) {e:EvD} (hv:evVal e=true) (hk:e.kind=6\/e.kind=2) (hn:W32 e.n):RunI b f s (zAV r e) o:=by
 have hc:=(zCx hM hn).2;unfold zAV;split
 ·refine ⟨zBl hM h.m e,?_,?_,?_,?_,h.ot⟩
  ·show Lg f (applyD r.m e).1.count _
   rw [hc];exact h.lg.add e h.fc hv (by omega) (fun z=>by omega)
  ·show f<=(applyD r.m e).1.count;rw [hc];exact h.fc
  ·show b<=(applyD r.m e).1.count;rw [hc];exact h.bc
  show (applyD r.m e).1.dk.state=1->_;rw [zRE r.m e hk];exact h.dk
 exact h
theorem RunI.tick {b f:Int} {s:Prop} {r:RecD} {o:List OutD} (h:RunI b f s r o) (hM:OkM r.m):RunI b f s (zAu r) o:=by
 unfold zAu;split
 ·exact h.offer hM (by rfl) (.inr rfl) zAp
 exact h
theorem zII {m:MchD} (h:readsD m=true):runsD m=true:=by
 unfold readsD at h;simp only [zWJ] at h;exact h.1
theorem RunI.go {b f:Int} {s:Prop} {r:RecD} {o:List OutD} (h:RunI b f s r o) (hM:OkM r.m):RunI b f s (goR r).1 (o++(goR r).2):=by
 have hcnt:=zGV r.m r.clock;have hle:r.m.count<=(stepD r.m r.clock).1.count:=by rw [hcnt];split<;>omega
 refine ⟨zE5 hM h.m _,?_,Int.le_trans h.fc hle,Int.le_trans h.bc hle,fun q=>?_,fun x hx q=>?_⟩
 ·show Lg f (stepD r.m r.clock).1.count (clkR r).log
  unfold clkR;split
  ·rename_i z;rw [if_pos (zII z)] at hcnt;exact h.lg.add ⟨1,r.clock,[]⟩ h.fc (by rfl) hle (fun _=>by omega)
  exact h.lg.up hle
 ·rcases zVv r.m r.clock q with z|⟨x,hx,z⟩
  ·rcases h.dk z with y|⟨x,hx,y⟩
   ·exact .inl y
   exact .inr ⟨x,List.mem_append_left _ hx,y⟩
  exact .inr ⟨x,List.mem_append_right _ hx,z⟩
 rcases List.mem_append.1 hx with z|z
 ·exact h.ot x z q
 rw [zVu r.m r.clock x z q];exact h.bc
theorem RunI.run:∀ (n:Nat) {b f:Int} {s:Prop} {r:RecD} {k:Nat} {o:List OutD},RunI b f s r o->OkR r k->RunI b f s (runR n r o).1 (runR n r o).2
 | 0,_,_,_,_,_,_,h,_=>h
 | n+1,b,f,s,r,k,o,h,hR=>by
  obtain ⟨h1,-⟩:=hR.tick;have h2:=h.tick hR.m;unfold runR;split
  ·exact h2
  exact RunI.run n (h2.go h1.m) h1.go
theorem zQh {r:RecD} (h:r.m.halted=true):zAu r=r:=by
 unfold zAu zAV;split
 ·rw [zDy _ _ h];rfl
 rfl
theorem run_halt:∀ (n:Nat) {r:RecD} {o:List OutD},r.m.halted=true->(runR n r o).1.m.halted=true
 | 0,_,_,h=>h
 | n+1,r,o,h=>by
  unfold runR;rw [zQh h,if_pos (by unfold zDT;rw [h];rfl)]
  exact h
theorem zPm (r:RecD) (e:EvD):r.log.length<=(zAV r e).log.length:=by
 unfold zAV;split<;>simp
theorem zM6 (r:RecD):r.log.length<=(zAu r).log.length:=by
 unfold zAu;split
 ·exact zPm _ _
 exact zWN _
theorem go_log (r:RecD):r.log.length<=(goR r).1.log.length:=by
 show _<=(clkR r).log.length
 unfold clkR;split<;>simp
theorem zQP:∀ (n:Nat) (r:RecD) (o:List OutD),r.log.length<=(runR n r o).1.log.length
 | 0,_,_=>zWN _
 | n+1,r,o=>by
  unfold runR;split
  ·exact zM6 r
  exact zWg (zM6 r) (zWg (go_log _) (zQP n _ _))
theorem zT4 {r:RecD} {n b:Int} (hR:OkR r 0) (hm:mayD r.m=true) (hl:r.log=[]) (hq:r.queue=[⟨6,n,[]⟩]) (hn:W32 n) {clock:Int} (hc:W32 clock) (hb:b<=r.m.count) (steps:Int) :
  RunI b r.m.count (r.m.dk.state=1) (advD r steps clock).1 (advD r steps clock).2/\(advD r steps clock).1.queue=[]/\((advD r steps clock).1.log≠[]\/(advD r steps clock).1.m.halted=true):=by
 have hA:advD r steps clock=runR (limS steps) (zBc r clock) []:=by unfold advD;rw [if_pos hm]
 rw [hA];have hQ:=hR.queue hc;have hq0:zBc r clock={zAV {r with clock:=max r.clock clock} ⟨6,n,[]⟩ with queue:=[]}:=by unfold zBc;rw [hq];rfl
 have i0:RunI b r.m.count (r.m.dk.state=1) {r with clock:=max r.clock clock} []:=⟨hm,⟨by show ∀ e∈r.log,_;rw [hl];simp,by show ordD r.log=true;rw [hl];rfl,by show ∀ e,r.log.getLast? =some e->_;rw [hl];simp⟩,Int.le_refl _,hb,fun z=>.inl z,by simp⟩
 have i1:=i0.offer hR.m (e:=⟨6,n,[]⟩) (by rfl) (.inl rfl) hn
 have i2:RunI b r.m.count (r.m.dk.state=1) (zBc r clock) []:=by rw [hq0];exact ⟨i1.m,i1.lg,i1.fc,i1.bc,i1.dk,i1.ot⟩
 refine ⟨RunI.run _ i2 hQ,by rw [zEH];rfl,?_⟩
 cases hh:r.m.halted with
 | true =>
  refine .inr (run_halt _ ?_);rw [hq0];show (zAV _ _).m.halted=true
  unfold zAV;rw [zDy _ _ (by exact hh)]
  exact hh
 | false =>
  refine .inl (fun z=>?_)
  have h1:=zQP (limS steps) (zBc r clock) [];rw [z] at h1;have h2:(zBc r clock).log=[⟨r.m.count,⟨6,n,[]⟩⟩]:=by
   rw [hq0];show (zAV _ _).log=_
   unfold zAV applyD;simp [hm,hh,hl]
  rw [h2] at h1;simp at h1
theorem zJq:∀ (l:List EntD) (f:Int),(∀ e∈l,evVal e.ev=true)->(zBn f l).length<=211*l.length
 | [],_,_=>by simp [zBn]
 | e::l,f,h=>by
  have h1:=zAS (e.at_-f);have h2:=zJr (h e (zWM ..));have h3:=zJq l e.at_ (fun x hx=>h x (zWI _ hx))
  simp only [zBn,zWL,zWU];omega
theorem zTp {f c:Int} {l:List EntD} (h:Lg f c l) (hf:f<=c) (hn:l.length<=200):(zAZ ⟨f,c,l⟩).2=0:=by
 have hb:zCI l c=false:=by
  unfold zCI;rw [List.any_eq_false];intro e he;have:=h.a e he;simp;omega
 have hE:zCq l f=0:=by
  have ha:l.all (fun e=>evVal e.ev)=true:=List.all_eq_true.2 (fun e he=>(h.a e he).2.2)
  have hfo:firstOk f l=true:=by
   cases l with
   | nil=>rfl
   | cons e r=>have:=(h.a e (zWM ..)).1;simpa [firstOk] using this
  rw [zIB (by omega) ha (by rw [h.o,hfo];simp)]
  have h1:=zJq l f (fun e he=>(h.a e he).2.2)
  have h2:=zAS (l.length:Int);rw [if_neg (by rw [zWL];omega)]
 unfold zAZ;rw [if_neg (by rw [hb];simp;omega)]
 unfold logD;rw [if_pos hE]
theorem zHu:∀ (q:List SegD) (b:Int) (g:SegD),chainOk b q=true->g.from_=lastAt b q->(zAZ g).2=0->chainOk b (q++[g])=true/\lastAt b (q++[g])=g.known
 | [],b,g,_,h,hs=>by
  simp only [lastAt] at h;simp [chainOk,lastAt,zDO,h,hs]
 | x::q,b,g,hc,h,hs=>by
  rw [chainOk,zWJ] at hc;rw [lastAt] at h;obtain ⟨a1,a2⟩:=zHu q x.known g hc.2 h hs;rw [zWd,chainOk,lastAt,a1,Bool.and_true];exact ⟨hc.1,a2⟩
theorem zJ4:∀ (l:List OutD) (g:GateD),(l.foldl zCJ g).acked=g.acked
 | [],_=>rfl
 | o::l,g=>by
  rw [List.foldl_cons,zJ4 l];unfold zCJ
  (repeat' split)<;>rfl
theorem zMH (g:GateD) (l:List OutD):(zDj g l).1.acked=g.acked:=by
 unfold zDj;split
 ·exact zJ4 l g
 rfl
theorem zOg {b:Int}:∀ (l:List OutD) (c:Int × Int),(∀ x∈l,dskO x->b<=x.at_)->(b<=c.2\/∃ x∈l,dskO x)->b<=(cmdL c l).2
 | [],c,_,h=>by
  rcases h with h|⟨x,hx,-⟩
  ·exact h
  cases hx
 | o::l,c,ha,h=>by
  show b<=(cmdL (cmd1 c o) l).2
  refine zOg l _ (fun x hx=>ha x (zWI _ hx)) ?_
  unfold cmd1;split
  ·rename_i z;exact .inl (ha o (zWM ..) z)
  rename_i z;rcases h with h|⟨x,hx,hd⟩
  ·exact .inl h
  rcases List.mem_cons.1 hx with q|q
  ·subst q;exact absurd hd z
  exact .inr ⟨x,q,hd⟩
def zEP (r:RepD) (e:EvD):RepD × Bool:=if zGu r=true/\(e.kind=3\/e.kind=5\/e.kind=6) then ({r with rec_:=(zCH r.rec_ e).1},(zCH r.rec_ e).2) else (r,false)
abbrev balE (n:Int):EvD:=⟨6,n,[]⟩
structure OkY (r:RepD) (i:Nat) (b:Int):Prop where
 l:OkL r i
 m:mayD r.rec_.m=true
 bs:r.out.base=1
 kn:r.out.known=b
 ch:chainOk b r.out.queue=true
 ta:r.out.tail=lastAt b r.out.queue
 tc:r.out.tail=r.rec_.m.count
 bc:b<=r.rec_.m.count
 ak:r.gate.acked=b
 dk:r.rec_.m.dk.state=1->b<=r.cmdAt
 qn:r.out.queue.length=i\/r.rec_.m.halted=true
theorem OkY.snd {r:RepD} {i:Nat} {b:Int} (h:OkY r i b) (hi:i<=8):zBR r.out=true:=by
 have hon:=h.l.on;have ht:=h.ta;have hc:=h.ch;have hk:=h.kn;have h0:¬ (r.out.base<1\/4611686018427387904<r.out.base\/8<r.out.queue.length):=by rw [h.bs];omega
 unfold zBR;rw [if_neg h0];cases hq:r.out.queue with
 | nil =>
  rw [hq] at ht;simp only [lastAt] at ht;simp only [decide_eq_true_eq];omega
 | cons g q =>
  rw [hq] at hc ht;have hc2:=hc;rw [chainOk] at hc2;simp only [zWJ,decide_eq_true_eq] at hc2;rw [<- hc2.1.1] at hc ht hk;simp only [hc,ht,hk,Int.le_refl,decide_true,Bool.and_self]
theorem OkY.round {r:RepD} {i:Nat} {b:Int} (h:OkY r i b) (hi:i<8) {n:Int} (hn:W32 n):OkY (zDs {r with rec_:={r.rec_ with queue:=[balE n]}} 5 0) (i+1) b:=by
 have hl:=h.l;have hon:=hl.on;have hne:¬ (r.role=1/\8<=r.out.queue.length):=by omega
 have hR:OkR {r.rec_ with queue:=[balE n]} 0:=⟨hl.m,hl.c,by show r.rec_.log.length<=0;rw [hl.l];simp,by simp,fun e he=>by rw [List.mem_singleton.1 he];exact ⟨hn,by simp⟩,by show ∀ e∈r.rec_.log,_;rw [hl.l];simp⟩
 have hA:=hR.adv 5 zAp;have hO:=zEa {r.rec_ with queue:=[balE n]} 5 0
 obtain ⟨hI,hQ,hG⟩:=zT4 hR h.m hl.l rfl hn zAp h.bc 5;have hh:r.rec_.m.halted=true->(advD {r.rec_ with queue:=[balE n]} 5 0).1.m.halted=true:=fun z=>by
  unfold advD;rw [if_pos h.m];refine run_halt _ ?_;show (zAV _ _).m.halted=true
  unfold zAV;rw [zDy _ _ (by exact z)]
  exact z
 unfold zDs;rw [if_neg hne];rw [show stp 5=5 by decide]
 unfold zCV;simp only;generalize advD {r.rec_ with queue:=[balE n]} 5 0=A at *
 obtain ⟨a,o⟩:=A;simp only at hA hO hI hQ hG hh ⊢;rw [show limS 5=5 by decide] at hA hO
 have hal:=hA.l;simp only [zWU,List.length_nil] at hal;have hcnt:=zCy hA.m;have hlg:=hI.lg;have hfc:=hI.fc;rw [show ({r.rec_ with queue:=[balE n]}:RecD).m.count=r.out.tail from h.tc.symm] at hlg hfc
 have hsg:=zTp hlg hfc (by omega)
 have hsO:=h.snd (by omega)
 obtain ⟨s1,s2⟩:=zHu r.out.queue b ⟨r.out.tail,a.m.count,a.log⟩ h.ch h.ta hsg;have hp:zCT r.out ⟨r.out.tail,a.m.count,a.log⟩=({r.out with queue:=r.out.queue++[⟨r.out.tail,a.m.count,a.log⟩],tail:=a.m.count},0):=by
  unfold zCT;rw [if_neg (by rw [hsO];simp),if_neg (by rw [hsg];simp),if_neg (by omega)]
 have hH:=zEl r.gate o;have hK:=zMH r.gate o;unfold logA runA segA;simp only [hl.role,true_and];rw [hp];have hout:∀ s:SndD,s=(if a.log≠[]\/a.m.count≠r.out.tail then {r.out with queue:=r.out.queue++[⟨r.out.tail,a.m.count,a.log⟩],tail:=a.m.count} else r.out) ->
   (∀ g∈s.queue,OkG g)/\s.queue.length<=i+1/\s.tail=a.m.count/\s.base=1/\s.known=b/\chainOk b s.queue=true/\s.tail=lastAt b s.queue/\(s.queue.length=i+1\/a.m.halted=true):=by
  intro s hs
  split at hs
  ·subst hs;refine ⟨fun g hg=>?_,by simp;omega,rfl,h.bs,h.kn,s1,s2.symm,?_⟩
   ·rcases List.mem_append.1 hg with q|q
    ·exact hl.o g q
    rw [List.mem_singleton.1 q];exact ⟨hl.t,hcnt,hA.t,by simp only;omega⟩
   rcases h.qn with q|q
   ·exact .inl (by simp [q])
   exact .inr (hh q)
  rename_i z;subst hs;refine ⟨hl.o,by omega,?_,h.bs,h.kn,h.ch,h.ta,?_⟩
  ·by_cases q:a.m.count=r.out.tail
   ·exact q.symm
   exact absurd (.inr q) z
  rcases hG with q|q
  ·exact absurd (.inl q) z
  exact .inr q
 obtain ⟨q1,q2,q3,q4,q5,q6,q7,q8⟩:=hout _ rfl;refine ⟨⟨rfl,hl.host,hl.gen,hA.m,hA.c,rfl,hQ,hl.p,hl.pl,?_,q1,q2,by rw [q3];exact hcnt,hl.e,?_⟩,hI.m,q4,q5,q6,q7,q3,hI.bc,by rw [hK];exact h.ak,fun z=>?_,q8⟩
 ·try simp only
  have:=hl.g;omega
 ·simp only [zWL];have:=hl.h;omega
 refine zOg o _ hI.ot ?_;rcases hI.dk z with y|y
 ·exact .inl (h.dk y)
 exact .inr y
end Go.Proofs.YthjpcmecgjfilaaGreat
end
