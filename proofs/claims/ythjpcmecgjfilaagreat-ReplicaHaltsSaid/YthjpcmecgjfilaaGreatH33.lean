/- A part of the proof of ReplicaHalts. -/
import Derived.Test.YthjpcmecgjfilaaGreatH03
import Derived.Test.YthjpcmecgjfilaaGreatH05
import Derived.Test.YthjpcmecgjfilaaGreatH06
import Derived.Test.YthjpcmecgjfilaaGreatH31
import Derived.Test.YthjpcmecgjfilaaGreatH32
set_option linter.unusedSimpArgs false
set_option linter.unusedVariables false
set_option maxHeartbeats 16000000
set_option maxRecDepth 100000
section
namespace Go.Proofs.YthjpcmecgjfilaaGreat
open Go.Ab Go.RowKit Tryz
theorem zNr (r:RepD) (steps clock:Int) (h:OkP r 400) (hc:W32 clock) (hq:r.rec_.queue.length<=400) (hg:r.gate.held.length<=30000) (ht:L64 r.out.tail):zAD prog 32 [.st r.row,iv steps,uv clock] (.st (zCR r steps clock).row):=by
 have hadv:=adv_ok r.rec_ steps clock 400 h.c (by omega) hc
 have hA:=h.c.adv steps hc;have hO:=zEU r.rec_ steps clock;have hlim:=zK6 steps;unfold zCR;generalize advD r.rec_ steps clock=A at *
 obtain ⟨a,o⟩:=A;simp only at *
 have hhold:=zO5 r.gate o (by omega) (by omega)
 have hlo:=zBD o;have hAl:=hA.l;have hAm:=hA.m.n;obtain ⟨G,hG⟩:∃ G,G=zDh r.gate o:=⟨_,rfl⟩;rw [<- hG] at hhold;refine sX func32 ntmps32 ?_;(repeat intro K hK);apply wr
 refine cX (hadv) ?_;(repeat intro K hK);apply wr
 refine cY (hhold) @hlo ?_;(repeat intro K hK);apply wr
 obtain ⟨I,hI⟩:∃ I:Nat->St->Prop,I=(fun kk ss=>∃ (i:Nat) (c t:Int),i<=o.length/\kk=o.length-i/\(cmdL (r.cmd,r.cmdAt) (o.take i)=(c,t))/\ss=⟨95,[(31,.int .i64 i),(30,.int .i64 o.length),(29,.sl 4 false (outs o)),(3,.ptr 0 125 0 0),(6,.ptr 1 125 0 0)],59,[(0,some (repO (RepD.row {r with rec_:=a,gate:=G.1,cmd:=c,cmdAt:=t}))),(1,some (repO zRR))],0⟩):=⟨_,rfl⟩
 refine lX I (id) (by rw [hI];exact ⟨0,r.cmd,r.cmdAt,by simp,rfl,rfl,rfl⟩) ?_
 intro kk ss hIk _
 rw [hI] at hIk;obtain ⟨i,c,t,hi,rfl,hx,rfl⟩:=hIk;refine au1 @hlo ?_;(repeat intro K hK);apply wr
 refine zAC rfl (fun hh=>?_) (fun hh=>?_)
 ·simp at hh;obtain ⟨x,hxo,-,htk,-⟩:=get_at hh;have hget:=zDJ hxo;have hst:cmdL (r.cmd,r.cmdAt) (o.take (i+1))=cmd1 (c,t) x:=by unfold cmdL at hx ⊢;rw [htk,List.foldl_append,hx];rfl
  refine au1 @hget ?_;(repeat intro K hK);apply wr
  refine zAC rfl (fun hk=>?_) (fun hk=>?_)
  ·have hc1:cmd1 (c,t) x=(0,x.at_):=by unfold cmd1;rw [if_pos (by simpa using hk)]
   rw [hc1] at hst;refine au ?_;(repeat intro K hK);apply wr
   refine zAE 6 [0,1,0,4,15,31] [(4,([[],[0],[],[2]],[(1,3)])),(1,([],[])),(1,([],[]))] ?_;refine af ?_;(repeat intro K hK);apply wr
   refine af ?_;(repeat intro K hK);apply wr
   exact aX (id) (by rw [hI];exact ⟨i+1,0,x.at_,by omega,rfl,hst,rfl⟩) (zAA (n:=(i:Int)+1) (by omega) (by omega))
  have hc1:cmd1 (c,t) x=(c,t):=by unfold cmd1;rw [if_neg (by simpa using hk)]
  rw [hc1] at hst;refine af ?_;(repeat intro K hK);apply wr
  exact aX (id) (by rw [hI];exact ⟨i+1,c,t,by omega,rfl,hst,rfl⟩) (zAA (n:=(i:Int)+1) (by omega) (by omega))
 simp at hh;rw [zGN hh] at hx;refine af ?_;(repeat intro K hK);apply wr
 refine cXf (zIM {r with rec_:=a,gate:=G.1,cmd:=c,cmdAt:=t}) ?_;(repeat intro K hK);apply wr
 have hbz:zEG {r with rec_:=a,gate:=G.1,cmd:=c,cmdAt:=t}=zEG {r with rec_:=a}:=rfl
 clear hK;clear K;rename_i K hK;refine zB1 (α:=Int) (fun d=>(⟨95,[(3,.ptr 0 125 0 0),(6,.ptr 1 125 0 0)],60,[(0,some (repO (RepD.row {r with rec_:=a,gate:=G.1,cmd:=d,cmdAt:=t}))),(1,some (repO zRR))],0⟩:St)) (fun d=>d=(if zEG {r with rec_:=a}=true then c else 0)) hK (fun d hxhJ=>?_) (fun hJ=>?_)
 all_goals clear hK
 ·have hR:runA r a o={r with rec_:=a,gate:=G.1,cmd:=d,cmdAt:=t}:=by unfold runA;rw [hx,<- hG,hxhJ]
  have hcut:=cut_ok a (by omega) (by omega) (by have:=hA.q;omega)
  have hcc:=zGU r.hist a.log (by have:=h.h;omega) (by omega)
  have hcnt:=zCb hA.m;have hsg:OkG ⟨r.out.tail,a.m.count,a.log⟩:=⟨ht,hcnt,hA.t,by show a.log.length<=_;omega⟩
  have hpush:=zU6 r.out ⟨r.out.tail,a.m.count,a.log⟩ h.o hsg (by have:=h.on;omega)
  refine af ?_;(repeat intro K hK);apply wr
  refine cXf (hcut) ?_;(repeat intro K hK);apply wr
  refine cYf (hcc) @zAt ?_;(repeat intro K hK);apply wr
  have hbb:(r.role==1&&(decide (0<a.log.length)||a.m.count != r.out.tail))=decide (r.role=1/\(a.log≠[]\/a.m.count≠r.out.tail)):=by
   cases a.log<;>by_cases q1:r.role=1<;>by_cases q2:a.m.count=r.out.tail<;>simp [q1,q2]
  refine zAC rfl (fun hb=>?_) (fun hb=>?_)
  ·have hp:r.role=1/\(a.log≠[]\/a.m.count≠r.out.tail):=by rw [hbb] at hb;exact of_decide_eq_true hb
   have hF:logA (runA r a o)={r with rec_:=cutD a,gate:=G.1,cmd:=d,cmdAt:=t,hist:=r.hist++a.log,out:=(zCP r.out ⟨r.out.tail,a.m.count,a.log⟩).1}:=by rw [hR];unfold logA segA;simp only;rw [if_pos hp]
   refine af ?_;(repeat intro K hK);apply wr
   refine cXf (hpush) ?_;(repeat intro K hK);apply wr
   refine zAI ?_;refine zAB ?_;simp [hF,cutD]
  have hp:¬ (r.role=1/\(a.log≠[]\/a.m.count≠r.out.tail)):=by rw [hbb] at hb;exact of_decide_eq_false hb
  have hF:logA (runA r a o)={r with rec_:=cutD a,gate:=G.1,cmd:=d,cmdAt:=t,hist:=r.hist++a.log}:=by rw [hR];unfold logA;simp only;rw [if_neg hp]
  refine af ?_;(repeat intro K hK);apply wr
  refine zAI ?_;refine zAB ?_;simp [hF,cutD]
 refine zAC rfl (fun hb=>?_) (fun hb=>?_)
 ·refine af ?_;(repeat intro K hK);apply wr
  refine hJ 0 _ (id) ((by rw [hbz] at hb;simp at hb;simp [hb])) ⟨rfl,?_,?_,?_,by simp⟩
  ·simp [leT,ltV,lt1,ren,ren1]
  ·simp [leO,lt1,ren1]
  (simp;try omega)
 refine af ?_;(repeat intro K hK);apply wr
 refine hJ c _ (id) ((by rw [hbz] at hb;simp at hb;simp [hb])) ⟨rfl,?_,?_,?_,by simp⟩
 ·simp [leT,ltV,lt1,ren,ren1]
 ·simp [leO,lt1,ren1]
 (simp;try omega)
def stp (n:Int):Int:=min (max n 0) 64
def zDq (r:RepD) (steps clock:Int):RepD:=if r.role=1/\8<=r.out.queue.length then r else zCR r (stp steps) clock
theorem OkP.up {r:RepD} {k k':Nat} (h:OkP r k) (hk:k<=k'):OkP r k':=⟨h.c.up hk,h.p,h.pl,h.g,h.o,h.on,h.i,h.en,h.h⟩
theorem zP8 (r:RepD) (steps clock:Int) (hl:zFK r=true) (h:OkP r 400) (hc:W32 clock) (hq:r.rec_.queue.length<=400) (hg:r.gate.held.length<=30000) (ht:L64 r.out.tail):zAD prog 9 [.st r.row,iv steps,uv clock] (.st (zDq r steps clock).row):=by
 have hcl:=zB4 r (h.up (by omega))
 have hrl:=zNr r (stp steps) clock h hc hq hg ht;have hst:(if 64<if steps<0 then 0 else steps then 64 else if steps<0 then 0 else steps)=stp steps:=by unfold stp;(repeat' split)<;>omega
 have hlq:=zB5 r.out.queue;refine sX func9 ntmps9 ?_;intros;apply wr;refine cY (hcl) (kX2 @hst @hlq) ?_;intros;apply wr;have h8:(decide ((8:Int)<=r.out.queue.length))=decide (8<=r.out.queue.length):=by simp;omega
 by_cases h1:r.role=1
 ·refine gT10 @h1 rfl ?_;intros;apply wr;refine gT11 @h1 rfl @hlq ?_;intros;apply wr;refine zAC rfl (fun hk=>?_) (fun hk=>?_)
  ·have hR:zDq r steps clock=r:=by unfold zDq;rw [if_pos (by rw [h8] at hk;simpa using hk)]
   refine au ?_;intros;apply wr;refine zAI ?_;refine zAB ?_;simp [hR]
  have hR:zDq r steps clock=zCR r (stp steps) clock:=by unfold zDq;rw [if_neg (by rw [h8] at hk;simpa using hk)]
  refine au ?_;intros;apply wr;refine cX (hrl) ?_;intros;apply wr;refine zAI ?_;refine zAB ?_;simp [hR]
 have h3:r.role=3:=by unfold zFK at hl;simp [h1] at hl;exact hl
 have hR:zDq r steps clock=zCR r (stp steps) clock:=by unfold zDq;rw [if_neg (fun z=>h1 z.1)]
 refine gF10 @h1 rfl ?_;intros;apply wr;refine gT11 @h3 rfl @hlq ?_;intros;apply wr;refine gF10 @h1 rfl ?_;intros;apply wr;refine cX (hrl) ?_;intros;apply wr;refine zAI ?_;refine zAB ?_;simp [hR]

theorem zLC (r:RecD) (e:EvD):(zAV r e).queue=r.queue:=by unfold zAV;split<;>rfl
theorem zIH (r:RecD):(zAu r).queue=r.queue:=by unfold zAu;split;exact zLC _ _;rfl
theorem zRS (r:RecD):(goR r).1.queue=r.queue:=by unfold goR clkR;simp only;split<;>rfl
theorem zEA:∀ (n:Nat) (r:RecD) (o:List OutD),(runR n r o).1.queue=r.queue
 | 0,r,o=>rfl
 | n+1,r,o=>by
  unfold runR;split
  ·exact zIH r
  rw [zEA n,zRS,zIH]
theorem zN2 (r:RecD) (steps clock:Int) (h:r.queue=[]):(advD r steps clock).1.queue=[]:=by
 unfold advD;split
 ·rw [zEA];rfl
 exact h
theorem zO4 (g:GateD) (o:OutD):(zCE g o).held.length<=g.held.length+1:=by
 unfold zCE
 (repeat' split)<;>simp
theorem zJv:∀ (l:List OutD) (g:GateD),(l.foldl zCE g).held.length<=g.held.length+l.length
 | [],g=>by simp
 | o::l,g=>by
  have h1:=zO4 g o;have h2:=zJv l (zCE g o);simp only [List.foldl_cons,zWG];omega
theorem zEc (g:GateD) (l:List OutD):(zDh g l).1.held.length<=g.held.length+l.length:=by
 unfold zDh;split
 ·exact zJv l g
 simp
structure OkL (r:RepD) (i:Nat):Prop where
 role:r.role=1
 host:r.host=0
 gen:r.gen=1
 m:OkM r.rec_.m
 c:W32 r.rec_.clock
 l:r.rec_.log=[]
 q:r.rec_.queue=[]
 p:OkM r.rpl.m
 pl:r.rpl.log=[]
 g:r.gate.held.length<=64*i
 o:∀ g∈r.out.queue,OkG g
 on:r.out.queue.length<=i
 t:L64 r.out.tail
 e:r.inn.early=[]
 h:r.hist.length<=128*i
theorem OkL.okP {r:RepD} {i:Nat} (h:OkL r i) (hi:i<=100):OkP r 400:=by
 refine ⟨⟨h.m,h.c,by rw [h.l];simp,by rw [h.q];simp,by rw [h.q];simp,by rw [h.l];simp⟩,h.p,by rw [h.pl];simp,by have:=h.g;omega,h.o,by have:=h.on;omega,by rw [h.e];simp,by rw [h.e];simp,by have:=h.h;omega⟩
theorem OkL.run {r:RepD} {i:Nat} (h:OkL r i) (steps:Int) {clock:Int} (hc:W32 clock):OkL (zDq r steps clock) (i+1):=by
 unfold zDq;split
 ·exact ⟨h.role,h.host,h.gen,h.m,h.c,h.l,h.q,h.p,h.pl,by have:=h.g;omega,h.o,by have:=h.on;omega,h.t,h.e,by have:=h.h;omega⟩
 rename_i hne;have hst:0<=stp steps/\stp steps<=64:=by unfold stp;omega
 have hlim:limS (stp steps)<=64:=by unfold limS;omega
 have hR:OkR r.rec_ 0:=⟨h.m,h.c,by rw [h.l];simp,by rw [h.q];simp,by rw [h.q];simp,by rw [h.l];simp⟩
 have hA:=hR.adv (stp steps) hc;have hQ:=zN2 r.rec_ (stp steps) clock h.q;have hO:=zEU r.rec_ (stp steps) clock;rw [h.q] at hA;simp only [List.length_nil] at hA;unfold zCR;generalize advD r.rec_ (stp steps) clock=A at hA hQ hO;obtain ⟨a,o⟩:=A;simp only at hA hQ hO ⊢;have hal:=hA.l;have hH:=zEc r.gate o;unfold logA runA;simp only;have hcnt:=zCb hA.m;have hpush:∀ s:SndD,s=(zCP r.out ⟨r.out.tail,a.m.count,a.log⟩).1->(∀ g∈s.queue,OkG g)/\s.queue.length<=i+1/\L64 s.tail:=by
  intro s hs
  have h0:(∀ g∈r.out.queue,OkG g)/\r.out.queue.length<=i+1/\L64 r.out.tail:=⟨h.o,by have:=h.on;omega,h.t⟩
  unfold zCP at hs
  (repeat' split at hs)
  ·subst hs;exact h0
  ·subst hs;exact h0
  ·subst hs;exact h0
  subst hs;refine ⟨fun g hg=>?_,?_,hcnt⟩
  ·rcases List.mem_append.1 hg with q|q
   ·exact h.o g q
   simp at q;subst q;exact ⟨h.t,hcnt,hA.t,by simp only;omega⟩
  simp only [zV7,zWG,List.length_nil];have:=h.on;omega
 have hout:∀ s:SndD,s=(if r.role=1/\(a.log≠[]\/a.m.count≠r.out.tail) then (zCP r.out ⟨r.out.tail,a.m.count,a.log⟩).1 else r.out)->(∀ g∈s.queue,OkG g)/\s.queue.length<=i+1/\L64 s.tail:=by
  intro s hs
  split at hs
  ·exact hpush s hs
  subst hs;exact ⟨h.o,by have:=h.on;omega,h.t⟩
 obtain ⟨q1,q2,q3⟩:=hout _ rfl;refine ⟨h.role,h.host,h.gen,hA.m,hA.c,rfl,hQ,h.p,h.pl,?_,q1,q2,q3,h.e,?_⟩
 ·simp only;have:=h.g;omega
 simp only [zV7];have:=h.h;omega
theorem zTh:OkM zMch:=by
 refine ⟨⟨fun i=>⟨by simp,by simp⟩,⟨by simp,by simp⟩,fun i=>⟨by simp,by simp⟩,by simp⟩,by intro w hw;simp at hw,by simp,by simp,⟨by simp,by simp⟩,?_,?_,⟨by simp,by simp⟩,⟨by simp,by simp⟩,by simp⟩
 ·constructor<;>(constructor<;>simp)
 constructor<;>(constructor<;>simp)
theorem zRec_r:OkR zRec 0:=⟨zTh,zAs,by simp,by simp,by simp,by simp⟩
theorem rm1_ok (r:RepD) (hro:r.role=1) (hm:r.rec_.m.mem.length<=100000):zAD prog 13 [.st r.row] (.st r.rec_.m.row):=by
 refine sZ func13 ntmps13 ?_;exact wx1 (qX1 (zF3 r.rec_.m hm)) trivial @hro
theorem rm2_ok (r:RepD) (hro:r.role=2) (hm:r.rpl.m.mem.length<=100000):zAD prog 13 [.st r.row] (.st r.rpl.m.row):=by
 refine sZ func13 ntmps13 ?_;exact wx1 (qX1 (zF3 r.rpl.m hm)) trivial @hro
end Go.Proofs.YthjpcmecgjfilaaGreat
end
