/- A part of the proof of ReplicaTakes. -/
import Derived.Test.YtjkmhmepljamoaaGreatT34
import Derived.Test.YtjkmhmepljamoaaGreatT35
import Derived.Test.YtjkmhmepljamoaaGreatT46
import Derived.Test.YtjkmhmepljamoaaGreatT47
set_option linter.all false
set_option maxHeartbeats 16000000
set_option maxRecDepth 100000
section
namespace Go.Proofs.YtjkmhmepljamoaaGreat
open Go.Ab Go.RowKit Tryz

structure OkF(a:RepD)(i:Nat):Prop where
 role:a.role=1
 host:a.host=0
 gen:a.gen=1
 m:OkM a.rec_.m
 may:mayD a.rec_.m=true
 c:W32 a.rec_.clock
 l:a.rec_.log=[]
 q:a.rec_.queue=[]
 p:OkM a.rpl.m
 pl:a.rpl.log=[]
 oq:a.out.queue=[]
 b1:1<=a.out.base
 b2:a.out.base<=1+i
 ot:a.out.tail=a.rec_.m.count
 ok:a.out.known=a.rec_.m.count
 e:a.inn.early=[]
 h:a.hist.length<=130*i
 hv:∀e∈a.hist,OkV e.ev
 g:a.gate.held.length<=64*i
 bt:a.beats=i
 wd:detD a.watch
 ws:a.watch.seen=i
 ga:L64 a.gate.acked
structure OkBk(b:RepD)(base:Int)(m:MchD)(hist:List EntD)(i:Nat):Prop where
 role:b.role=2
 r:b.rec_=zRec
 oq:b.out.queue=[]
 e:b.inn.early=[]
 n:b.inn.next=base
 k:b.inn.known=m.count
 j:Bj b.rpl m
 ll:b.rpl.log.length<=130*i
 h:b.hist=hist
 g:b.gate.held.length<=64*i
 wd:detD b.watch
 ws:b.watch.seen=i
 mr:L64 b.mark
def Ys(s:SndD)(c:Int)(l:List EntD):SndD:=if l=[]/\c=s.tail then s else⟨s.base,c,s.known,[⟨s.tail,c,l⟩]⟩
theorem OkF.okP{a:RepD}{i:Nat}(h:OkF a i)(hi:i<=100){q:List EvD}(hq:q.length<=10)(hv:∀e∈q,OkV e):OkP (H3 a q) 400:=by
 have hg:=h.g;have hh:=h.h;refine⟨⟨h.m,h.c,by show a.rec_.log.length<=_;rw[h.l];simp,by show q.length<=_;omega,hv,by show ∀e∈a.rec_.log,_;rw[h.l];simp⟩,h.p,by show a.rpl.log.length<=_;rw[h.pl];simp,by show a.gate.held.length<=_;omega,by show ∀g∈a.out.queue,_;rw[h.oq];simp,by show a.out.queue.length<=_;rw[h.oq];simp,by show ∀e∈a.inn.early,_;rw[h.e];simp,by show a.inn.early.length<=_;rw[h.e];simp,by show a.hist.length<=_;omega⟩
theorem OkF.send{a:RepD}{i:Nat}(h:OkF a i)(hi:i<=100):CM a.out=true:=by
 unfold CM;have h1:=h.b1;have h2:=h.b2;rw[if_neg (by rw[h.oq];simp;omega),h.oq];simp[h.ot,h.ok]
theorem OkBk.okP{b:RepD}{base:Int}{m:MchD}{H:List EntD}{i:Nat}(h:OkBk b base m H i)(hi:i<=100)(hH:H.length<=130*i):OkP b 40000:=by
 have hg:=h.g;have hl:=h.ll;refine⟨by rw[h.r];exact ZO.up (by omega),h.j.j.m,by omega,by omega,by rw[h.oq];simp,by rw[h.oq];simp,by rw[h.e];simp,by rw[h.e];simp,by rw[h.h];omega⟩
theorem OkF.run{a:RepD}{i:Nat}(h:OkF a i)(hi:i<=100){q:List EvD}(hq:q.length<=1)(hv:∀e∈q,OkW1 e)(steps:Int){clock:Int}(hc:W32 clock):
  ∃r g x y l o,EB (H3 a q) steps clock={a with rec_:=r,gate:=g,cmd:=x,cmdAt:=y,hist:=a.hist++l,out:=Ys a.out r.m.count l}/\OkM r.m/\mayD r.m=true/\W32 r.clock/\r.log=[]/\r.queue=[] /\
   SegJ a.rec_.m.count r.m.count l/\Rb a.rec_.m l o r.m/\r.m.count<=a.rec_.m.count+64/\o.length<=64/\g.held.length<=64*(i+1)/\g.acked=a.gate.acked /\
   g=(GH a.gate o).1/\x=(if r.m.dk.state=1 then(WH (a.cmd,a.cmdAt) o).1 else 0)/\y=(WH (a.cmd,a.cmdAt) o).2:=by
 have hne:¬(a.role=1/\8<=a.out.queue.length):=by rw[h.oq];simp
 have hst:0<=stp steps/\stp steps<=64:=by unfold stp;omega
 have hlim:DY (stp steps)<=64:=by unfold DY;omega
 have hR:OkR {a.rec_ with queue:=q} 0:=⟨h.m,h.c,by show a.rec_.log.length<=0;rw[h.l];simp,by show q.length<=_;omega,fun e he=>(hv e he).v,by show ∀e∈a.rec_.log,_;rw[h.l];simp⟩;have hA:=hR.adv (stp steps) hc;have hO:=FZ {a.rec_ with queue:=q} (stp steps) clock;have hQ:=YS (r:={a.rec_ with queue:=q}) h.may (stp steps) clock;have hV:=ZT hR h.may h.l hc (stp steps);have hB:=V7 (r:={a.rec_ with queue:=q}) (Rb.nil _) h.l hR h.may (fun e he=>(hv e he).k) hc (stp steps);have hJ:=adv_j hR h.may h.l hv hc (stp steps);unfold EB;rw[if_neg hne];unfold DD;simp only;generalize Dl {a.rec_ with queue:=q} (stp steps) clock=A at *;obtain⟨r,o⟩:=A;simp only[f9]at hA hO hQ hV hB hJ ⊢;obtain⟨hJ1,hJ2⟩:=hJ;have hal:=hA.l;have hS:SegJ a.rec_.m.count r.m.count r.log:=⟨hJ1.fc,hJ1.lg,by omega,hA.t,hV⟩;have hH:=IJ a.gate o;have hK:=PV a.gate o;have hg:=h.g;have hso:=h.send hi;have hpu:(Cx a.out ⟨a.out.tail,r.m.count,r.log⟩).1=⟨a.out.base,r.m.count,a.out.known,[⟨a.out.tail,r.m.count,r.log⟩]⟩:=by
  have h0:(Af ⟨a.out.tail,r.m.count,r.log⟩).2=0:=by rw[h.ot];exact hS.ok
  unfold Cx;rw[if_neg (by simp[hso]),if_neg (by simp[h0]),if_neg (by rw[h.oq];simp),h.oq];rfl
 have hout:(if a.role=1/\(r.log≠[]\/r.m.count≠a.out.tail)then(Cx a.out ⟨a.out.tail,r.m.count,r.log⟩).1 else a.out)=Ys a.out r.m.count r.log:=by
  unfold Ys;by_cases c:r.log=[]/\r.m.count=a.out.tail
  ·rw[if_pos c,if_neg (fun z=>by rcases z.2 with z|z;exact z c.1;exact z c.2)]
  rw[if_neg c,if_pos ⟨h.role,by by_cases z:r.log=[];exact .inr (fun y=>c ⟨z,y⟩);exact .inl z⟩,hpu]
 refine⟨Qg r,_,_,_,r.log,o,?_,hA.m,hJ1.m,hA.c,rfl,hQ,hS,hB,by show r.m.count<=_;omega,by omega,?_,hK,rfl,rfl,rfl⟩
 ·have hbu:Kb {a with rec_:=r}=decide (r.m.dk.state=1):=by
   unfold Kb LA;show((decide (a.role=1)||_)&&_)=_;rw[h.role];rfl
  unfold Ro Rt;have hbu2:Kb {H3 a q with rec_:=r}=decide (r.m.dk.state=1):=hbu;simp only[hbu2,decide_eq_true_eq];show RepD.mk _ _ _ _ _ _ _ (if a.role=1/\(r.log≠[]\/r.m.count≠a.out.tail)then(Cx a.out ⟨a.out.tail,r.m.count,r.log⟩).1 else a.out) _ _ _ _ _ _=_;rw[hout];rfl
 omega
def Recv(L:List Str)(st:Nat->RepD):Prop:=∀k p,L[k]? =some p->∃c,AC prog 10 [.st (st k).row,.str p] (.tup [.st (st (k+1)).row,.bool c])
theorem nextU{base:Int}{i:Nat}(hi:i<=100)(h1:1<=base)(h2:base<=1+i):1<=base/\base<=4611686018427387904:=⟨h1,by omega⟩
theorem pkA{a:RepD}{i:Nat}(h:OkF a i)(hi:i<=100){r:RecD}{g:GateD}{x y:Int}{l:List EntD}(hm:OkM r.m)(hc:W32 r.clock)(hl:r.log=[])(hq:r.queue=[])(hS:SegJ a.rec_.m.count r.m.count l)(hg:g.held.length<=64*(i+1))(hk:g.acked=a.gate.acked)(a1:RepD)
  (h1:a1={a with rec_:=r,gate:=g,cmd:=x,cmdAt:=y,hist:=a.hist++l,out:=Ys a.out r.m.count l}) :
  OkP a1 40000/\CM a1.out=true/\(∀g∈a1.out.queue,OkG g/\segOk g=true)/\AC prog 9 [.st a1.row] (.tup [.st (RepD.row {a1 with beats:=(i:Int)+1}),.sl 1 false (strs (Jf a.out.base a1.out.queue++[GA ((i:Int)+1) a.gate.acked]))]):=by
 have hga:=h.ga;have hh:=h.h;have hn:=hS.n;have hcm:=Cj hm;have hca:=Cj h.m;have e1:a1.out=Ys a.out r.m.count l:=by rw[h1]
 have hG:OkG ⟨a.out.tail,r.m.count,l⟩:=⟨by rw[h.ot];exact hca,hcm,hS.t,by simp only;omega⟩;have hsg:segOk ⟨a.out.tail,r.m.count,l⟩=true:=by unfold segOk;rw[h.ot,hS.ok];rfl
 have hO:(∀g∈a1.out.queue,OkG g/\segOk g=true)/\a1.out.queue.length<=1/\CM a1.out=true/\a1.out.base=a.out.base:=by
  rw[e1];unfold Ys;split
  ·exact⟨by rw[h.oq];simp,by rw[h.oq];simp,h.send hi,rfl⟩
  refine⟨by simp[hG,hsg],by simp,?_,rfl⟩;have b1:=h.b1;have b2:=h.b2;unfold CM;rw[if_neg (by simp;omega)];rw[h.ot]at hsg;simp[chainOk,lastAt,hsg,h.ot,h.ok]
 obtain⟨o1,o2,o3,o4⟩:=hO;have hP:OkP a1 40000:=by
  refine⟨by rw[h1];exact⟨hm,hc,by show r.log.length<=_;rw[hl];simp,by show r.queue.length<=_;rw[hq];simp,by show ∀e∈r.queue,_;rw[hq];simp,by show ∀e∈r.log,_;rw[hl];simp⟩,by rw[h1];exact h.p,by rw[h1];show a.rpl.log.length<=_;rw[h.pl];simp,by rw[h1];show g.held.length<=_;omega,fun g hg=>(o1 g hg).1,by omega,by rw[h1];show ∀e∈a.inn.early,_;rw[h.e];simp,by rw[h1];show a.inn.early.length<=_;rw[h.e];simp,by rw[h1];show(a.hist++l).length<=_;rw[eX];omega⟩
 refine⟨hP,o3,o1,?_⟩;have hbe:a1.beats=i:=by rw[h1];exact h.bt
 have hac:a1.gate.acked=a.gate.acked:=by rw[h1];exact hk
 have:=Ue a1 hP (by rw[h1];exact h.role) o3 (by rw[hbe];omega) (by rw[hac];exact hga);rw[hbe,hac,o4]at this;exact this
def aP(b:RepD)(n c:Int)(l:List EntD):RepD:={b with inn:=⟨n,c,[]⟩,rpl:={b.rpl with log:=b.rpl.log++l,known:=c},hist:=b.hist++l}
theorem OkBk.feed{b:RepD}{base:Int}{m:MchD}{H:List EntD}{i:Nat}(h:OkBk b base m H i)(hi:i<=20)(hH:H.length<=130*i){c:Int}{l:List EntD}(hS:SegJ m.count c l)(hc:L64 c)(n:Int):OkP (aP b n c l) 40000:=by
 have hP:=h.okP (by omega) hH;have hl:=h.ll;have hn:=hS.n;refine⟨hP.c,hP.p,by show(b.rpl.log++l).length<=_;rw[eX];omega,hP.g,hP.o,hP.on,by show ∀e∈([]:List (Int×SegD)),_;simp,by show([]:List (Int×SegD)).length<=_;simp,by show(b.hist++l).length<=_;rw[eX,h.h];omega⟩
theorem OkBk.inn'{b:RepD}{base:Int}{m:MchD}{H:List EntD}{i:Nat}(hB:OkBk b base m H i):b.inn=⟨base,m.count,[]⟩:=by
 have h1:=hB.n;have h2:=hB.k;have h3:=hB.e;cases hb:b.inn with
 | mk p q s=>rw[hb]at h1 h2 h3;simp only at h1 h2 h3;rw[h1,h2,h3]
theorem recv1{a b:RepD}{i:Nat}(h:OkF a i)(hi:i<=20)(hB:OkBk b a.out.base a.rec_.m a.hist i){c:Int}{l:List EntD}(hc:L64 c)(hS:SegJ a.rec_.m.count c l)(hG:OkG ⟨a.out.tail,c,l⟩/\segOk ⟨a.out.tail,c,l⟩=true):
  AC prog 10 [.st b.row,.str (pkD a.out.base ⟨a.out.tail,c,l⟩)] (.tup [.st (aP b (a.out.base+1) c l).row,.bool true]):=by
 have hP:=hB.okP (by omega) h.h;obtain⟨u1,u2⟩:=nextU (by omega) h.b1 h.b2;have ht:=QT a.out.base a.rec_.m.count ⟨a.out.tail,c,l⟩ u1 u2 hG.1 hG.2 h.ot;have hF:=hB.j.feed hS (by have:=hB.ll;omega);have hr:=UG b ⟨a.out.base+1,c,[]⟩ ⟨a.out.tail,c,l⟩ (pkD a.out.base ⟨a.out.tail,c,l⟩) (by rw[hB.inn'];exact ht) (by have:=hB.j.j.m.n;omega) hF (by have:=h.h;rw[hB.h];omega);exact OX b _ _ _ hP hB.role hr
theorem cI(g:GateD)(x:Int):(Pu g x).1.held.length<=g.held.length:=by
 unfold Pu;split
 ·simp
 exact fA _
theorem prim_f{m:MchD}(hM:OkM m)(hm:mayD m=true){limit:Int}(hl:J6 limit=true):OkF (Dv 0 m 1 limit) 0:=by
 have hd:1<=limit/\limit<=20:=by simpa[J6]using hl
 refine⟨rfl,rfl,rfl,hM,hm,BD,rfl,rfl,VX,rfl,rfl,Int.le_refl _,by show(1:Int)<=1+((0:Nat):Int);omega,rfl,rfl,rfl,by simp[Dv,Dp],?_,by simp[Dv,Dp],rfl,⟨hd.1,hd.2,Int.le_refl _,by show(0:Int)<=limit;omega⟩,rfl,Cj hM⟩;show ∀e∈([]:List EntD),_;simp
theorem back_k{m:MchD}(hM:OkM m)(hm:mayD m=true){limit:Int}(hl:J6 limit=true):OkBk (Et 1 m 1 limit) 1 m [] 0:=by
 have hd:1<=limit/\limit<=20:=by simpa[J6]using hl
 refine⟨rfl,rfl,rfl,rfl,rfl,rfl,⟨⟨hM,?_,Cj hM⟩,hm,rfl,rfl,?_,?_,rfl⟩,by simp[Et,Dp],rfl,by simp[Et,Dp],⟨hd.1,hd.2,Int.le_refl _,by show(0:Int)<=limit;omega⟩,rfl,Cj hM⟩
 ·show ∀e∈([]:List EntD),_;simp
 ·show ∀e∈([]:List EntD),_;simp
 show ∀e∈([]:List EntD),_;simp
end Go.Proofs.YtjkmhmepljamoaaGreat
end
