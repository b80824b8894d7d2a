/- A part of the proof of ReplicaDisk. -/
import Derived.Test.YtjkmhmepljamoaaGreatK30
import Derived.Test.YtjkmhmepljamoaaGreatK38
import Derived.Test.YtjkmhmepljamoaaGreatK39
set_option linter.all false
set_option maxHeartbeats 16000000
set_option maxRecDepth 100000
section
namespace Go.Proofs.YtjkmhmepljamoaaGreat
open Go.Ab Go.RowKit Tryz
structure OkF(a:RepD)(i:Nat):Prop where
 role:a.role=1
 host:a.host=0
 gen:a.gen=1
 m:OkM a.rec_.m
 may:mayD a.rec_.m=true
 c:W32 a.rec_.clock
 l:a.rec_.log=[]
 q:a.rec_.queue=[]
 p:OkM a.rpl.m
 pl:a.rpl.log=[]
 oq:a.out.queue=[]
 b1:1<=a.out.base
 b2:a.out.base<=1+i
 ot:a.out.tail=a.rec_.m.count
 ok:a.out.known=a.rec_.m.count
 e:a.inn.early=[]
 h:a.hist.length<=130*i
 hv:∀e∈a.hist,OkV e.ev
 g:a.gate.held.length<=64*i
 bt:a.beats=i
 wd:detD a.watch
 ws:a.watch.seen=i
 ga:L64 a.gate.acked
structure OkBk(b:RepD)(base:Int)(m:MchD)(hist:List EntD)(i:Nat):Prop where
 role:b.role=2
 r:b.rec_=zRec
 oq:b.out.queue=[]
 e:b.inn.early=[]
 n:b.inn.next=base
 k:b.inn.known=m.count
 j:Bj b.rpl m
 ll:b.rpl.log.length<=70*i
 h:b.hist=hist
 g:b.gate.held.length<=64*i
 wd:detD b.watch
 ws:b.watch.seen=i
 mr:L64 b.mark
def Jw(s:SndD)(c:Int)(l:List EntD):SndD:=if l=[]/\c=s.tail then s else⟨s.base,c,s.known,[⟨s.tail,c,l⟩]⟩
theorem OkF.okP{a:RepD}{i:Nat}(h:OkF a i)(hi:i<=100){q:List EvD}(hq:q.length<=10)(hv:∀e∈q,OkV e):OkP (F5 a q) 400:=by
 have hg:=h.g;have hh:=h.h;refine⟨⟨h.m,h.c,by show a.rec_.log.length<=_;rw[h.l];simp,by show q.length<=_;omega,hv,by show ∀e∈a.rec_.log,_;rw[h.l];simp⟩,h.p,by show a.rpl.log.length<=_;rw[h.pl];simp,by show a.gate.held.length<=_;omega,by show ∀g∈a.out.queue,_;rw[h.oq];simp,by show a.out.queue.length<=_;rw[h.oq];simp,by show ∀e∈a.inn.early,_;rw[h.e];simp,by show a.inn.early.length<=_;rw[h.e];simp,by show a.hist.length<=_;omega⟩
theorem OkF.send{a:RepD}{i:Nat}(h:OkF a i)(hi:i<=100):CH a.out=true:=by
 unfold CH;have h1:=h.b1;have h2:=h.b2;rw[if_neg (by rw[h.oq];simp;omega),h.oq];simp[h.ot,h.ok]
theorem OkBk.okP{b:RepD}{base:Int}{m:MchD}{H:List EntD}{i:Nat}(h:OkBk b base m H i)(hi:i<=100)(hH:H.length<=130*i):OkP b 40000:=by
 have hg:=h.g;have hl:=h.ll;refine⟨by rw[h.r];exact zRec_r.up (by omega),h.j.j.m,by omega,by omega,by rw[h.oq];simp,by rw[h.oq];simp,by rw[h.e];simp,by rw[h.e];simp,by rw[h.h];omega⟩
theorem OkF.run{a:RepD}{i:Nat}(h:OkF a i)(hi:i<=100){q:List EvD}(hq:q.length<=1)(hv:∀e∈q,OkW1 e)(steps:Int){clock:Int}(hc:W32 clock):
  ∃r g x y l o,FW (F5 a q) steps clock={a with rec_:=r,gate:=g,cmd:=x,cmdAt:=y,hist:=a.hist++l,out:=Jw a.out r.m.count l}/\OkM r.m/\mayD r.m=true/\W32 r.clock/\r.log=[]/\r.queue=[] /\
   SegJ a.rec_.m.count r.m.count l/\Rb a.rec_.m l o r.m/\r.m.count<=a.rec_.m.count+64/\o.length<=64/\g.held.length<=64*(i+1)/\g.acked=a.gate.acked /\
   g=(FO a.gate o).1/\x=(if r.m.dk.state=1 then(Kw (a.cmd,a.cmdAt) o).1 else 0)/\y=(Kw (a.cmd,a.cmdAt) o).2 /\
   (Cv {a.rec_ with queue:=q} (stp steps) clock).1.m=r.m/\(Cv {a.rec_ with queue:=q} (stp steps) clock).1.log=l/\(Cv {a.rec_ with queue:=q} (stp steps) clock).2=o/\l.length<=q.length+2*DC (stp steps):=by
 have hne:¬(a.role=1/\8<=a.out.queue.length):=by rw[h.oq];simp
 have hst:0<=stp steps/\stp steps<=64:=by unfold stp;omega
 have hlim:DC (stp steps)<=64:=by unfold DC;omega
 have hR:OkR {a.rec_ with queue:=q} 0:=⟨h.m,h.c,by show a.rec_.log.length<=0;rw[h.l];simp,by show q.length<=_;omega,fun e he=>(hv e he).v,by show ∀e∈a.rec_.log,_;rw[h.l];simp⟩;have hA:=hR.adv (stp steps) hc;have hO:=F8 {a.rec_ with queue:=q} (stp steps) clock;have hQ:=Yj (r:={a.rec_ with queue:=q}) h.may (stp steps) clock;have hV:=adv_v hR h.may h.l hc (stp steps);have hB:=Zk (r:={a.rec_ with queue:=q}) (Rb.nil _) h.l hR h.may (fun e he=>(hv e he).k) hc (stp steps);have hJ:=adv_j hR h.may h.l hv hc (stp steps);unfold FW;rw[if_neg hne];unfold Dd;simp only;generalize Cv {a.rec_ with queue:=q} (stp steps) clock=A at *;obtain⟨r,o⟩:=A;simp only[jA]at hA hO hQ hV hB hJ ⊢;obtain⟨hJ1,hJ2⟩:=hJ;have hal:=hA.l;have hS:SegJ a.rec_.m.count r.m.count r.log:=⟨hJ1.fc,hJ1.lg,by omega,hA.t,hV⟩;have hH:=Gg a.gate o;have hK:=Pb a.gate o;have hg:=h.g;have hso:=h.send hi;have hpu:(Dc a.out ⟨a.out.tail,r.m.count,r.log⟩).1=⟨a.out.base,r.m.count,a.out.known,[⟨a.out.tail,r.m.count,r.log⟩]⟩:=by
  have h0:(Ai ⟨a.out.tail,r.m.count,r.log⟩).2=0:=by rw[h.ot];exact hS.ok
  unfold Dc;rw[if_neg (by simp[hso]),if_neg (by simp[h0]),if_neg (by rw[h.oq];simp),h.oq];rfl
 have hout:(if a.role=1/\(r.log≠[]\/r.m.count≠a.out.tail)then(Dc a.out ⟨a.out.tail,r.m.count,r.log⟩).1 else a.out)=Jw a.out r.m.count r.log:=by
  unfold Jw;by_cases c:r.log=[]/\r.m.count=a.out.tail
  ·rw[if_pos c,if_neg (fun z=>by rcases z.2 with z|z;exact z c.1;exact z c.2)]
  rw[if_neg c,if_pos ⟨h.role,by by_cases z:r.log=[];exact .inr (fun y=>c ⟨z,y⟩);exact .inl z⟩,hpu]
 refine⟨Qz r,_,_,_,r.log,o,?_,hA.m,hJ1.m,hA.c,rfl,hQ,hS,hB,by show r.m.count<=_;omega,by omega,?_,hK,rfl,rfl,rfl,rfl,rfl,rfl,by show r.log.length<=_;omega⟩
 ·have hbu:EE {a with rec_:=r}=decide (r.m.dk.state=1):=by
   unfold EE GF;show((decide (a.role=1)||_)&&_)=_;rw[h.role];rfl
  unfold XE YK;have hbu2:EE {F5 a q with rec_:=r}=decide (r.m.dk.state=1):=hbu;simp only[hbu2,decide_eq_true_eq];show RepD.mk _ _ _ _ _ _ _ (if a.role=1/\(r.log≠[]\/r.m.count≠a.out.tail)then(Dc a.out ⟨a.out.tail,r.m.count,r.log⟩).1 else a.out) _ _ _ _ _ _=_;rw[hout];rfl
 omega
def Yi(L:List Str)(st:Nat->RepD):Prop:=∀k p,L[k]? =some p->∃c,AC prog 10 [.st (st k).row,.str p] (.tup [.st (st (k+1)).row,.bool c])
def two(a b c:RepD):Nat->RepD
 | 0=>a
 | 1=>b
 | _=>c
theorem Xr{a b:RepD}{p:Str}{x:Bool}(h:AC prog 10 [.st a.row,.str p] (.tup [.st b.row,.bool x])):Yi [p] (two a b b):=by
 intro k q hk;cases k with
 | zero=>cases hk;exact⟨x,h⟩
 | succ k=>simp at hk
theorem Lf{a b c:RepD}{p q:Str}{x y:Bool}(h1:AC prog 10 [.st a.row,.str p] (.tup [.st b.row,.bool x]))(h2:AC prog 10 [.st b.row,.str q] (.tup [.st c.row,.bool y])):Yi [p,q] (two a b c):=by
 intro k r hk
 match k with
 | 0=>cases hk;exact⟨x,h1⟩
 | 1=>cases hk;exact⟨y,h2⟩
 | k+2=>simp at hk
theorem cN{base:Int}{i:Nat}(hi:i<=100)(h1:1<=base)(h2:base<=1+i):1<=base/\base<=4611686018427387904:=⟨h1,by omega⟩
theorem pkA{a:RepD}{i:Nat}(h:OkF a i)(hi:i<=100){r:RecD}{g:GateD}{x y:Int}{l:List EntD}(hm:OkM r.m)(hc:W32 r.clock)(hl:r.log=[])(hq:r.queue=[])(hS:SegJ a.rec_.m.count r.m.count l)(hg:g.held.length<=64*(i+1))(hk:g.acked=a.gate.acked)(a1:RepD)
  (h1:a1={a with rec_:=r,gate:=g,cmd:=x,cmdAt:=y,hist:=a.hist++l,out:=Jw a.out r.m.count l}) :
  OkP a1 40000/\CH a1.out=true/\(∀g∈a1.out.queue,OkG g/\En g=true)/\AC prog 9 [.st a1.row] (.tup [.st (RepD.row {a1 with beats:=(i:Int)+1}),.sl 1 false (strs (Ka a.out.base a1.out.queue++[D6 ((i:Int)+1) a.gate.acked]))]):=by
 have hga:=h.ga;have hh:=h.h;have hn:=hS.n;have hcm:=DZ hm;have hca:=DZ h.m;have e1:a1.out=Jw a.out r.m.count l:=by rw[h1]
 have hG:OkG ⟨a.out.tail,r.m.count,l⟩:=⟨by rw[h.ot];exact hca,hcm,hS.t,by simp only;omega⟩;have hsg:En ⟨a.out.tail,r.m.count,l⟩=true:=by unfold En;rw[h.ot,hS.ok];rfl
 have hO:(∀g∈a1.out.queue,OkG g/\En g=true)/\a1.out.queue.length<=1/\CH a1.out=true/\a1.out.base=a.out.base:=by
  rw[e1];unfold Jw;split
  ·exact⟨by rw[h.oq];simp,by rw[h.oq];simp,h.send hi,rfl⟩
  refine⟨by simp[hG,hsg],by simp,?_,rfl⟩;have b1:=h.b1;have b2:=h.b2;unfold CH;rw[if_neg (by simp;omega)];rw[h.ot]at hsg;simp[chainOk,lastAt,hsg,h.ot,h.ok]
 obtain⟨o1,o2,o3,o4⟩:=hO;have hP:OkP a1 40000:=by
  refine⟨by rw[h1];exact⟨hm,hc,by show r.log.length<=_;rw[hl];simp,by show r.queue.length<=_;rw[hq];simp,by show ∀e∈r.queue,_;rw[hq];simp,by show ∀e∈r.log,_;rw[hl];simp⟩,by rw[h1];exact h.p,by rw[h1];show a.rpl.log.length<=_;rw[h.pl];simp,by rw[h1];show g.held.length<=_;omega,fun g hg=>(o1 g hg).1,by omega,by rw[h1];show ∀e∈a.inn.early,_;rw[h.e];simp,by rw[h1];show a.inn.early.length<=_;rw[h.e];simp,by rw[h1];show(a.hist++l).length<=_;rw[gV];omega⟩
 refine⟨hP,o3,o1,?_⟩;have hbe:a1.beats=i:=by rw[h1];exact h.bt
 have hac:a1.gate.acked=a.gate.acked:=by rw[h1];exact hk
 have:=eD a1 hP (by rw[h1];exact h.role) o3 (by rw[hbe];omega) (by rw[hac];exact hga);rw[hbe,hac,o4]at this;exact this
def JD(b:RepD)(n c:Int)(l:List EntD):RepD:={b with inn:=⟨n,c,[]⟩,rpl:={b.rpl with log:=b.rpl.log++l,known:=c},hist:=b.hist++l}
def nxF(s:SndD)(c:Int)(l:List EntD):Int:=if l=[]/\c=s.tail then s.base else s.base+1
theorem OkBk.feed{b:RepD}{base:Int}{m:MchD}{H:List EntD}{i:Nat}(h:OkBk b base m H i)(hi:i<=41)(hH:H.length<=130*i){c:Int}{l:List EntD}(hS:SegJ m.count c l)(hc:L64 c)(n:Int):OkP (JD b n c l) 40000:=by
 have hP:=h.okP (by omega) hH;have hl:=h.ll;have hn:=hS.n;refine⟨hP.c,hP.p,by show(b.rpl.log++l).length<=_;rw[gV];omega,hP.g,hP.o,hP.on,by show ∀e∈([]:List (Int×SegD)),_;simp,by show([]:List (Int×SegD)).length<=_;simp,by show(b.hist++l).length<=_;rw[gV,h.h];omega⟩
theorem OkBk.inn'{b:RepD}{base:Int}{m:MchD}{H:List EntD}{i:Nat}(hB:OkBk b base m H i):b.inn=⟨base,m.count,[]⟩:=by
 have h1:=hB.n;have h2:=hB.k;have h3:=hB.e;cases hb:b.inn with
 | mk p q s=>rw[hb]at h1 h2 h3;simp only at h1 h2 h3;rw[h1,h2,h3]
theorem recv1{a b:RepD}{i:Nat}(h:OkF a i)(hi:i<=41)(hB:OkBk b a.out.base a.rec_.m a.hist i){c:Int}{l:List EntD}(hc:L64 c)(hS:SegJ a.rec_.m.count c l)(hG:OkG ⟨a.out.tail,c,l⟩/\En ⟨a.out.tail,c,l⟩=true):
  AC prog 10 [.st b.row,.str (pkD a.out.base ⟨a.out.tail,c,l⟩)] (.tup [.st (JD b (a.out.base+1) c l).row,.bool true]):=by
 have hP:=hB.okP (by omega) h.h;obtain⟨u1,u2⟩:=cN (by omega) h.b1 h.b2;have ht:=YY a.out.base a.rec_.m.count ⟨a.out.tail,c,l⟩ u1 u2 hG.1 hG.2 h.ot;have hF:=hB.j.feed hS (by have:=hB.ll;omega);have hr:=dJ b ⟨a.out.base+1,c,[]⟩ ⟨a.out.tail,c,l⟩ (pkD a.out.base ⟨a.out.tail,c,l⟩) (by rw[hB.inn'];exact ht) (by have:=hB.j.j.m.n;omega) hF (by have:=h.h;rw[hB.h];omega);exact Uc b _ _ _ hP hB.role hr
theorem recvB{a b:RepD}{i:Nat}(h:OkF a i)(hi:i<=41)(hB:OkBk b a.out.base a.rec_.m a.hist i){c:Int}{l:List EntD}(hc:L64 c)(hS:SegJ a.rec_.m.count c l)(hG:∀g∈(Jw a.out c l).queue,OkG g/\En g=true):
  ∃bs,bs 0=b/\Yi (Ka a.out.base (Jw a.out c l).queue++[D6 ((i:Int)+1) a.gate.acked]) bs/\bs (Ka a.out.base (Jw a.out c l).queue++[D6 ((i:Int)+1) a.gate.acked]).length=Kt (JD b (nxF a.out c l) c l) ((i:Int)+1) a.gate.acked:=by
 have hP:=hB.okP (by omega) h.h;have hga:=h.ga;have hln:=Ae a.gate.acked;obtain⟨u1,u2⟩:=cN (by omega) h.b1 h.b2;have hin:=hB.inn';have hL1:L64 ((i:Int)+1):=⟨by omega,by omega⟩;have hbt:∀n:Int,∀r:RepD,r.inn=⟨n,c,[]⟩->r.watch=b.watch->r.role=2->OkP r 40000->AC prog 10 [.st r.row,.str (D6 ((i:Int)+1) a.gate.acked)] (.tup [.st (Kt r ((i:Int)+1) a.gate.acked).row,.bool true]):=by
  intro n r h1 h2 h3 h4;have ho:=XR ((i:Int)+1) 72 68 (BG a.gate.acked) hL1 (by omega);rw[if_neg (by decide)]at ho;have ht:=YX n c (D6 ((i:Int)+1) a.gate.acked) 0 [] ho;have:=dK r ((i:Int)+1) a.gate.acked (by rw[h1];exact ht) hL1 hga (by rw[h2];exact hB.wd) (by rw[h2,hB.ws];omega) (by have:=h4.g;omega);exact Uc r _ _ _ h4 h3 this
 by_cases q:l=[]/\c=a.out.tail
 ·obtain⟨q1,q2⟩:=q;have e1:Jw a.out c l=a.out:=by unfold Jw;rw[if_pos ⟨q1,q2⟩]
  have e2:nxF a.out c l=a.out.base:=by unfold nxF;rw[if_pos ⟨q1,q2⟩]
  have e3:JD b (nxF a.out c l) c l=b:=by
   have hk:=hB.j.k;have hct:c=a.rec_.m.count:=by rw[q2,h.ot]
   rw[e2,q1,hct];unfold JD;rw[<- hin,iU,iU,<- hk]
  rw[e1,e3,h.oq];refine⟨two b _ _,rfl,Xr (hbt a.out.base b ?_ rfl hB.role hP),rfl⟩;rw[hin,q2,h.ot]
 have e1:Jw a.out c l=⟨a.out.base,c,a.out.known,[⟨a.out.tail,c,l⟩]⟩:=by unfold Jw;rw[if_neg q]
 have e2:nxF a.out c l=a.out.base+1:=by unfold nxF;rw[if_neg q]
 rw[e1]at hG ⊢;rw[e2];have h1:=recv1 h hi hB hc hS (hG ⟨a.out.tail,c,l⟩ (by simp));exact⟨two b _ _,rfl,Lf h1 (hbt (a.out.base+1) (JD b (a.out.base+1) c l) rfl rfl hB.role (hB.feed hi h.h hS hc _)),rfl⟩
theorem Ol(g:GateD)(x:Int):(GL g x).1.held.length<=g.held.length:=by
 unfold GL;split
 ·simp
 exact g8 _
theorem Ul:∀(n:Nat)(p:RplD)(o:List OutD),W32 p.clock->W32 (GG n p o).1.clock
 | 0,_,_,h=>h
 | n+1,p,o,h=>by
  unfold GG;split
  ·exact h
  split
  ·exact h
  refine Ul n _ _ ?_;unfold Rz;split
  ·exact E6 _
  exact h
theorem dL{p:RplD}(h:W32 p.clock)(s:Int):W32 (Ck p s).1.clock:=by
 unfold Ck;split
 ·exact Ul _ _ _ h
 exact h
theorem runBk{b:RepD}{base:Int}{m m':MchD}{H:List EntD}{i:Nat}(hB:OkBk b base m H i)(hi:i<=41)(hH:H.length<=130*i){l:List EntD}{o:List OutD}(hR:Rb m l o m')(hS:SegJ m.count m'.count l)(hM:OkM m')(hd:m'.count<=m.count+64)(ho:o.length<=64)(hl7:l.length<=70)(n x t:Int)(ht:L64 t)(y:Int):
  ∃b3,AC prog 7 [.st (RepD.row {Kt (JD b n m'.count l) x t with beats:=y}),iv 64,uv 0] (.st b3.row)/\OkP b3 40000/\b3.beats=y/\(x=(i:Int)+1->OkBk b3 n m' (H++l) (i+1))/\b3.host=b.host/\b3.gen=b.gen/\b3.watch=⟨b.watch.limit,0,x⟩/\(W32 b.rpl.clock->W32 b3.rpl.clock):=by
 have hct:=DZ hM;have hll:=hB.ll;have hg0:=hB.g;have hsn:=hS.n;obtain⟨r1,r2,r3⟩:=hB.j.repl hR hS hM 64 (by rw[show DC 64=64 by decide];exact hd);have h64:stp 64=64:=by decide
 have hJ:OkJ {b.rpl with log:=b.rpl.log++l,known:=m'.count}:=⟨hB.j.j.m,fun e he=>by
  rcases List.mem_append.1 he with q|q
  ·exact hB.j.j.e e q
  exact hS.t e q,hct⟩
 have hD:∀e∈b.rpl.log++l,e.ev.data.length<=100000:=fun e he=>by
  rcases List.mem_append.1 he with q|q
  ·exact(hB.j.v e q).d
  exact(hS.v e q).d
 have hP:=hB.feed hi hH hS hct n;have hrl:=Ol b.gate (max b.mark t);have hP2:OkP {Kt (JD b n m'.count l) x t with beats:=y} 40000:=⟨hP.c,hP.p,hP.pl,by show(GL b.gate (max b.mark t)).1.held.length<=_;omega,hP.o,hP.on,hP.i,hP.en,hP.h⟩;have hrun:=VB {Kt (JD b n m'.count l) x t with beats:=y} 64 0 hP2 hB.role hJ (by show(b.rpl.log++l).length<=_;rw[gV];omega) hD (by show(GL b.gate (max b.mark t)).1.held.length<=_;omega) (by rw[h64];show(Ck {b.rpl with log:=b.rpl.log++l,known:=m'.count} 64).2.length<=_;rw[r2];omega);rw[h64]at hrun;have hh1:=Gg (GL b.gate (max b.mark t)).1 o;have hh2:=Ol (FO (GL b.gate (max b.mark t)).1 o).1 (max b.mark t);have hgl:(Wk {Kt (JD b n m'.count l) x t with beats:=y} 64).gate.held.length<=64*(i+1):=by
  show(GL (FO (GL b.gate (max b.mark t)).1 (Ck {b.rpl with log:=b.rpl.log++l,known:=m'.count} 64).2).1 (max b.mark t)).1.held.length<=_;rw[r2];omega
 refine⟨_,hrun,⟨hP.c,r1.j.m,?_,by omega,hP.o,hP.on,hP.i,hP.en,hP.h⟩,rfl,fun hx=>⟨hB.role,hB.r,hB.oq,rfl,rfl,rfl,r1,?_,?_,hgl,?_,?_,?_⟩,rfl,rfl,rfl,fun hck=>dL (p:={b.rpl with log:=b.rpl.log++l,known:=m'.count}) hck 64⟩
 ·exact iY r3 (by omega)
 ·exact iY r3 (by omega)
 ·show b.hist++l=_;rw[hB.h]
 ·obtain⟨d1,d2,d3,d4⟩:=hB.wd;exact⟨d1,d2,Int.le_refl _,by show(0:Int)<=b.watch.limit;omega⟩
 ·show x=_;rw[hx];push_cast;rfl
 have:=hB.mr;show L64 (max b.mark t);constructor<;>omega
def Zi(s:SndD):SndD:=if s.queue=[]then s else⟨s.base+1,s.tail,s.tail,[]⟩
theorem recvA{a:RepD}{i:Nat}(h:OkF a i)(hi:i<=41){r:RecD}{g:GateD}{x y:Int}{l:List EntD}(hm:OkM r.m)(hmay:mayD r.m=true)(hc:W32 r.clock)(hl:r.log=[])(hq:r.queue=[])(hS:SegJ a.rec_.m.count r.m.count l)(hg:g.held.length<=64*(i+1))(hk:g.acked=a.gate.acked)(a1:RepD)
  (h1:a1={a with rec_:=r,gate:=g,cmd:=x,cmdAt:=y,hist:=a.hist++l,out:=Jw a.out r.m.count l}) (hP:OkP a1 40000) (hs:CH a1.out=true) (hG:∀g∈a1.out.queue,OkG g/\En g=true) :
  ∃sa,sa 0={a1 with beats:=(i:Int)+1}/\Yi [slD (nxF a.out r.m.count l) (65::BG r.m.count),D6 ((i:Int)+1) 0] sa /\
   sa 2={a1 with beats:=(i:Int)+1,out:=Zi a1.out,watch:=⟨a.watch.limit,0,(i:Int)+1⟩}/\OkF (sa 2) (i+1)/\(Zi a1.out).base=nxF a.out r.m.count l:=by
 have hcm:=DZ hm;have hln:=Ae r.m.count;have hL1:L64 ((i:Int)+1):=⟨by omega,by omega⟩;obtain⟨u1,u2⟩:=cN (i:=i) (by omega) h.b1 h.b2;have hw:a1.watch=a.watch:=by rw[h1]
 have hro:a1.role=1:=by rw[h1];exact h.role
 have e0:a1.out=Jw a.out r.m.count l:=by rw[h1]
 have hnx:1<=nxF a.out r.m.count l/\nxF a.out r.m.count l<=1+(i+1:Nat):=by
  have:=h.b1;have:=h.b2;unfold nxF;split<;>(push_cast;omega)
 have hF:∀s:SndD,s.queue=[]->s.base=nxF a.out r.m.count l->s.tail=r.m.count->s.known=r.m.count->OkF {a1 with beats:=(i:Int)+1,out:=s,watch:=⟨a.watch.limit,0,(i:Int)+1⟩} (i+1):=by
  intro s s1 s2 s3 s4;have hh:=h.h;have hn:=hS.n;obtain⟨d1,d2,d3,d4⟩:=h.wd;subst h1;refine⟨h.role,h.host,h.gen,hm,hmay,hc,hl,hq,h.p,h.pl,s1,by show 1<=s.base;omega,by show s.base<=_;omega,s3,s4,h.e,by show(a.hist++l).length<=_;rw[gV];omega,fun e he=>?_,hg,by show(i:Int)+1=_;push_cast;rfl,⟨d1,d2,Int.le_refl _,by show(0:Int)<=a.watch.limit;omega⟩,by show(i:Int)+1=_;push_cast;rfl,by show L64 g.acked;rw[hk];exact h.ga⟩;rcases List.mem_append.1 he with q|q
  ·exact h.hv e q
  exact hS.v e q
 have hP1:∀s:SndD,s.queue=[]->OkP {a1 with beats:=(i:Int)+1,out:=s} 40000:=fun s hsq=>⟨hP.c,hP.p,hP.pl,hP.g,by show ∀g∈s.queue,_;rw[hsq];simp,by show s.queue.length<=_;rw[hsq];simp,hP.i,hP.en,hP.h⟩;have hbt:∀s:SndD,s.queue=[]->AC prog 10 [.st (RepD.row {a1 with beats:=(i:Int)+1,out:=s}),.str (D6 ((i:Int)+1) 0)] (.tup [.st (RepD.row {a1 with beats:=(i:Int)+1,out:=s,watch:=⟨a.watch.limit,0,(i:Int)+1⟩}),.bool true]):=by
  intro s hsq;have ho:=XR ((i:Int)+1) 72 65 (BG 0) hL1 (by have:=Ae 0;omega);rw[if_neg (by decide)]at ho;have ha:=Zj s (D6 ((i:Int)+1) 0) 0 [] (by rw[hsq];simp) (by rw[hsq];simp) ho;have:=dO {a1 with beats:=(i:Int)+1,out:=s} ((i:Int)+1) 0 ha hL1 ⟨by omega,by omega⟩ (by show detD a1.watch;rw[hw];exact h.wd) (by show a1.watch.seen<_;rw[hw,h.ws];omega);have h3:=Oh _ _ _ _ (hP1 s hsq) hro this;rw[<- hw];exact h3
 have hP2:OkP {a1 with beats:=(i:Int)+1} 40000:=⟨hP.c,hP.p,hP.pl,hP.g,hP.o,hP.on,hP.i,hP.en,hP.h⟩;by_cases q:l=[]/\r.m.count=a.out.tail
 ·have e1:a1.out=a.out:=by rw[e0];unfold Jw;rw[if_pos q]
  have e2:nxF a.out r.m.count l=a.out.base:=by unfold nxF;rw[if_pos q]
  have hqe:a1.out.queue=[]:=by rw[e1,h.oq]
  have e3:Zi a1.out=a1.out:=by unfold Zi;rw[if_pos hqe]
  have ha:=Zg a1.out r.m.count hqe hcm hs;have hp:=UR a1.out.base 65 (BG r.m.count) (by rw[e1];exact⟨by omega,by omega⟩) (by decide) (by omega);have h2:=Oh _ _ _ _ hP2 hro (dN {a1 with beats:=(i:Int)+1} _ ha hp);rw[e3,e2,<- e1];exact⟨two _ _ _,rfl,Lf h2 (hbt a1.out hqe),rfl,hF a1.out hqe (by rw[e1,e2]) (by rw[e1,q.2]) (by rw[e1,h.ok,q.2,h.ot]),rfl⟩
 have e1:a1.out=⟨a.out.base,r.m.count,a.out.known,[⟨a.out.tail,r.m.count,l⟩]⟩:=by rw[e0];unfold Jw;rw[if_neg q]
 have e2:nxF a.out r.m.count l=a1.out.base+1:=by unfold nxF;rw[if_neg q,e1]
 have e4:a1.out.tail=r.m.count:=by rw[e1]
 have e3:Zi a1.out=⟨a1.out.base+1,a1.out.tail,r.m.count,[]⟩:=by unfold Zi;rw[e1];rfl
 have hg1:=hG ⟨a.out.tail,r.m.count,l⟩ (by rw[e1];simp);have ha:=Zh a1.out ⟨a.out.tail,r.m.count,l⟩ (by rw[e1]) hg1.1 hs;have h2:=Oh _ _ _ _ hP2 hro (dM {a1 with beats:=(i:Int)+1} _ _ ha);rw[e3,e2];exact⟨two _ _ _,rfl,Lf h2 (hbt ⟨a1.out.base+1,a1.out.tail,r.m.count,[]⟩ rfl),rfl,hF _ rfl e2.symm e4 rfl,rfl⟩
theorem ZU{m:MchD}(hM:OkM m)(hm:mayD m=true){limit:Int}(hl:Jp limit=true):OkF (Dz 0 m 1 limit) 0:=by
 have hd:1<=limit/\limit<=20:=by simpa[Jp]using hl
 refine⟨rfl,rfl,rfl,hM,hm,Ax,rfl,rfl,Vm,rfl,rfl,Int.le_refl _,by show(1:Int)<=1+((0:Nat):Int);omega,rfl,rfl,rfl,by simp[Dz,FK],?_,by simp[Dz,FK],rfl,⟨hd.1,hd.2,Int.le_refl _,by show(0:Int)<=limit;omega⟩,rfl,DZ hM⟩;show ∀e∈([]:List EntD),_;simp
theorem Yl{m:MchD}(hM:OkM m)(hm:mayD m=true){limit:Int}(hl:Jp limit=true):OkBk (GP 1 m 1 limit) 1 m [] 0:=by
 have hd:1<=limit/\limit<=20:=by simpa[Jp]using hl
 refine⟨rfl,rfl,rfl,rfl,rfl,rfl,⟨⟨hM,?_,DZ hM⟩,hm,rfl,rfl,?_,?_,rfl⟩,by simp[GP,FK],rfl,by simp[GP,FK],⟨hd.1,hd.2,Int.le_refl _,by show(0:Int)<=limit;omega⟩,rfl,DZ hM⟩
 ·show ∀e∈([]:List EntD),_;simp
 ·show ∀e∈([]:List EntD),_;simp
 show ∀e∈([]:List EntD),_;simp
theorem OkBk.beat{b:RepD}{base:Int}{m:MchD}{H:List EntD}{i:Nat}(h:OkBk b base m H i)(y:Int):OkBk {b with beats:=y} base m H i:=⟨h.role,h.r,h.oq,h.e,h.n,h.k,h.j,h.ll,h.h,h.g,h.wd,h.ws,h.mr⟩
theorem eA{a b:RepD}{i:Nat}(hA:OkF a i)(hB:OkBk b a.out.base a.rec_.m a.hist i)(hbt:b.beats=i)(hi:i<=40){q:List EvD}(hq:q.length<=1)(hv:∀e∈q,OkW1 e)(steps:Int)(hs:DC (stp steps)<=30){clock:Int}(hc:W32 clock):
  ∃a1 a2 L bs b3 b4 M sa r o,Cv {a.rec_ with queue:=q} (stp steps) clock=(r,o)/\AC prog 7 [.st (F5 a q).row,iv steps,uv clock] (.st (RepD.row a1))/\AC prog 9 [.st a1.row] (.tup [.st (RepD.row a2),.sl 1 false (strs L)])/\L.length<=2/\bs 0=b/\Yi L bs /\
   AC prog 7 [.st (bs L.length).row,iv 64,uv 0] (.st (RepD.row b3))/\AC prog 9 [.st b3.row] (.tup [.st (RepD.row b4),.sl 1 false (strs M)])/\M.length=2/\sa 0=a2/\Yi M sa /\
   OkF (sa 2) (i+1)/\OkBk b4 (sa 2).out.base (sa 2).rec_.m (sa 2).hist (i+1)/\b4.beats=(i+1:Nat)/\(b4.host=b.host/\b4.gen=b.gen/\b4.watch=⟨b.watch.limit,0,(i:Int)+1⟩/\(W32 b.rpl.clock->W32 b4.rpl.clock)) /\
   (sa 2).rec_.m=r.m/\(sa 2).hist=a.hist++r.log/\(sa 2).cmd=(if r.m.dk.state=1 then(Kw (a.cmd,a.cmdAt) o).1 else 0):=by
 obtain⟨r,g,x,y,l,o,e1,hm,hmay,hrc,hl,hrq,hS,hR,hd,ho,hg,hk,-,hx,-,f1,f2,f3,f4⟩:=hA.run (by omega) hq hv steps hc;have hP:=hA.okP (q:=q) (by omega) (by omega) fun e he=>(hv e he).v;have hgh:=hA.g;have hga:=hA.ga;have hrun:=VC (F5 a q) steps clock (by unfold GF;show(decide (a.role=1)||_)=true;rw[hA.role];rfl) hP hc (by show q.length<=400;omega) (by show a.gate.held.length<=_;omega) (by show L64 a.out.tail;rw[hA.ot];exact DZ hA.m);rw[e1]at hrun;obtain⟨p1,p2,p3,p4⟩:=pkA hA (by omega) hm hrc hl hrq hS hg hk _ rfl;obtain⟨bs,s1,s2,s3⟩:=recvB hA (by omega) hB (DZ hm) hS p3;obtain⟨b3,t1,t2,t3,t4,t6,t7,t8,t9⟩:=runBk hB (by omega) hA.h hR hS hm hd ho (by omega) (nxF a.out r.m.count l) ((i:Int)+1) a.gate.acked hA.ga b.beats;have t5:=t4 rfl;obtain⟨sa,v1,v2,v3,v4,v5⟩:=recvA hA (by omega) hm hmay hrc hl hrq hS hg hk _ rfl p1 p2 p3;have hnx:1<=nxF a.out r.m.count l/\nxF a.out r.m.count l<=4611686018427387904:=by
  have h1:=hA.b1;have h2:=hA.b2;unfold nxF;split<;>omega
 have hpk:=eE b3 t2 t5.role t5.e (by rw[t5.n];exact hnx) (by rw[t5.k];exact DZ hm) (by rw[t3,hbt];omega);rw[t5.n,t5.k,t3,hbt]at hpk;refine⟨_,_,_,bs,b3,_,_,sa,(Cv {a.rec_ with queue:=q} (stp steps) clock).1,o,by rw[<- f3],hrun,p4,?_,s1,s2,by rw[s3];exact t1,hpk,rfl,v1,v2,v4,?_,by push_cast;rfl,⟨t6,t7,t8,t9⟩,by rw[f1,v3],by rw[f2,v3],by rw[f1,v3];exact hx⟩
 ·show(Ka a.out.base (Jw a.out r.m.count l).queue++_).length<=2;unfold Jw;split
  ·rw[hA.oq];simp[Ka]
  simp[Ka]
 have:=t5.beat ((i:Int)+1);rw[v3];show OkBk _ (Zi _).base r.m (a.hist++l) (i+1);rw[v5];exact this
end Go.Proofs.YtjkmhmepljamoaaGreat
end
