/- A part of the proof of ReplicaHalts. -/
import Derived.Test.YthjpcmecgjfilaaGreatH33
import Derived.Test.YthjpcmecgjfilaaGreatH36
import Derived.Test.YthjpcmecgjfilaaGreatH38
import Derived.Test.YthjpcmecgjfilaaGreatH39
set_option linter.unusedSimpArgs false
set_option linter.unusedVariables false
set_option maxHeartbeats 16000000
set_option maxRecDepth 100000
section
namespace Go.Proofs.YthjpcmecgjfilaaGreat
open Go.Ab Go.RowKit Tryz
def zRP (r:RepD) (steps:Int):RepD:={r with rpl:=(zCF r.rpl steps).1,gate:=(relD (zDh r.gate (zCF r.rpl steps).2).1 r.mark).1}
theorem zUc (r:RepD) (steps:Int) (hJ:OkJ r.rpl) (hl:r.rpl.log.length<=50000) (hd:∀ e∈r.rpl.log,e.ev.data.length<=100000) (hg:r.gate.held.length<=20000) (ho:(zCF r.rpl steps).2.length<=4000):zAD prog 33 [.st r.row,iv steps] (.st (zRP r steps).row):=by
 have ha:=zSH r.rpl steps hJ hl hd;unfold zRP;generalize zCF r.rpl steps=A at *
 have hh:=zO5 r.gate A.2 (by omega) (by omega)
 have hgl:=zEc r.gate A.2;generalize zDh r.gate A.2=H at *
 have hr:=zFR H.1 r.mark (by omega)
 generalize relD H.1 r.mark=R at *
 refine sZ func33 ntmps33 ?_;exact wx (qX3 (ha) (hh) (hr)) trivial
theorem zP7 (r:RepD) (steps clock:Int) (h:OkP r 40000) (hro:r.role=2) (hJ:OkJ r.rpl) (hl:r.rpl.log.length<=50000) (hd:∀ e∈r.rpl.log,e.ev.data.length<=100000) (hg:r.gate.held.length<=20000) (ho:(zCF r.rpl (stp steps)).2.length<=4000):zAD prog 9 [.st r.row,iv steps,uv clock] (.st (zRP r (stp steps)).row):=by
 have hc:=zB4 r h;have hf:=zUc r (stp steps) hJ hl hd hg ho;have hst:(if 64<if steps<0 then 0 else steps then 64 else if steps<0 then 0 else steps)=stp steps:=by unfold stp;(repeat' split)<;>omega
 have hlq:=zB5 r.out.queue;refine sX func9 ntmps9 ?_;intros;apply wr;refine cY (hc) (kX2 @hst @hlq) ?_;intros;apply wr;refine gF11 @hro rfl (kX2 @hst @hlq) ?_;intros;apply wr;refine gF11 @hro rfl (kX2 @hst @hlq) ?_;intros;apply wr;refine gT11 @hro rfl (kX2 @hst @hlq) ?_;intros;apply wr;refine cc1 (hf) @hst ?_;refine au ?_;intros;apply wr;refine zAI ?_;refine zAB ?_;simp
structure OkF (a:RepD) (i:Nat):Prop where
 role:a.role=1
 host:a.host=0
 gen:a.gen=1
 m:OkM a.rec_.m
 may:mayD a.rec_.m=true
 c:W32 a.rec_.clock
 l:a.rec_.log=[]
 q:a.rec_.queue=[]
 p:OkM a.rpl.m
 pl:a.rpl.log=[]
 oq:a.out.queue=[]
 b1:1<=a.out.base
 b2:a.out.base<=1+i
 ot:a.out.tail=a.rec_.m.count
 ok:a.out.known=a.rec_.m.count
 e:a.inn.early=[]
 h:a.hist.length<=130*i
 hv:∀ e∈a.hist,OkV e.ev
 g:a.gate.held.length<=64*i
 bt:a.beats=i
 wd:detD a.watch
 ws:a.watch.seen=i
 ga:L64 a.gate.acked
structure OkBk (b:RepD) (base:Int) (m:MchD) (hist:List EntD) (i:Nat):Prop where
 role:b.role=2
 r:b.rec_=zRec
 oq:b.out.queue=[]
 e:b.inn.early=[]
 n:b.inn.next=base
 k:b.inn.known=m.count
 j:Bj b.rpl m
 ll:b.rpl.log.length<=130*i
 h:b.hist=hist
 g:b.gate.held.length<=64*i
 wd:detD b.watch
 ws:b.watch.seen=i
 mr:L64 b.mark
def outF (s:SndD) (c:Int) (l:List EntD):SndD:=if l=[]/\c=s.tail then s else ⟨s.base,c,s.known,[⟨s.tail,c,l⟩]⟩
theorem OkF.okP {a:RepD} {i:Nat} (h:OkF a i) (hi:i<=100) {q:List EvD} (hq:q.length<=10) (hv:∀ e∈q,OkV e):OkP (zHh a q) 400:=by
 have hg:=h.g;have hh:=h.h;refine ⟨⟨h.m,h.c,by show a.rec_.log.length<=_;rw [h.l];simp,by show q.length<=_;omega,hv,by show ∀ e∈a.rec_.log,_;rw [h.l];simp⟩,h.p,by show a.rpl.log.length<=_;rw [h.pl];simp,by show a.gate.held.length<=_;omega,by show ∀ g∈a.out.queue,_;rw [h.oq];simp,by show a.out.queue.length<=_;rw [h.oq];simp,by show ∀ e∈a.inn.early,_;rw [h.e];simp,by show a.inn.early.length<=_;rw [h.e];simp,by show a.hist.length<=_;omega⟩
theorem OkF.send {a:RepD} {i:Nat} (h:OkF a i) (hi:i<=100):zBQ a.out=true:=by
 unfold zBQ;have h1:=h.b1;have h2:=h.b2;rw [if_neg (by rw [h.oq];simp;omega),h.oq]
 simp [h.ot,h.ok]
theorem OkBk.okP {b:RepD} {base:Int} {m:MchD} {H:List EntD} {i:Nat} (h:OkBk b base m H i) (hi:i<=100) (hH:H.length<=130*i):OkP b 40000:=by
 have hg:=h.g;have hl:=h.ll;refine ⟨by rw [h.r];exact zRec_r.up (by omega),h.j.j.m,by omega,by omega,by rw [h.oq];simp,by rw [h.oq];simp,by rw [h.e];simp,by rw [h.e];simp,by rw [h.h];omega⟩
theorem OkF.run {a:RepD} {i:Nat} (h:OkF a i) (hi:i<=100) {q:List EvD} (hq:q.length<=1) (hv:∀ e∈q,OkW1 e) (steps:Int) {clock:Int} (hc:W32 clock) :
  ∃ r g x y l o,zDq (zHh a q) steps clock={a with rec_:=r,gate:=g,cmd:=x,cmdAt:=y,hist:=a.hist++l,out:=outF a.out r.m.count l}/\OkM r.m/\mayD r.m=true/\W32 r.clock/\r.log=[]/\r.queue=[] /\
   SegJ a.rec_.m.count r.m.count l/\Rb a.rec_.m l o r.m/\r.m.count<=a.rec_.m.count+64/\o.length<=64/\g.held.length<=64*(i+1)/\g.acked=a.gate.acked /\
   g=(zDh a.gate o).1/\x=(if r.m.dk.state=1 then (cmdL (a.cmd,a.cmdAt) o).1 else 0)/\y=(cmdL (a.cmd,a.cmdAt) o).2:=by
 have hne:¬ (a.role=1/\8<=a.out.queue.length):=by rw [h.oq];simp
 have hst:0<=stp steps/\stp steps<=64:=by unfold stp;omega
 have hlim:limS (stp steps)<=64:=by unfold limS;omega
 have hR:OkR {a.rec_ with queue:=q} 0:=⟨h.m,h.c,by show a.rec_.log.length<=0;rw [h.l];simp,by show q.length<=_;omega,fun e he=>(hv e he).v,by show ∀ e∈a.rec_.log,_;rw [h.l];simp⟩
 have hA:=hR.adv (stp steps) hc;have hO:=zEU {a.rec_ with queue:=q} (stp steps) clock
 have hQ:=zSz (r:={a.rec_ with queue:=q}) h.may (stp steps) clock
 have hV:=adv_v hR h.may h.l hc (stp steps);have hB:=adv_b (r:={a.rec_ with queue:=q}) (Rb.nil _) h.l hR h.may (fun e he=>(hv e he).k) hc (stp steps)
 have hJ:=adv_j hR h.may h.l hv hc (stp steps);unfold zDq;rw [if_neg hne];unfold zCR;simp only;generalize advD {a.rec_ with queue:=q} (stp steps) clock=A at *
 obtain ⟨r,o⟩:=A;simp only [zWa] at hA hO hQ hV hB hJ ⊢;obtain ⟨hJ1,hJ2⟩:=hJ;have hal:=hA.l;have hS:SegJ a.rec_.m.count r.m.count r.log:=⟨hJ1.fc,hJ1.lg,by omega,hA.t,hV⟩
 have hH:=zEc a.gate o;have hK:=zL3 a.gate o;have hg:=h.g;have hso:=h.send hi;have hpu:(zCP a.out ⟨a.out.tail,r.m.count,r.log⟩).1=⟨a.out.base,r.m.count,a.out.known,[⟨a.out.tail,r.m.count,r.log⟩]⟩:=by
  have h0:(zAY ⟨a.out.tail,r.m.count,r.log⟩).2=0:=by rw [h.ot];exact hS.ok
  unfold zCP;rw [if_neg (by simp [hso]),if_neg (by simp [h0]),if_neg (by rw [h.oq];simp),h.oq]
  rfl
 have hout:(if a.role=1/\(r.log≠[]\/r.m.count≠a.out.tail) then (zCP a.out ⟨a.out.tail,r.m.count,r.log⟩).1 else a.out)=outF a.out r.m.count r.log:=by
  unfold outF;by_cases c:r.log=[]/\r.m.count=a.out.tail
  ·rw [if_pos c,if_neg (fun z=>by rcases z.2 with z|z;exact z c.1;exact z c.2)]
  rw [if_neg c,if_pos ⟨h.role,by by_cases z:r.log=[];exact .inr (fun y=>c ⟨z,y⟩);exact .inl z⟩,hpu]
 refine ⟨cutD r,_,_,_,r.log,o,?_,hA.m,hJ1.m,hA.c,rfl,hQ,hS,hB,by show r.m.count<=_;omega,by omega,?_,hK,rfl,rfl,rfl⟩
 ·have hbu:zEG {a with rec_:=r}=decide (r.m.dk.state=1):=by
   unfold zEG zFK;show ((decide (a.role=1)||_)&&_)=_
   rw [h.role];rfl
  unfold logA runA;have hbu2:zEG {zHh a q with rec_:=r}=decide (r.m.dk.state=1):=hbu
  simp only [hbu2,decide_eq_true_eq];show RepD.mk _ _ _ _ _ _ _ (if a.role=1/\(r.log≠[]\/r.m.count≠a.out.tail) then (zCP a.out ⟨a.out.tail,r.m.count,r.log⟩).1 else a.out) _ _ _ _ _ _=_
  rw [hout];rfl
 omega
def Recv (L:List Str) (st:Nat->RepD):Prop:=∀ k p,L[k]? =some p->∃ c,zAD prog 12 [.st (st k).row,.str p] (.tup [.st (st (k+1)).row,.bool c])
def two (a b c:RepD):Nat->RepD
 | 0=>a
 | 1=>b
 | _=>c
theorem zSM {a b:RepD} {p:Str} {x:Bool} (h:zAD prog 12 [.st a.row,.str p] (.tup [.st b.row,.bool x])):Recv [p] (two a b b):=by
 intro k q hk
 cases k with
 | zero=>cases hk;exact ⟨x,h⟩
 | succ k=>simp at hk
theorem zIx {a b c:RepD} {p q:Str} {x y:Bool} (h1:zAD prog 12 [.st a.row,.str p] (.tup [.st b.row,.bool x])) (h2:zAD prog 12 [.st b.row,.str q] (.tup [.st c.row,.bool y])):Recv [p,q] (two a b c):=by
 intro k r hk
 match k with
 | 0=>cases hk;exact ⟨x,h1⟩
 | 1=>cases hk;exact ⟨y,h2⟩
 | k+2=>simp at hk
theorem zUt {base:Int} {i:Nat} (hi:i<=100) (h1:1<=base) (h2:base<=1+i):1<=base/\base<=4611686018427387904:=⟨h1,by omega⟩
theorem pkA {a:RepD} {i:Nat} (h:OkF a i) (hi:i<=100) {r:RecD} {g:GateD} {x y:Int} {l:List EntD} (hm:OkM r.m) (hc:W32 r.clock) (hl:r.log=[]) (hq:r.queue=[]) (hS:SegJ a.rec_.m.count r.m.count l) (hg:g.held.length<=64*(i+1)) (hk:g.acked=a.gate.acked) (a1:RepD)
  (h1:a1={a with rec_:=r,gate:=g,cmd:=x,cmdAt:=y,hist:=a.hist++l,out:=outF a.out r.m.count l}) :
  OkP a1 40000/\zBQ a1.out=true/\(∀ g∈a1.out.queue,OkG g/\zDL g=true)/\zAD prog 11 [.st a1.row] (.tup [.st (RepD.row {a1 with beats:=(i:Int)+1}),.sl 1 false (strs (pksL a.out.base a1.out.queue++[zCC ((i:Int)+1) a.gate.acked]))]):=by
 have hga:=h.ga;have hh:=h.h;have hn:=hS.n;have hcm:=zCb hm;have hca:=zCb h.m;have e1:a1.out=outF a.out r.m.count l:=by rw [h1]
 have hG:OkG ⟨a.out.tail,r.m.count,l⟩:=⟨by rw [h.ot];exact hca,hcm,hS.t,by simp only;omega⟩
 have hsg:zDL ⟨a.out.tail,r.m.count,l⟩=true:=by unfold zDL;rw [h.ot,hS.ok];rfl
 have hO:(∀ g∈a1.out.queue,OkG g/\zDL g=true)/\a1.out.queue.length<=1/\zBQ a1.out=true/\a1.out.base=a.out.base:=by
  rw [e1];unfold outF;split
  ·exact ⟨by rw [h.oq];simp,by rw [h.oq];simp,h.send hi,rfl⟩
  refine ⟨by simp [hG,hsg],by simp,?_,rfl⟩
  have b1:=h.b1;have b2:=h.b2;unfold zBQ;rw [if_neg (by simp;omega)]
  rw [h.ot] at hsg;simp [chainOk,lastAt,hsg,h.ot,h.ok]
 obtain ⟨o1,o2,o3,o4⟩:=hO;have hP:OkP a1 40000:=by
  refine ⟨by rw [h1];exact ⟨hm,hc,by show r.log.length<=_;rw [hl];simp,by show r.queue.length<=_;rw [hq];simp,by show ∀ e∈r.queue,_;rw [hq];simp,by show ∀ e∈r.log,_;rw [hl];simp⟩,by rw [h1];exact h.p,by rw [h1];show a.rpl.log.length<=_;rw [h.pl];simp,by rw [h1];show g.held.length<=_;omega,fun g hg=>(o1 g hg).1,by omega,by rw [h1];show ∀ e∈a.inn.early,_;rw [h.e];simp,by rw [h1];show a.inn.early.length<=_;rw [h.e];simp,by rw [h1];show (a.hist++l).length<=_;rw [zV7];omega⟩
 refine ⟨hP,o3,o1,?_⟩;have hbe:a1.beats=i:=by rw [h1];exact h.bt
 have hac:a1.gate.acked=a.gate.acked:=by rw [h1];exact hk
 have:=zVO a1 hP (by rw [h1];exact h.role) o3 (by rw [hbe];omega) (by rw [hac];exact hga)
 rw [hbe,hac,o4] at this;exact this
def zFt (b:RepD) (n c:Int) (l:List EntD):RepD:={b with inn:=⟨n,c,[]⟩,rpl:={b.rpl with log:=b.rpl.log++l,known:=c},hist:=b.hist++l}
def nxF (s:SndD) (c:Int) (l:List EntD):Int:=if l=[]/\c=s.tail then s.base else s.base+1
theorem OkBk.feed {b:RepD} {base:Int} {m:MchD} {H:List EntD} {i:Nat} (h:OkBk b base m H i) (hi:i<=20) (hH:H.length<=130*i) {c:Int} {l:List EntD} (hS:SegJ m.count c l) (hc:L64 c) (n:Int):OkP (zFt b n c l) 40000:=by
 have hP:=h.okP (by omega) hH
 have hl:=h.ll;have hn:=hS.n;refine ⟨hP.c,hP.p,by show (b.rpl.log++l).length<=_;rw [zV7];omega,hP.g,hP.o,hP.on,by show ∀ e∈([]:List (Int × SegD)),_;simp,by show ([]:List (Int × SegD)).length<=_;simp,by show (b.hist++l).length<=_;rw [zV7,h.h];omega⟩
theorem OkBk.inn' {b:RepD} {base:Int} {m:MchD} {H:List EntD} {i:Nat} (hB:OkBk b base m H i):b.inn=⟨base,m.count,[]⟩:=by
 have h1:=hB.n;have h2:=hB.k;have h3:=hB.e;cases hb:b.inn with
 | mk p q s=>rw [hb] at h1 h2 h3;simp only at h1 h2 h3;rw [h1,h2,h3]
theorem recv1 {a b:RepD} {i:Nat} (h:OkF a i) (hi:i<=20) (hB:OkBk b a.out.base a.rec_.m a.hist i) {c:Int} {l:List EntD} (hc:L64 c) (hS:SegJ a.rec_.m.count c l) (hG:OkG ⟨a.out.tail,c,l⟩/\zDL ⟨a.out.tail,c,l⟩=true) :
  zAD prog 12 [.st b.row,.str (pkD a.out.base ⟨a.out.tail,c,l⟩)] (.tup [.st (zFt b (a.out.base+1) c l).row,.bool true]):=by
 have hP:=hB.okP (by omega) h.h
 obtain ⟨u1,u2⟩:=zUt (by omega) h.b1 h.b2
 have ht:=zSk a.out.base a.rec_.m.count ⟨a.out.tail,c,l⟩ u1 u2 hG.1 hG.2 h.ot;have hF:=hB.j.feed hS (by have:=hB.ll;omega)
 have hr:=zU8 b ⟨a.out.base+1,c,[]⟩ ⟨a.out.tail,c,l⟩ (pkD a.out.base ⟨a.out.tail,c,l⟩) (by rw [hB.inn'];exact ht) (by have:=hB.j.j.m.n;omega) hF (by have:=h.h;rw [hB.h];omega)
 exact zPo b _ _ _ hP hB.role hr
theorem recvB {a b:RepD} {i:Nat} (h:OkF a i) (hi:i<=20) (hB:OkBk b a.out.base a.rec_.m a.hist i) {c:Int} {l:List EntD} (hc:L64 c) (hS:SegJ a.rec_.m.count c l) (hG:∀ g∈(outF a.out c l).queue,OkG g/\zDL g=true) :
  ∃ bs,bs 0=b/\Recv (pksL a.out.base (outF a.out c l).queue++[zCC ((i:Int)+1) a.gate.acked]) bs/\bs (pksL a.out.base (outF a.out c l).queue++[zCC ((i:Int)+1) a.gate.acked]).length=zHT (zFt b (nxF a.out c l) c l) ((i:Int)+1) a.gate.acked:=by
 have hP:=hB.okP (by omega) h.h
 have hga:=h.ga;have hln:=zAS a.gate.acked;obtain ⟨u1,u2⟩:=zUt (by omega) h.b1 h.b2
 have hin:=hB.inn';have hL1:L64 ((i:Int)+1):=⟨by omega,by omega⟩
 have hbt:∀ n:Int,∀ r:RepD,r.inn=⟨n,c,[]⟩->r.watch=b.watch->r.role=2->OkP r 40000->zAD prog 12 [.st r.row,.str (zCC ((i:Int)+1) a.gate.acked)] (.tup [.st (zHT r ((i:Int)+1) a.gate.acked).row,.bool true]):=by
  intro n r h1 h2 h3 h4
  have ho:=zR2 ((i:Int)+1) 72 68 (putD a.gate.acked) hL1 (by omega)
  rw [if_neg (by decide)] at ho
  have ht:=zSj n c (zCC ((i:Int)+1) a.gate.acked) 0 [] ho;have:=zU9 r ((i:Int)+1) a.gate.acked (by rw [h1];exact ht) hL1 hga (by rw [h2];exact hB.wd) (by rw [h2,hB.ws];omega) (by have:=h4.g;omega)
  exact zPo r _ _ _ h4 h3 this
 by_cases q:l=[]/\c=a.out.tail
 ·obtain ⟨q1,q2⟩:=q;have e1:outF a.out c l=a.out:=by unfold outF;rw [if_pos ⟨q1,q2⟩]
  have e2:nxF a.out c l=a.out.base:=by unfold nxF;rw [if_pos ⟨q1,q2⟩]
  have e3:zFt b (nxF a.out c l) c l=b:=by
   have hk:=hB.j.k;have hct:c=a.rec_.m.count:=by rw [q2,h.ot]
   rw [e2,q1,hct];unfold zFt;rw [<- hin,zWT,zWT,<- hk]
  rw [e1,e3,h.oq];refine ⟨two b _ _,rfl,zSM (hbt a.out.base b ?_ rfl hB.role hP),rfl⟩;rw [hin,q2,h.ot]
 have e1:outF a.out c l=⟨a.out.base,c,a.out.known,[⟨a.out.tail,c,l⟩]⟩:=by unfold outF;rw [if_neg q]
 have e2:nxF a.out c l=a.out.base+1:=by unfold nxF;rw [if_neg q]
 rw [e1] at hG ⊢;rw [e2];have h1:=recv1 h hi hB hc hS (hG ⟨a.out.tail,c,l⟩ (by simp))
 exact ⟨two b _ _,rfl,zIx h1 (hbt (a.out.base+1) (zFt b (a.out.base+1) c l) rfl rfl hB.role (hB.feed hi h.h hS hc _)),rfl⟩
theorem zIy (g:GateD) (x:Int):(relD g x).1.held.length<=g.held.length:=by
 unfold relD;split
 ·simp
 exact zV9 _
theorem runBk {b:RepD} {base:Int} {m m':MchD} {H:List EntD} {i:Nat} (hB:OkBk b base m H i) (hi:i<=20) (hH:H.length<=130*i) {l:List EntD} {o:List OutD} (hR:Rb m l o m') (hS:SegJ m.count m'.count l) (hM:OkM m') (hd:m'.count<=m.count+64) (ho:o.length<=64) (n x t:Int) (ht:L64 t) (y:Int) :
  ∃ b3,zAD prog 9 [.st (RepD.row {zHT (zFt b n m'.count l) x t with beats:=y}),iv 64,uv 0] (.st b3.row)/\OkP b3 40000/\b3.beats=y/\(x=(i:Int)+1->OkBk b3 n m' (H++l) (i+1)):=by
 have hct:=zCb hM;have hll:=hB.ll;have hg0:=hB.g;have hsn:=hS.n;obtain ⟨r1,r2,r3⟩:=hB.j.repl hR hS hM 64 (by rw [show limS 64=64 by decide];exact hd)
 have h64:stp 64=64:=by decide
 have hJ:OkJ {b.rpl with log:=b.rpl.log++l,known:=m'.count}:=⟨hB.j.j.m,fun e he=>by
  rcases List.mem_append.1 he with q|q
  ·exact hB.j.j.e e q
  exact hS.t e q,hct⟩
 have hD:∀ e∈b.rpl.log++l,e.ev.data.length<=100000:=fun e he=>by
  rcases List.mem_append.1 he with q|q
  ·exact (hB.j.v e q).d
  exact (hS.v e q).d
 have hP:=hB.feed hi hH hS hct n;have hrl:=zIy b.gate (max b.mark t);have hP2:OkP {zHT (zFt b n m'.count l) x t with beats:=y} 40000:=⟨hP.c,hP.p,hP.pl,by show (relD b.gate (max b.mark t)).1.held.length<=_;omega,hP.o,hP.on,hP.i,hP.en,hP.h⟩
 have hrun:=zP7 {zHT (zFt b n m'.count l) x t with beats:=y} 64 0 hP2 hB.role hJ (by show (b.rpl.log++l).length<=_;rw [zV7];omega) hD (by show (relD b.gate (max b.mark t)).1.held.length<=_;omega) (by rw [h64];show (zCF {b.rpl with log:=b.rpl.log++l,known:=m'.count} 64).2.length<=_;rw [r2];omega)
 rw [h64] at hrun;have hh1:=zEc (relD b.gate (max b.mark t)).1 o;have hh2:=zIy (zDh (relD b.gate (max b.mark t)).1 o).1 (max b.mark t);have hgl:(zRP {zHT (zFt b n m'.count l) x t with beats:=y} 64).gate.held.length<=64*(i+1):=by
  show (relD (zDh (relD b.gate (max b.mark t)).1 (zCF {b.rpl with log:=b.rpl.log++l,known:=m'.count} 64).2).1 (max b.mark t)).1.held.length<=_
  rw [r2];omega
 refine ⟨_,hrun,⟨hP.c,r1.j.m,?_,by omega,hP.o,hP.on,hP.i,hP.en,hP.h⟩,rfl,fun hx=>⟨hB.role,hB.r,hB.oq,rfl,rfl,rfl,r1,?_,?_,hgl,?_,?_,?_⟩⟩
 ·exact zWR r3 (by omega)
 ·exact zWR r3 (by omega)
 ·show b.hist++l=_
  rw [hB.h]
 ·obtain ⟨d1,d2,d3,d4⟩:=hB.wd;exact ⟨d1,d2,Int.le_refl _,by show (0:Int)<=b.watch.limit;omega⟩
 ·show x=_
  rw [hx];push_cast;rfl
 have:=hB.mr;show L64 (max b.mark t)
 constructor<;>omega
def ackF (s:SndD):SndD:=if s.queue=[] then s else ⟨s.base+1,s.tail,s.tail,[]⟩
theorem recvA {a:RepD} {i:Nat} (h:OkF a i) (hi:i<=20) {r:RecD} {g:GateD} {x y:Int} {l:List EntD} (hm:OkM r.m) (hmay:mayD r.m=true) (hc:W32 r.clock) (hl:r.log=[]) (hq:r.queue=[]) (hS:SegJ a.rec_.m.count r.m.count l) (hg:g.held.length<=64*(i+1)) (hk:g.acked=a.gate.acked) (a1:RepD)
  (h1:a1={a with rec_:=r,gate:=g,cmd:=x,cmdAt:=y,hist:=a.hist++l,out:=outF a.out r.m.count l}) (hP:OkP a1 40000) (hs:zBQ a1.out=true) (hG:∀ g∈a1.out.queue,OkG g/\zDL g=true) :
  ∃ sa,sa 0={a1 with beats:=(i:Int)+1}/\Recv [slD (nxF a.out r.m.count l) (65::putD r.m.count),zCC ((i:Int)+1) 0] sa /\
   sa 2={a1 with beats:=(i:Int)+1,out:=ackF a1.out,watch:=⟨a.watch.limit,0,(i:Int)+1⟩}/\OkF (sa 2) (i+1)/\(ackF a1.out).base=nxF a.out r.m.count l:=by
 have hcm:=zCb hm;have hln:=zAS r.m.count;have hL1:L64 ((i:Int)+1):=⟨by omega,by omega⟩
 obtain ⟨u1,u2⟩:=zUt (i:=i) (by omega) h.b1 h.b2
 have hw:a1.watch=a.watch:=by rw [h1]
 have hro:a1.role=1:=by rw [h1];exact h.role
 have e0:a1.out=outF a.out r.m.count l:=by rw [h1]
 have hnx:1<=nxF a.out r.m.count l/\nxF a.out r.m.count l<=1+(i+1:Nat):=by
  have:=h.b1;have:=h.b2;unfold nxF;split<;>(push_cast;omega)
 have hF:∀ s:SndD,s.queue=[]->s.base=nxF a.out r.m.count l->s.tail=r.m.count->s.known=r.m.count->OkF {a1 with beats:=(i:Int)+1,out:=s,watch:=⟨a.watch.limit,0,(i:Int)+1⟩} (i+1):=by
  intro s s1 s2 s3 s4
  have hh:=h.h;have hn:=hS.n;obtain ⟨d1,d2,d3,d4⟩:=h.wd;subst h1;refine ⟨h.role,h.host,h.gen,hm,hmay,hc,hl,hq,h.p,h.pl,s1,by show 1<=s.base;omega,by show s.base<=_;omega,s3,s4,h.e,by show (a.hist++l).length<=_;rw [zV7];omega,fun e he=>?_,hg,by show (i:Int)+1=_;push_cast;rfl,⟨d1,d2,Int.le_refl _,by show (0:Int)<=a.watch.limit;omega⟩,by show (i:Int)+1=_;push_cast;rfl,by show L64 g.acked;rw [hk];exact h.ga⟩
  rcases List.mem_append.1 he with q|q
  ·exact h.hv e q
  exact hS.v e q
 have hP1:∀ s:SndD,s.queue=[]->OkP {a1 with beats:=(i:Int)+1,out:=s} 40000:=fun s hsq=>⟨hP.c,hP.p,hP.pl,hP.g,by show ∀ g∈s.queue,_;rw [hsq];simp,by show s.queue.length<=_;rw [hsq];simp,hP.i,hP.en,hP.h⟩
 have hbt:∀ s:SndD,s.queue=[]->zAD prog 12 [.st (RepD.row {a1 with beats:=(i:Int)+1,out:=s}),.str (zCC ((i:Int)+1) 0)] (.tup [.st (RepD.row {a1 with beats:=(i:Int)+1,out:=s,watch:=⟨a.watch.limit,0,(i:Int)+1⟩}),.bool true]):=by
  intro s hsq
  have ho:=zR2 ((i:Int)+1) 72 65 (putD 0) hL1 (by have:=zAS 0;omega)
  rw [if_neg (by decide)] at ho
  have ha:=zTm s (zCC ((i:Int)+1) 0) 0 [] (by rw [hsq];simp) (by rw [hsq];simp) ho
  have:=zVC {a1 with beats:=(i:Int)+1,out:=s} ((i:Int)+1) 0 ha hL1 ⟨by omega,by omega⟩ (by show detD a1.watch;rw [hw];exact h.wd) (by show a1.watch.seen<_;rw [hw,h.ws];omega)
  have h3:=zLO _ _ _ _ (hP1 s hsq) hro this;rw [<- hw];exact h3
 have hP2:OkP {a1 with beats:=(i:Int)+1} 40000:=⟨hP.c,hP.p,hP.pl,hP.g,hP.o,hP.on,hP.i,hP.en,hP.h⟩
 by_cases q:l=[]/\r.m.count=a.out.tail
 ·have e1:a1.out=a.out:=by rw [e0];unfold outF;rw [if_pos q]
  have e2:nxF a.out r.m.count l=a.out.base:=by unfold nxF;rw [if_pos q]
  have hqe:a1.out.queue=[]:=by rw [e1,h.oq]
  have e3:ackF a1.out=a1.out:=by unfold ackF;rw [if_pos hqe]
  have ha:=zTk a1.out r.m.count hqe hcm hs;have hp:=zPg a1.out.base 65 (putD r.m.count) (by rw [e1];exact ⟨by omega,by omega⟩) (by decide) (by omega)
  have h2:=zLO _ _ _ _ hP2 hro (zVB {a1 with beats:=(i:Int)+1} _ ha hp)
  rw [e3,e2,<- e1];exact ⟨two _ _ _,rfl,zIx h2 (hbt a1.out hqe),rfl,hF a1.out hqe (by rw [e1,e2]) (by rw [e1,q.2]) (by rw [e1,h.ok,q.2,h.ot]),rfl⟩
 have e1:a1.out=⟨a.out.base,r.m.count,a.out.known,[⟨a.out.tail,r.m.count,l⟩]⟩:=by rw [e0];unfold outF;rw [if_neg q]
 have e2:nxF a.out r.m.count l=a1.out.base+1:=by unfold nxF;rw [if_neg q,e1]
 have e4:a1.out.tail=r.m.count:=by rw [e1]
 have e3:ackF a1.out=⟨a1.out.base+1,a1.out.tail,r.m.count,[]⟩:=by unfold ackF;rw [e1];rfl
 have hg1:=hG ⟨a.out.tail,r.m.count,l⟩ (by rw [e1];simp)
 have ha:=zTl a1.out ⟨a.out.tail,r.m.count,l⟩ (by rw [e1]) hg1.1 hs
 have h2:=zLO _ _ _ _ hP2 hro (zVA {a1 with beats:=(i:Int)+1} _ _ ha)
 rw [e3,e2];exact ⟨two _ _ _,rfl,zIx h2 (hbt ⟨a1.out.base+1,a1.out.tail,r.m.count,[]⟩ rfl),rfl,hF _ rfl e2.symm e4 rfl,rfl⟩
theorem zTV {m:MchD} (hM:OkM m) (hm:mayD m=true) {limit:Int} (hl:zHV limit=true):OkF (zCy 0 m 1 limit) 0:=by
 have hd:1<=limit/\limit<=20:=by simpa [zHV] using hl
 refine ⟨rfl,rfl,rfl,hM,hm,zAs,rfl,rfl,zTh,rfl,rfl,Int.le_refl _,by show (1:Int)<=1+((0:Nat):Int);omega,rfl,rfl,rfl,by simp [zCy,zEJ],?_,by simp [zCy,zEJ],rfl,⟨hd.1,hd.2,Int.le_refl _,by show (0:Int)<=limit;omega⟩,rfl,zCb hM⟩
 show ∀ e∈([]:List EntD),_
 simp
theorem zS1 {m:MchD} (hM:OkM m) (hm:mayD m=true) {limit:Int} (hl:zHV limit=true):OkBk (zEF 1 m 1 limit) 1 m [] 0:=by
 have hd:1<=limit/\limit<=20:=by simpa [zHV] using hl
 refine ⟨rfl,rfl,rfl,rfl,rfl,rfl,⟨⟨hM,?_,zCb hM⟩,hm,rfl,rfl,?_,?_,rfl⟩,by simp [zEF,zEJ],rfl,by simp [zEF,zEJ],⟨hd.1,hd.2,Int.le_refl _,by show (0:Int)<=limit;omega⟩,rfl,zCb hM⟩
 ·show ∀ e∈([]:List EntD),_
  simp
 ·show ∀ e∈([]:List EntD),_
  simp
 show ∀ e∈([]:List EntD),_
 simp
end Go.Proofs.YthjpcmecgjfilaaGreat
end
