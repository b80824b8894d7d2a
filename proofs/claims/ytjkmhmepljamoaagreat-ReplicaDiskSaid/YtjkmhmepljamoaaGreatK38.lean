/- A part of the proof of ReplicaDisk. -/
import Derived.Test.YtjkmhmepljamoaaGreatK28
import Derived.Test.YtjkmhmepljamoaaGreatK30
import Derived.Test.YtjkmhmepljamoaaGreatK37
set_option linter.all false
set_option maxHeartbeats 16000000
set_option maxRecDepth 100000
section
namespace Go.Proofs.YtjkmhmepljamoaaGreat
open Go.Ab Go.RowKit
def cntP(p:Int)(l:List EntD):Nat:=(l.filter fun e=>decide (e.at_=p)).length
theorem G8(p:Int)(a b:List EntD):cntP p (a++b)=cntP p a+cntP p b:=by simp[cntP]
theorem Kz(p:Int)(l:List EntD):cntP p l<=l.length:=List.length_filter_le _ _
theorem Nw{p:Int}{l:List EntD}(h:∀e∈l,e.at_≠p):cntP p l=0:=by
 unfold cntP;rw[List.length_eq_zero_iff,List.filter_eq_nil_iff];intro e he;simpa using h e he
theorem NB(r:RecD)(e:EvD):∃E,(AW r e).log=r.log++E/\E.length<=1/\∀x∈E,x.at_=r.m.count:=by
 unfold AW;split
 ·exact⟨[⟨r.m.count,e⟩],rfl,by simp,by simp⟩
 exact⟨[],by simp,by simp,by simp⟩
theorem Y3(r:RecD):∃E,(BF r).log=r.log++E/\E.length<=1/\∀x∈E,x.at_=r.m.count:=by
 unfold BF;split
 ·exact NB _ _
 exact⟨[],by simp,by simp,by simp⟩
theorem go_new(r:RecD):∃E,(goR r).1.log=r.log++E/\E.length<=1/\∀x∈E,x.at_=r.m.count:=by
 show ∃E,(Ir r).log=_/\_;unfold Ir;split
 ·exact⟨[⟨r.m.count,⟨1,r.clock,[]⟩⟩],rfl,by simp,by simp⟩
 exact⟨[],by simp,by simp,by simp⟩
theorem Qd{r:RecD}{k:Nat}(hR:OkR r k)(hm:mayD r.m=true):mayD (BF r).m=true:=by
 unfold BF;split
 ·unfold AW;split
  ·exact CQ hR.m hm _
  exact hm
 exact hm
theorem VG:∀(n:Nat){r:RecD}{k:Nat}(o:List OutD),OkR r k->mayD r.m=true->∃E,(DW n r o).1.log=r.log++E/\(∀x∈E,r.m.count<=x.at_)/\∀p,cntP p E<=2
 | 0,r,k,o,_,_=>⟨[],by simp[DW],by simp,by simp[cntP]⟩
 | n+1,r,k,o,hR,hm=>by
  obtain⟨h1,-,-,hcT⟩:=hR.tick;have hm2:=Qd hR hm;obtain⟨E1,a1,a2,a3⟩:=Y3 r;by_cases hs:Ep (BF r).m=true
  ·refine⟨E1,by rw[DW,if_pos hs];exact a1,fun x hx=>by rw[a3 x hx];omega,fun p=>iY (Kz p E1) (by omega)⟩
  have hr:=NY hm2 hs (by have:=((Bz _).1 hm2).n;omega);have hm3:mayD (goR (BF r)).1.m=true:=HB h1.m hm2 _;obtain⟨E2,b1,b2,b3⟩:=go_new (BF r);obtain⟨E3,c1,c2,c3⟩:=VG n (o++(goR (BF r)).2) h1.go hm3;have hcg:(goR (BF r)).1.m.count=r.m.count+1:=by
   show(stepD _ _).1.count=_;rw[If,if_pos hr,hcT]
  refine⟨E1++(E2++E3),by rw[DW,if_neg hs,c1,b1,a1];simp,fun x hx=>?_,fun p=>?_⟩
  ·rcases List.mem_append.1 hx with q|q
   ·rw[a3 x q];omega
   rcases List.mem_append.1 q with q|q
   ·rw[b3 x q,hcT];omega
   have:=c2 x q;omega
  rw[G8,G8];by_cases hp:p=r.m.count
  ·have h0:cntP p E3=0:=Nw (fun e he=>by have:=c2 e he;omega);have h1:=Kz p E1;have h2:=Kz p E2;omega
  have h0:cntP p E1=0:=Nw (fun e he=>by rw[a3 e he];omega);have h1:cntP p E2=0:=Nw (fun e he=>by rw[b3 e he,hcT];omega);have h2:=c3 p;omega
theorem K6:∀(l:List EvD)(r:RecD),(∀e∈l,OkV e)->∀{k:Nat},OkR r k->∃E,(l.foldl AW r).log=r.log++E/\E.length<=l.length
 | [],r,_,_,_=>⟨[],by simp,by simp⟩
 | e::l,r,hl,k,hR=>by
  obtain⟨E1,a1,a2,-⟩:=NB r e;obtain⟨h1,-⟩:=hR.offer (hl e (g7 ..));obtain⟨E2,b1,b2⟩:=K6 l (AW r e) (fun x hx=>hl x (gW _ hx)) h1;exact⟨E1++E2,by rw[List.foldl_cons,b1,a1];simp,by simp;omega⟩
theorem SZ{r:RecD}(hR:OkR r 0)(hm:mayD r.m=true)(hl:r.log=[]){clock:Int}(hc:W32 clock)(steps:Int)(p:Int):cntP p (Cv r steps clock).1.log<=r.queue.length+2:=by
 have hR0:OkR {r with clock:=max r.clock clock} 0:=⟨hR.m,RZ hR.c hc,hR.l,hR.q,hR.v,hR.t⟩;have h2:mayD (CX r clock).m=true:=Fp r.queue hR0 hR.v hm;obtain⟨E1,a1,a2⟩:=K6 r.queue {r with clock:=max r.clock clock} hR.v hR0;obtain⟨E2,b1,-,b3⟩:=VG (DC steps) [] (hR.queue hc) h2;have e1:(CX r clock).log=E1:=by
  show(r.queue.foldl AW _).log=_;rw[a1];show r.log++E1=E1;rw[hl,jA]
 unfold Cv;rw[if_pos hm,b1,e1,G8];have:=Kz p E1;have:=b3 p;omega
theorem spr_of:∀{l:List EntD},ordD l=true->(∀p,cntP p l<=400)->∀k a b,l[k]? =some a->l[k+400]? =some b->a.at_<b.at_:=by
 intro l ho hc k a b ha hb;have h1:=Hv l k (k+400) a b ho ha hb (by omega);rcases Int.lt_or_eq_of_le h1 with q|q
 ·exact q
 exfalso;have hlt:k+400<l.length:=by
  rcases Nat.lt_or_ge (k+400) l.length with z|z
  ·exact z
  rw[iV z]at hb;cases hb
 have hsub:((l.drop k).take 401).Sublist l:=(List.take_sublist _ _).trans (List.drop_sublist _ _);have h3:cntP a.at_ ((l.drop k).take 401)<=cntP a.at_ l:=(hsub.filter _).length_le;have h4:cntP a.at_ ((l.drop k).take 401)=401:=by
  unfold cntP;rw[List.filter_eq_self.2]
  ·rw[iD,iE];omega
  intro e he;obtain⟨j,hj⟩:=List.mem_iff_getElem?.1 he;rw[iL]at hj;split at hj
  ·rename_i hj4;rw[iP]at hj;have g1:=Hv l k (k+j) a e ho ha hj (by omega);have g2:=Hv l (k+j) (k+400) e b ho hj hb (by omega);simp;omega
  cases hj
 have:=hc a.at_;omega
theorem Tr.ord{u:Int}{m m':MchD}{l r:List EntD}{O:List OutD}(h:Tr u m l O m' r):ordD r=true->ordD l=true:=by
 have cons:∀(c:Int)(e:EvD)(l:List EntD),firstOk c l=true->ordD l=true->(e.kind=1->firstOk (c+1) l=true)->ordD (⟨c,e⟩::l)=true:=by
  intro c e l h1 h2 h3;cases l with
  | nil=>rfl
  | cons b l =>
   rw[ordD,h2,Bool.and_true];simp only[firstOk,decide_eq_true_eq]at h1;simp only[i7,Bool.or_eq_false_iff,Bool.and_eq_false_iff,decide_eq_false_iff_not];refine⟨by omega,?_⟩;by_cases z:e.kind=1
   ·have:=h3 z;simp only[firstOk,decide_eq_true_eq]at this;exact .inl (by omega)
   exact .inr z
 induction h with
 | nil _ _=>exact id
 | @ev m e l O m' r h1 h2 h3 ih =>
  intro ho;refine cons _ _ _ ?_ (ih ho) (fun z=>absurd z h2);have:=h3.first;rwa[CC]at this
 | go _ _ _ _ _ ih=>exact ih
 | @clk m k l O m' r h1 h2 h3 h4 h5 ih =>
  intro ho;have h6:=h5.first;rw[FN]at h6;refine cons _ _ _ ?_ (ih ho) (fun _=>h6);cases l with
  | nil=>rfl
  | cons b l=>simp only[firstOk,decide_eq_true_eq]at h6 ⊢;omega
theorem QO{c:Int}:∀l:List EntD,(∀e∈l,e.at_=c/\e.ev.kind≠1)->ordD l=true
 | [],_=>rfl
 | [_],_=>rfl
 | a::b::l,h=>by
  rw[ordD,QO (b::l) (fun e he=>h e (gW _ he)),Bool.and_true];have ha:=h a (g7 ..);have hb:=h b (gW _ (g7 ..));simp only[i7,Bool.or_eq_false_iff,Bool.and_eq_false_iff,decide_eq_false_iff_not];exact⟨by omega,.inr ha.2⟩
theorem Rb.ord{m0 m:MchD}{H:List EntD}{O:List OutD}(h:Rb m0 H O m):ordD H=true:=by
 obtain⟨m1,rest,h1,-,h3⟩:=h;exact h1.ord (QO rest h3)
theorem VF:∀(n:Nat){r:RecD}{k:Nat}(o:List OutD),OkR r k->mayD r.m=true->mayD (DW n r o).1.m=true
 | 0,_,_,_,_,h=>h
 | n+1,r,k,o,hR,hm=>by
  obtain⟨h1,-⟩:=hR.tick;have hm2:=Qd hR hm;unfold DW;split
  ·exact hm2
  exact VF n _ h1.go (HB h1.m hm2 _)
theorem Zm{r:RecD}(hR:OkR r 0)(hm:mayD r.m=true){clock:Int}(hc:W32 clock)(steps:Int):mayD (Cv r steps clock).1.m=true:=by
 have hR0:OkR {r with clock:=max r.clock clock} 0:=⟨hR.m,RZ hR.c hc,hR.l,hR.q,hR.v,hR.t⟩;have h2:mayD (CX r clock).m=true:=Fp r.queue hR0 hR.v hm;unfold Cv;rw[if_pos hm];exact VF _ _ (hR.queue hc) h2
theorem Yj{r:RecD}(hm:mayD r.m=true)(steps clock:Int):(Cv r steps clock).1.queue=[]:=by
 unfold Cv;rw[if_pos hm,Ft];rfl
def IC(r:RecD):Prop:=∀x∈r.log,OkV x.ev
theorem IC.snoc{l:List EntD}(h:∀x∈l,OkV x.ev){c:Int}{e:EvD}(he:OkV e):∀x∈l++[⟨c,e⟩],OkV x.ev:=by
 intro x hx;rcases List.mem_append.1 hx with q|q
 ·exact h x q
 rw[List.mem_singleton.1 q];exact he
theorem IC.offer{r:RecD}(h:IC r){e:EvD}(he:OkV e):IC (AW r e):=by
 unfold AW;split
 ·exact IC.snoc h he
 exact h
theorem IC.tick{r:RecD}(h:IC r):IC (BF r):=by
 unfold BF;split
 ·exact h.offer timV
 exact h
theorem IC.go{r:RecD}(h:IC r)(hc:W32 r.clock):IC (goR r).1:=by
 show ∀x∈(Ir r).log,_;unfold Ir;split
 ·exact IC.snoc h ⟨hc,by simp⟩
 exact h
theorem IC.run:∀(n:Nat){r:RecD}{k:Nat}(o:List OutD),IC r->OkR r k->IC (DW n r o).1
 | 0,_,_,_,h,_=>h
 | n+1,r,k,o,h,hR=>by
  obtain⟨h1,-⟩:=hR.tick;unfold DW;split
  ·exact h.tick
  exact IC.run n _ (h.tick.go h1.c) h1.go
theorem IC.offers:∀(l:List EvD){r:RecD},IC r->(∀e∈l,OkV e)->IC (l.foldl AW r)
 | [],_,h,_=>h
 | e::l,r,h,hl=>IC.offers l (h.offer (hl e (g7 ..))) (fun x hx=>hl x (gW _ hx))
theorem adv_v{r:RecD}(hR:OkR r 0)(hm:mayD r.m=true)(hl:r.log=[]){clock:Int}(hc:W32 clock)(steps:Int):IC (Cv r steps clock).1:=by
 have h0:IC {r with clock:=max r.clock clock}:=by
  show ∀x∈r.log,_;rw[hl];simp
 have h1:IC (CX r clock):=IC.offers r.queue h0 hR.v;unfold Cv;rw[if_pos hm];exact IC.run _ _ h1 (hR.queue hc)
structure OkB(m0:MchD)(r:RepD)(i:Nat)(O:List OutD):Prop where
 role:r.role=1
 host:r.host=0
 m:OkM r.rec_.m
 may:mayD r.rec_.m=true
 c:W32 r.rec_.clock
 l:r.rec_.log=[]
 q:r.rec_.queue=[]
 p:OkM r.rpl.m
 pl:r.rpl.log=[]
 o:∀g∈r.out.queue,OkG g
 on:r.out.queue.length<=i
 t:L64 r.out.tail
 e:r.inn.early=[]
 h:r.hist.length<=130*i
 hv:∀e∈r.hist,OkV e.ev
 hc:∀p,cntP p r.hist<=3*i
 rb:Rb m0 r.hist O r.rec_.m
 ol:O.length<=64*i
 hd:r.gate.held=O.filter conO
 ak:r.gate.acked=m0.count
abbrev F5(r:RepD)(q:List EvD):RepD:={r with rec_:={r.rec_ with queue:=q}}
theorem OkB.okP{m0:MchD}{r:RepD}{i:Nat}{O:List OutD}(h:OkB m0 r i O)(hi:i<=100){q:List EvD}(hq:q.length<=10)(hv:∀e∈q,OkV e):OkP (F5 r q) 400:=by
 have hg:r.gate.held.length<=64*i:=by rw[h.hd];exact iY (List.length_filter_le _ _) h.ol
 refine⟨⟨h.m,h.c,by show r.rec_.log.length<=_;rw[h.l];simp,by show q.length<=_;omega,hv,by show ∀e∈r.rec_.log,_;rw[h.l];simp⟩,h.p,by show r.rpl.log.length<=_;rw[h.pl];simp,by show r.gate.held.length<=_;omega,h.o,by show r.out.queue.length<=_;have:=h.on;omega,by show ∀e∈r.inn.early,_;rw[h.e];simp,by show r.inn.early.length<=_;rw[h.e];simp,by show r.hist.length<=_;have:=h.h;omega⟩
theorem OkB.round{m0:MchD}{r:RepD}{i:Nat}{O:List OutD}(h:OkB m0 r i O)(hi:i<8){q:List EvD}(hq:q.length<=1)(hv:∀e∈q,OkV e)(hk:∀e∈q,e.kind≠1)(steps:Int){clock:Int}(hc:W32 clock):
  ∃O',OkB m0 (FW (F5 r q) steps clock) (i+1) O':=by
 have hon:=h.on;have hne:¬(r.role=1/\8<=r.out.queue.length):=by omega
 have hst:0<=stp steps/\stp steps<=64:=by unfold stp;omega
 have hlim:DC (stp steps)<=64:=by unfold DC;omega
 have hR:OkR {r.rec_ with queue:=q} 0:=⟨h.m,h.c,by show r.rec_.log.length<=0;rw[h.l];simp,by show q.length<=_;omega,hv,by show ∀e∈r.rec_.log,_;rw[h.l];simp⟩;have hA:=hR.adv (stp steps) hc;have hO:=F8 {r.rec_ with queue:=q} (stp steps) clock;have hQ:=Yj (r:={r.rec_ with queue:=q}) h.may (stp steps) clock;have hM:=Zm hR h.may hc (stp steps);have hV:=adv_v hR h.may h.l hc (stp steps);have hN:=fun p=>SZ hR h.may h.l hc (stp steps) p;have hB:=Zk (r:={r.rec_ with queue:=q}) h.rb h.l hR h.may hk hc (stp steps);unfold FW;rw[if_neg hne];unfold Dd;simp only;generalize Cv {r.rec_ with queue:=q} (stp steps) clock=A at *;obtain⟨a,o⟩:=A;simp only at hA hO hQ hM hV hN hB ⊢;have hal:=hA.l;have hcnt:=DZ hA.m;have hH:=hold_b h.hd h.ak hB.outs;unfold XE YK;simp only;rw[hH];have hpush:∀s:SndD,s=(Dc r.out ⟨r.out.tail,a.m.count,a.log⟩).1->(∀g∈s.queue,OkG g)/\s.queue.length<=i+1/\L64 s.tail:=by
  intro s hs;have h0:(∀g∈r.out.queue,OkG g)/\r.out.queue.length<=i+1/\L64 r.out.tail:=⟨h.o,by omega,h.t⟩;unfold Dc at hs
  (repeat' split at hs)
  ·subst hs;exact h0
  ·subst hs;exact h0
  ·subst hs;exact h0
  subst hs;refine⟨fun g hg=>?_,?_,hcnt⟩
  ·rcases List.mem_append.1 hg with q|q
   ·exact h.o g q
   rw[List.mem_singleton.1 q];exact⟨h.t,hcnt,hA.t,by simp only;omega⟩
  simp only[gV,iO,List.length_nil];omega
 have hout:∀s:SndD,s=(if r.role=1/\(a.log≠[]\/a.m.count≠r.out.tail)then(Dc r.out ⟨r.out.tail,a.m.count,a.log⟩).1 else r.out)->(∀g∈s.queue,OkG g)/\s.queue.length<=i+1/\L64 s.tail:=by
  intro s hs;split at hs
  ·exact hpush s hs
  subst hs;exact⟨h.o,by omega,h.t⟩
 obtain⟨q1,q2,q3⟩:=hout _ rfl;refine⟨O++o,h.role,h.host,hA.m,hM,hA.c,rfl,hQ,h.p,h.pl,q1,q2,q3,h.e,?_,?_,fun p=>?_,hB,?_,rfl,h.ak⟩
 ·simp only[gV];have:=h.h;omega
 ·intro e he;rcases List.mem_append.1 he with q|q
  ·exact h.hv e q
  exact hV e q
 ·show cntP p (r.hist++a.log)<=_;rw[G8];have:=h.hc p;have:=hN p;omega
 simp only[gV];have:=h.ol;omega
structure OkW1(e:EvD):Prop where
 v:OkV e
 ok:evVal e=true
 k:e.kind≠1
structure RunJ(f:Int)(r:RecD):Prop where
 m:mayD r.m=true
 lg:Lg f r.m.count r.log
 fc:f<=r.m.count
theorem RunJ.offer{f:Int}{r:RecD}(h:RunJ f r)(hM:OkM r.m){e:EvD}(hv:evVal e=true)(hk:e.kind≠1)(hn:W32 e.n):RunJ f (AW r e):=by
 have hc:=(DX hM hn).2;unfold AW;split
 ·refine⟨CQ hM h.m e,?_,?_⟩
  ·show Lg f (applyD r.m e).1.count _;rw[hc];exact h.lg.add e h.fc hv (by omega) (fun z=>absurd z hk)
  show f<=(applyD r.m e).1.count;rw[hc];exact h.fc
 exact h
theorem RunJ.offers{f:Int}:∀(l:List EvD){r:RecD}{k:Nat},RunJ f r->OkR r k->(∀e∈l,OkW1 e)->RunJ f (l.foldl AW r)
 | [],_,_,h,_,_=>h
 | e::l,r,k,h,hR,hl=>by
  have he:=hl e (g7 ..);exact RunJ.offers l (h.offer hR.m he.ok he.k he.v.n) (hR.offer he.v).1 (fun x hx=>hl x (gW _ hx))
theorem RunJ.tick{f:Int}{r:RecD}(h:RunJ f r)(hM:OkM r.m):RunJ f (BF r):=by
 unfold BF;split
 ·exact h.offer hM (by rfl) (by decide) Ax
 exact h
theorem RunJ.go{f:Int}{r:RecD}(h:RunJ f r)(hM:OkM r.m):RunJ f (goR r).1:=by
 have hcnt:=If r.m r.clock;have hle:r.m.count<=(stepD r.m r.clock).1.count:=by rw[hcnt];split<;>omega
 refine⟨HB hM h.m _,?_,Int.le_trans h.fc hle⟩;show Lg f (stepD r.m r.clock).1.count (Ir r).log;unfold Ir;split
 ·rename_i z;rw[if_pos (Kd z)]at hcnt;exact h.lg.add ⟨1,r.clock,[]⟩ h.fc (by rfl) hle (fun _=>by omega)
 exact h.lg.up hle
theorem RunJ.run:∀(n:Nat){f:Int}{r:RecD}{k:Nat}{o:List OutD},RunJ f r->OkR r k->RunJ f (DW n r o).1/\(DW n r o).1.m.count<=r.m.count+n
 | 0,_,_,_,_,h,_=>⟨h,by simp[DW]⟩
 | n+1,f,r,k,o,h,hR=>by
  obtain⟨h1,-,-,hc⟩:=hR.tick;have h2:=h.tick hR.m;unfold DW;split
  ·exact⟨h2,by rw[hc];omega⟩
  obtain⟨a,b⟩:=RunJ.run n (o:=o++(goR (BF r)).2) (h2.go h1.m) h1.go;have hcg:(goR (BF r)).1.m.count<=(BF r).m.count+1:=by
   show(stepD _ _).1.count<=_;rw[If];split<;>omega
  exact⟨a,by rw[hc]at hcg;omega⟩
theorem adv_j{r:RecD}(hR:OkR r 0)(hm:mayD r.m=true)(hl:r.log=[])(hq:∀e∈r.queue,OkW1 e){clock:Int}(hc:W32 clock)(steps:Int):
  RunJ r.m.count (Cv r steps clock).1/\(Cv r steps clock).1.m.count<=r.m.count+DC steps:=by
 have hA:Cv r steps clock=DW (DC steps) (CX r clock) []:=by unfold Cv;rw[if_pos hm]
 rw[hA];have hQ:=hR.queue hc;have hR0:OkR {r with clock:=max r.clock clock} 0:=⟨hR.m,RZ hR.c hc,hR.l,hR.q,hR.v,hR.t⟩;have i0:RunJ r.m.count {r with clock:=max r.clock clock}:=⟨hm,⟨by show ∀e∈r.log,_;rw[hl];simp,by show ordD r.log=true;rw[hl];rfl,by show ∀e,r.log.getLast? =some e->_;rw[hl];simp⟩,Int.le_refl _⟩;have i1:=RunJ.offers r.queue i0 hR0 hq;have i2:RunJ r.m.count (CX r clock):=⟨i1.m,i1.lg,i1.fc⟩;have hcq:(CX r clock).m.count=r.m.count:=by
  have:∀(l:List EvD)(x:RecD),(l.foldl AW x).m.count=x.m.count:=by
   intro l;induction l with
   | nil=>intro x;rfl
   | cons e l ih =>
    intro x;rw[List.foldl_cons,ih];unfold AW;split
    ·exact CC _ _
    rfl
  exact this r.queue _
 obtain⟨a,b⟩:=RunJ.run (DC steps) (o:=[]) i2 hQ;exact⟨a,by rw[hcq]at b;exact b⟩
theorem ZJ{c:Int}:∀(l:List EntD),ordD l=true->(∀e∈l,e.at_<=c)->(∀e,l.getLast? =some e->e.ev.kind=1->e.at_<c)->∀e∈l,e.at_=c->e.ev.kind≠1
 | [],_,_,_,e,h,_=>by cases h
 | [a],_,_,ht,e,h,hc=>by
  rw[List.mem_singleton.1 h]at hc ⊢;intro hk;have:=ht a rfl hk;omega
 | a::b::r,ho,hl,ht,e,h,hc=>by
  rw[ordD,gX]at ho;rcases List.mem_cons.1 h with rfl|h
  ·intro hk;have h1:=hl b (by simp);have h2:=ho.1;simp[hk]at h2;omega
  exact ZJ (b::r) ho.2 (fun x hx=>hl x (gW _ hx)) (fun x hx=>ht x (by rw[List.getLast?_cons_cons];exact hx)) e h hc
theorem UO{c:Int}:∀(A l:List EntD),(∀e∈A,e.at_=c/\e.ev.kind≠1)->ordD l=true->firstOk c l=true->ordD (A++l)=true
 | [],l,_,ho,_=>ho
 | [a],[],_,_,_=>rfl
 | [a],b::r,hA,ho,hf=>by
  obtain⟨h1,h2⟩:=hA a (by simp);simp only[firstOk,decide_eq_true_eq]at hf;show ordD (a::b::r)=true;rw[ordD,ho,Bool.and_true];simp[h2];omega
 | a::b::A,l,hA,ho,hf=>by
  obtain⟨h1,h2⟩:=hA a (by simp);obtain⟨h3,h4⟩:=hA b (by simp);have ih:=UO (b::A) l (fun e he=>hA e (gW _ he)) ho hf;show ordD (a::b::(A++l))=true;rw[ordD,gX];refine⟨?_,ih⟩;simp[h2];omega
structure SegJ(c c':Int)(l:List EntD):Prop where
 le:c<=c'
 lg:Lg c c' l
 n:l.length<=130
 t:∀e∈l,OkT e
 v:∀e∈l,OkV e.ev
theorem SegJ.ok{c c':Int}{l:List EntD}(h:SegJ c c' l):(Ai ⟨c,c',l⟩).2=0:=Z7 h.lg h.le (by have:=h.n;omega)
structure Bj(p:RplD)(m:MchD):Prop where
 j:OkJ p
 may:mayD p.m=true
 k:p.known=m.count
 c:p.m.count=m.count
 l:∀e∈p.log,e.at_=m.count/\e.ev.kind≠1
 v:∀e∈p.log,OkV e.ev
 a:appL p.m p.log=m
theorem SegJ.first{c c':Int}{l:List EntD}(h:SegJ c c' l):firstOk c l=true:=by
 cases l with
 | nil=>rfl
 | cons e r=>have:=(h.lg.a e (g7 ..)).1;simpa[firstOk]using this
theorem Bj.feed{p:RplD}{m:MchD}(h:Bj p m){c':Int}{l:List EntD}(hS:SegJ m.count c' l)(hn:p.log.length<=3000):FeedOk p l c':=by
 refine⟨by rw[h.k];exact hS.le,by have:=hS.n;omega,by have:=hS.n;omega,fun e he=>?_,UO p.log l h.l hS.lg.o hS.first⟩;have:=hS.lg.a e he;exact⟨by rw[h.k];exact this.1,this.2.1,ZJ l hS.lg.o (fun x hx=>(hS.lg.a x hx).2.1) hS.lg.t e he,this.2.2⟩
theorem fS{u:Int}{m m':MchD}{l r:List EntD}{O:List OutD}(h:Tr u m l O m' r)(hu:m.count=u):m'=m/\r=l/\O=[]:=by
 cases h with
 | nil _ _=>exact⟨rfl,rfl,rfl⟩
 | ev h1 _ _=>omega
 | go h1 _ _ _ _=>omega
 | clk h1 _ _ _ _=>omega
theorem Bj.repl2{p:RplD}{m m':MchD}(h:Bj p m){l:List EntD}{o:List OutD}(hR:Rb m l o m')(hle:m.count<=m'.count)(hfi:firstOk m.count l=true)(htt:∀e∈l,OkT e)(hvv:∀e∈l,OkV e.ev)(hM:OkM m')(s:Int)(hd:m'.count<=m.count+DC s):
  Bj (Ck {p with log:=p.log++l,known:=m'.count} s).1 m'/\(Ck {p with log:=p.log++l,known:=m'.count} s).2=o/\(Ck {p with log:=p.log++l,known:=m'.count} s).1.log.length<=p.log.length+l.length:=by
 obtain⟨m1,rest,hT,ha,hr⟩:=hR;have hct:=DZ hM;have hJ:OkJ {p with log:=p.log++l,known:=m'.count}:=⟨h.j.m,fun e he=>by
  rcases List.mem_append.1 he with q|q
  ·exact h.j.e e q
  exact htt e q,hct⟩
 have hV:∀e∈p.log++l,OkV e.ev:=fun e he=>by
  rcases List.mem_append.1 he with q|q
  ·exact h.v e q
  exact hvv e q
 have hT2:∃y L,Tr m'.count p.m (p.log++l) o y L/\appL y L=m'/\∀e∈L,e.at_=m'.count/\e.ev.kind≠1:=by
  by_cases hc:m.count=m'.count
  ·obtain⟨e1,e2,e3⟩:=fS hT hc;subst e1 e2 e3;refine⟨p.m,p.log++rest,.nil (by rw[h.c,hc]) ?_,?_,fun e he=>?_⟩
   ·cases hlg:p.log with
    | nil=>rw[jA,h.c];exact hfi
    | cons x t=>simp[firstOk];rw[h.c];exact Int.le_of_eq (h.l x (by rw[hlg];simp)).1.symm
   ·show List.foldl _ _ _=_;rw[List.foldl_append];have h1:=h.a;have h2:=ha;show appL (appL p.m p.log) rest=m';rw[h1,h2]
   rcases List.mem_append.1 he with q|q
   ·rw[<- hc];exact h.l e q
   exact hr e q
  have hlt:m.count<m'.count:=by omega
  exact⟨m1,rest,Tr.evs p.log (by rw[h.c];exact hlt) (fun e he=>by rw[h.c];exact h.l e he) (by rw[h.a];exact hT),ha,hr⟩
 obtain⟨y,L,h1,h2,h3⟩:=hT2;obtain⟨c,hc⟩:=h1.repl (DC s) {p with log:=p.log++l,known:=m'.count} rfl rfl rfl (by rw[h.c];omega) hJ h.may;have hE:Ck {p with log:=p.log++l,known:=m'.count} s=(⟨y,L,m'.count,c⟩,o):=by
  unfold Ck;rw[if_pos h.may];exact hc
 rw[hE];obtain⟨us,hus,-,hul,-⟩:=h1.pre (p.log++l).length (fun k e hk he=>by rw[iV hk]at he;cases he);have hsub:∀e∈L,e∈p.log++l:=fun e he=>by rw[hus]at he;exact List.mem_of_mem_drop he
 obtain⟨o1,o2⟩:=h1.ok (fun e he=>(hV e he).n) h.j.m h.may;refine⟨⟨⟨o1,fun e he=>hJ.e e (hsub e he),hct⟩,o2,rfl,h1.end_cnt,h3,fun e he=>hV e (hsub e he),h2⟩,rfl,?_⟩;show L.length<=_;rw[hus,iE,gV];omega
theorem Bj.repl{p:RplD}{m m':MchD}(h:Bj p m){l:List EntD}{o:List OutD}(hR:Rb m l o m')(hS:SegJ m.count m'.count l)(hM:OkM m')(s:Int)(hd:m'.count<=m.count+DC s):
  Bj (Ck {p with log:=p.log++l,known:=m'.count} s).1 m'/\(Ck {p with log:=p.log++l,known:=m'.count} s).2=o/\(Ck {p with log:=p.log++l,known:=m'.count} s).1.log.length<=p.log.length+l.length:=h.repl2 hR hS.le hS.first hS.t hS.v hM s hd
end Go.Proofs.YtjkmhmepljamoaaGreat
end
