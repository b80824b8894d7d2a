/- A part of the proof of ReplicaHalts. -/
import Derived.Test.YthjpcmecgjfilaaGreatH31
import Derived.Test.YthjpcmecgjfilaaGreatH32
import Derived.Test.YthjpcmecgjfilaaGreatH33
set_option linter.unusedSimpArgs false
set_option linter.unusedVariables false
set_option maxHeartbeats 16000000
set_option maxRecDepth 100000
section
namespace Go.Proofs.YthjpcmecgjfilaaGreat
open Go.Ab Go.RowKit
abbrev dskO (x:OutD):Prop:=x.kind=3\/x.kind=4
theorem req_at (d:DskD) (t:Int):dskO (zBW d t).1->(zBW d t).1.at_=t:=by
 unfold zBW dskO
 (repeat' split)<;>simp
theorem zRj (d:DskD) (l:List Int) (c t:Int):∀ x∈(zBP d l c t).2,dskO x->x.at_=t:=by
 unfold zBP;split
 ·simp
 split
 ·simp
 intro x hx
 rw [List.mem_singleton.1 hx];exact req_at _ _
theorem zRl (d:DskD) (l:List Int) {c:Int} (hc:c=1\/c=2) (t:Int):(zBP d l c t).1.state=1->d.state=1\/∃ x∈(zBP d l c t).2,dskO x:=by
 unfold zBP;split
 ·intro h;exact .inl h
 split
 ·intro h;simp at h
 intro _
 refine .inr ⟨_,List.mem_singleton.2 rfl,?_⟩;unfold zBW dskO;rcases hc with rfl|rfl<;>simp
theorem dsk_at (d:DskD) (l:List Int) (p v t:Int):∀ x∈(zBI d l p v t).2,dskO x->x.at_=t:=by
 unfold zBI
 (repeat' split)<;>first|exact zRj _ _ _ _|simp
theorem dsk_st (d:DskD) (l:List Int) (p v t:Int):(zBI d l p v t).1.state=1->d.state=1\/∃ x∈(zBI d l p v t).2,dskO x:=by
 unfold zBI
 (repeat' split)<;>first|(rename_i q;exact zRl _ _ q _)|(intro h;exact .inl h)|(intro h;simp at h)
theorem nic_at (n:NicD) (l:List Int) (p v t:Int):∀ x∈(zAa n l p v t).2,¬ dskO x:=by
 unfold zAa dskO
 (repeat' split)<;>first|simp|(simp only [];split<;>simp)
theorem zSv (m:MchD) (p v t:Int):∀ x∈(zAJ m p v t).2,dskO x->x.at_=t:=by
 unfold zAJ
 (repeat' split)<;>first|exact dsk_at _ _ _ _ _|(intro x hx q;exact absurd q (nic_at _ _ _ _ _ x hx))|simp
theorem zSx (m:MchD) (p v t:Int):(zAJ m p v t).1.dk.state=1->m.dk.state=1\/∃ x∈(zAJ m p v t).2,dskO x:=by
 unfold zAJ
 (repeat' split)<;>first|exact dsk_st _ _ _ _ _|(intro h;exact .inl h)
theorem zVF (m:MchD) (p k:Int):(zAc m p k).1.dk=m.dk:=by
 unfold zAc
 (repeat' split)<;>rfl
theorem zUC (m:MchD) (e:EffD) (k t:Int):∀ x∈(zBH m e k t).2,dskO x->x.at_=t:=by
 unfold zBH
 (repeat' split)<;>first|exact zSv _ _ _ _|simp
theorem zUD (m:MchD) (e:EffD) (k t:Int):(zBH m e k t).1.dk.state=1->m.dk.state=1\/∃ x∈(zBH m e k t).2,dskO x:=by
 unfold zBH;split
 ·intro h
  simp only [zVF] at h;exact .inl h
 (repeat' split)<;>first|exact zSx _ _ _ _|(intro h;exact .inl h)
theorem zQk (m:MchD):(zBu m).dk=m.dk:=by
 show (zAK m).dk=m.dk
 unfold zAK
 (repeat' split)<;>rfl
theorem zVg (m:MchD) (k:Int):∀ x∈(stepD m k).2,dskO x->x.at_=m.count:=by
 unfold stepD;split
 ·exact zUC _ _ _ _
 simp
theorem zVh (m:MchD) (k:Int):(stepD m k).1.dk.state=1->m.dk.state=1\/∃ x∈(stepD m k).2,dskO x:=by
 unfold stepD;split
 ·intro h
  rw [<- zQk m];exact zUD _ _ _ _ h
 intro h;exact .inl h
theorem zGM (m:MchD) (k:Int):(stepD m k).1.count=if runsD m=true then m.count+1 else m.count:=by
 unfold stepD;split
 ·show (zBH _ _ _ _).1.count+1=_
  rw [zDy,zDD]
 rfl
theorem zQx (m:MchD) (e:EvD) (h:e.kind=6\/e.kind=2):(applyD m e).1.dk=m.dk:=by
 unfold applyD
 (repeat' split)<;>first|rfl|(exfalso;omega)
theorem zE9 (m:MchD) (e:EvD) (h:m.halted=true):applyD m e=(m,false):=by
 unfold applyD;rw [if_pos (.inr h)]
structure Lg (f c:Int) (l:List EntD):Prop where
 a:∀ e∈l,f<=e.at_/\e.at_<=c/\evVal e.ev=true
 o:ordD l=true
 t:∀ e,l.getLast? =some e->e.ev.kind=1->e.at_<c
theorem zMN:∀ (l:List EntD) (e:EntD),ordD l=true->(∀ a,l.getLast? =some a->a.at_<=e.at_/\(a.ev.kind=1->a.at_<e.at_))->ordD (l++[e])=true
 | [],e,_,_=>rfl
 | [a],e,_,h=>by
  obtain ⟨h1,h2⟩:=h a rfl;have q:¬ (e.at_<a.at_\/(e.at_=a.at_/\a.ev.kind=1)):=by
   rintro (q|⟨q,z⟩)
   ·omega
   have:=h2 z;omega
  simp only [zWM,zWa,ordD,Bool.and_true,zWW,Bool.or_eq_false_iff,Bool.and_eq_false_iff,decide_eq_false_iff_not];refine ⟨fun z=>q (.inl z),?_⟩
  by_cases z:a.ev.kind=1
  ·exact .inl (fun y=>q (.inr ⟨y,z⟩))
  exact .inr z
 | a::b::r,e,ho,h=>by
  rw [ordD,zV5] at ho;rw [zWM,zWM,ordD,zV5];exact ⟨ho.1,zMN (b::r) e ho.2 (fun x hx=>h x (by rw [List.getLast?_cons_cons];exact hx))⟩
theorem Lg.up {f c c':Int} {l:List EntD} (h:Lg f c l) (hc:c<=c'):Lg f c' l :=
 ⟨fun e he=>by have:=h.a e he;exact ⟨this.1,by omega,this.2.2⟩,h.o,fun e he hk=>by have:=h.t e he hk;omega⟩
theorem Lg.add {f c c':Int} {l:List EntD} (h:Lg f c l) (e:EvD) (hf:f<=c) (hv:evVal e=true) (hc:c<=c') (hk:e.kind=1->c<c'):Lg f c' (l++[⟨c,e⟩]):=by
 refine ⟨fun x hx=>?_,zMN l _ h.o (fun a ha=>?_),fun x hx hk'=>?_⟩
 ·rcases List.mem_append.1 hx with q|q
  ·have:=h.a x q;exact ⟨this.1,by omega,this.2.2⟩
  rw [List.mem_singleton.1 q];exact ⟨hf,hc,hv⟩
 ·exact ⟨(h.a a (List.mem_of_getLast? ha)).2.1,h.t a ha⟩
 rw [List.getLast?_append] at hx;simp at hx;subst hx;exact hk hk'
structure RunI (b f:Int) (s:Prop) (r:RecD) (o:List OutD):Prop where
 m:mayD r.m=true
 lg:Lg f r.m.count r.log
 fc:f<=r.m.count
 bc:b<=r.m.count
 dk:r.m.dk.state=1->s\/∃ x∈o,dskO x
 ot:∀ x∈o,dskO x->b<=x.at_
theorem RunI.offer {b f:Int} {s:Prop} {r:RecD} {o:List OutD} (h:RunI b f s r o) (hM:OkM r.m) {e:EvD} (hv:evVal e=true) (hk:e.kind=6\/e.kind=2) (hn:W32 e.n):RunI b f s (zAV r e) o:=by
 have hc:=(zDE hM hn).2;unfold zAV;split
 ·refine ⟨zB8 hM h.m e,?_,?_,?_,?_,h.ot⟩
  ·show Lg f (applyD r.m e).1.count _
   rw [hc];exact h.lg.add e h.fc hv (by omega) (fun z=>by omega)
  ·show f<=(applyD r.m e).1.count;rw [hc];exact h.fc
  ·show b<=(applyD r.m e).1.count;rw [hc];exact h.bc
  show (applyD r.m e).1.dk.state=1->_;rw [zQx r.m e hk];exact h.dk
 exact h
theorem RunI.tick {b f:Int} {s:Prop} {r:RecD} {o:List OutD} (h:RunI b f s r o) (hM:OkM r.m):RunI b f s (zAu r) o:=by
 unfold zAu;split
 ·exact h.offer hM (by rfl) (.inr rfl) zAs
 exact h
theorem zID {m:MchD} (h:readsD m=true):runsD m=true:=by
 unfold readsD at h;simp only [zV5] at h;exact h.1
theorem RunI.go {b f:Int} {s:Prop} {r:RecD} {o:List OutD} (h:RunI b f s r o) (hM:OkM r.m):RunI b f s (goR r).1 (o++(goR r).2):=by
 have hcnt:=zGM r.m r.clock;have hle:r.m.count<=(stepD r.m r.clock).1.count:=by rw [hcnt];split<;>omega
 refine ⟨zEu hM h.m _,?_,Int.le_trans h.fc hle,Int.le_trans h.bc hle,fun q=>?_,fun x hx q=>?_⟩
 ·show Lg f (stepD r.m r.clock).1.count (clkR r).log
  unfold clkR;split
  ·rename_i z;rw [if_pos (zID z)] at hcnt;exact h.lg.add ⟨1,r.clock,[]⟩ h.fc (by rfl) hle (fun _=>by omega)
  exact h.lg.up hle
 ·rcases zVh r.m r.clock q with z|⟨x,hx,z⟩
  ·rcases h.dk z with y|⟨x,hx,y⟩
   ·exact .inl y
   exact .inr ⟨x,List.mem_append_left _ hx,y⟩
  exact .inr ⟨x,List.mem_append_right _ hx,z⟩
 rcases List.mem_append.1 hx with z|z
 ·exact h.ot x z q
 rw [zVg r.m r.clock x z q];exact h.bc
theorem RunI.run:∀ (n:Nat) {b f:Int} {s:Prop} {r:RecD} {k:Nat} {o:List OutD},RunI b f s r o->OkR r k->RunI b f s (runR n r o).1 (runR n r o).2
 | 0,_,_,_,_,_,_,h,_=>h
 | n+1,b,f,s,r,k,o,h,hR=>by
  obtain ⟨h1,-⟩:=hR.tick;have h2:=h.tick hR.m;unfold runR;split
  ·exact h2
  exact RunI.run n (h2.go h1.m) h1.go
theorem zQR {r:RecD} (h:r.m.halted=true):zAu r=r:=by
 unfold zAu zAV;split
 ·rw [zE9 _ _ h];rfl
 rfl
theorem run_halt:∀ (n:Nat) {r:RecD} {o:List OutD},r.m.halted=true->(runR n r o).1.m.halted=true
 | 0,_,_,h=>h
 | n+1,r,o,h=>by
  unfold runR;rw [zQR h,if_pos (by unfold zDQ;rw [h];rfl)]
  exact h
theorem zPZ (r:RecD) (e:EvD):r.log.length<=(zAV r e).log.length:=by
 unfold zAV;split<;>simp
theorem zMp (r:RecD):r.log.length<=(zAu r).log.length:=by
 unfold zAu;split
 ·exact zPZ _ _
 exact zV9 _
theorem go_log (r:RecD):r.log.length<=(goR r).1.log.length:=by
 show _<=(clkR r).log.length
 unfold clkR;split<;>simp
theorem zP9:∀ (n:Nat) (r:RecD) (o:List OutD),r.log.length<=(runR n r o).1.log.length
 | 0,_,_=>zV9 _
 | n+1,r,o=>by
  unfold runR;split
  ·exact zMp r
  exact zWR (zMp r) (zWR (go_log _) (zP9 n _ _))
theorem zTq {r:RecD} {n b:Int} (hR:OkR r 0) (hm:mayD r.m=true) (hl:r.log=[]) (hq:r.queue=[⟨6,n,[]⟩]) (hn:W32 n) {clock:Int} (hc:W32 clock) (hb:b<=r.m.count) (steps:Int) :
  RunI b r.m.count (r.m.dk.state=1) (advD r steps clock).1 (advD r steps clock).2/\(advD r steps clock).1.queue=[]/\((advD r steps clock).1.log≠[]\/(advD r steps clock).1.m.halted=true):=by
 have hA:advD r steps clock=runR (limS steps) (zBb r clock) []:=by unfold advD;rw [if_pos hm]
 rw [hA];have hQ:=hR.queue hc;have hq0:zBb r clock={zAV {r with clock:=max r.clock clock} ⟨6,n,[]⟩ with queue:=[]}:=by unfold zBb;rw [hq];rfl
 have i0:RunI b r.m.count (r.m.dk.state=1) {r with clock:=max r.clock clock} []:=⟨hm,⟨by show ∀ e∈r.log,_;rw [hl];simp,by show ordD r.log=true;rw [hl];rfl,by show ∀ e,r.log.getLast? =some e->_;rw [hl];simp⟩,Int.le_refl _,hb,fun z=>.inl z,by simp⟩
 have i1:=i0.offer hR.m (e:=⟨6,n,[]⟩) (by rfl) (.inl rfl) hn
 have i2:RunI b r.m.count (r.m.dk.state=1) (zBb r clock) []:=by rw [hq0];exact ⟨i1.m,i1.lg,i1.fc,i1.bc,i1.dk,i1.ot⟩
 refine ⟨RunI.run _ i2 hQ,by rw [zEA];rfl,?_⟩
 cases hh:r.m.halted with
 | true =>
  refine .inr (run_halt _ ?_);rw [hq0];show (zAV _ _).m.halted=true
  unfold zAV;rw [zE9 _ _ (by exact hh)]
  exact hh
 | false =>
  refine .inl (fun z=>?_)
  have h1:=zP9 (limS steps) (zBb r clock) [];rw [z] at h1;have h2:(zBb r clock).log=[⟨r.m.count,⟨6,n,[]⟩⟩]:=by
   rw [hq0];show (zAV _ _).log=_
   unfold zAV applyD;simp [hm,hh,hl]
  rw [h2] at h1;simp at h1
theorem zJj:∀ (l:List EntD) (f:Int),(∀ e∈l,evVal e.ev=true)->(zBj f l).length<=211*l.length
 | [],_,_=>by simp [zBj]
 | e::l,f,h=>by
  have h1:=zAS (e.at_-f);have h2:=zJk (h e (zV8 ..));have h3:=zJj l e.at_ (fun x hx=>h x (zV4 _ hx))
  simp only [zBj,zV7,zWG];omega
theorem zTb {f c:Int} {l:List EntD} (h:Lg f c l) (hf:f<=c) (hn:l.length<=200):(zAY ⟨f,c,l⟩).2=0:=by
 have hb:zCD l c=false:=by
  unfold zCD;rw [List.any_eq_false];intro e he;have:=h.a e he;simp;omega
 have hE:zCl l f=0:=by
  have ha:l.all (fun e=>evVal e.ev)=true:=List.all_eq_true.2 (fun e he=>(h.a e he).2.2)
  have hfo:firstOk f l=true:=by
   cases l with
   | nil=>rfl
   | cons e r=>have:=(h.a e (zV8 ..)).1;simpa [firstOk] using this
  rw [zH6 (by omega) ha (by rw [h.o,hfo];simp)]
  have h1:=zJj l f (fun e he=>(h.a e he).2.2)
  have h2:=zAS (l.length:Int);rw [if_neg (by rw [zV7];omega)]
 unfold zAY;rw [if_neg (by rw [hb];simp;omega)]
 unfold logD;rw [if_pos hE]
theorem zHq:∀ (q:List SegD) (b:Int) (g:SegD),chainOk b q=true->g.from_=lastAt b q->(zAY g).2=0->chainOk b (q++[g])=true/\lastAt b (q++[g])=g.known
 | [],b,g,_,h,hs=>by
  simp only [lastAt] at h;simp [chainOk,lastAt,zDL,h,hs]
 | x::q,b,g,hc,h,hs=>by
  rw [chainOk,zV5] at hc;rw [lastAt] at h;obtain ⟨a1,a2⟩:=zHq q x.known g hc.2 h hs;rw [zWM,chainOk,lastAt,a1,Bool.and_true];exact ⟨hc.1,a2⟩
theorem zJu:∀ (l:List OutD) (g:GateD),(l.foldl zCE g).acked=g.acked
 | [],_=>rfl
 | o::l,g=>by
  rw [List.foldl_cons,zJu l];unfold zCE
  (repeat' split)<;>rfl
theorem zL3 (g:GateD) (l:List OutD):(zDh g l).1.acked=g.acked:=by
 unfold zDh;split
 ·exact zJu l g
 rfl
theorem zOP {b:Int}:∀ (l:List OutD) (c:Int × Int),(∀ x∈l,dskO x->b<=x.at_)->(b<=c.2\/∃ x∈l,dskO x)->b<=(cmdL c l).2
 | [],c,_,h=>by
  rcases h with h|⟨x,hx,-⟩
  ·exact h
  cases hx
 | o::l,c,ha,h=>by
  show b<=(cmdL (cmd1 c o) l).2
  refine zOP l _ (fun x hx=>ha x (zV4 _ hx)) ?_
  unfold cmd1;split
  ·rename_i z;exact .inl (ha o (zV8 ..) z)
  rename_i z;rcases h with h|⟨x,hx,hd⟩
  ·exact .inl h
  rcases List.mem_cons.1 hx with q|q
  ·subst q;exact absurd hd z
  exact .inr ⟨x,q,hd⟩
abbrev balE (n:Int):EvD:=⟨6,n,[]⟩
structure OkY (r:RepD) (i:Nat) (b:Int):Prop where
 l:OkL r i
 m:mayD r.rec_.m=true
 bs:r.out.base=1
 kn:r.out.known=b
 ch:chainOk b r.out.queue=true
 ta:r.out.tail=lastAt b r.out.queue
 tc:r.out.tail=r.rec_.m.count
 bc:b<=r.rec_.m.count
 ak:r.gate.acked=b
 dk:r.rec_.m.dk.state=1->b<=r.cmdAt
 qn:r.out.queue.length=i\/r.rec_.m.halted=true
theorem OkY.snd {r:RepD} {i:Nat} {b:Int} (h:OkY r i b) (hi:i<=8):zBQ r.out=true:=by
 have hon:=h.l.on;have ht:=h.ta;have hc:=h.ch;have hk:=h.kn;have h0:¬ (r.out.base<1\/4611686018427387904<r.out.base\/8<r.out.queue.length):=by rw [h.bs];omega
 unfold zBQ;rw [if_neg h0];cases hq:r.out.queue with
 | nil =>
  rw [hq] at ht;simp only [lastAt] at ht;simp only [decide_eq_true_eq];omega
 | cons g q =>
  rw [hq] at hc ht;have hc2:=hc;rw [chainOk] at hc2;simp only [zV5,decide_eq_true_eq] at hc2;rw [<- hc2.1.1] at hc ht hk;simp only [hc,ht,hk,Int.le_refl,decide_true,Bool.and_self]
theorem OkY.round {r:RepD} {i:Nat} {b:Int} (h:OkY r i b) (hi:i<8) {n:Int} (hn:W32 n):OkY (zDq {r with rec_:={r.rec_ with queue:=[balE n]}} 5 0) (i+1) b:=by
 have hl:=h.l;have hon:=hl.on;have hne:¬ (r.role=1/\8<=r.out.queue.length):=by omega
 have hR:OkR {r.rec_ with queue:=[balE n]} 0:=⟨hl.m,hl.c,by show r.rec_.log.length<=0;rw [hl.l];simp,by simp,fun e he=>by rw [List.mem_singleton.1 he];exact ⟨hn,by simp⟩,by show ∀ e∈r.rec_.log,_;rw [hl.l];simp⟩
 have hA:=hR.adv 5 zAs;have hO:=zEU {r.rec_ with queue:=[balE n]} 5 0
 obtain ⟨hI,hQ,hG⟩:=zTq hR h.m hl.l rfl hn zAs h.bc 5;have hh:r.rec_.m.halted=true->(advD {r.rec_ with queue:=[balE n]} 5 0).1.m.halted=true:=fun z=>by
  unfold advD;rw [if_pos h.m];refine run_halt _ ?_;show (zAV _ _).m.halted=true
  unfold zAV;rw [zE9 _ _ (by exact z)]
  exact z
 unfold zDq;rw [if_neg hne];rw [show stp 5=5 by decide]
 unfold zCR;simp only;generalize advD {r.rec_ with queue:=[balE n]} 5 0=A at *
 obtain ⟨a,o⟩:=A;simp only at hA hO hI hQ hG hh ⊢;rw [show limS 5=5 by decide] at hA hO
 have hal:=hA.l;simp only [zWG,List.length_nil] at hal;have hcnt:=zCb hA.m;have hlg:=hI.lg;have hfc:=hI.fc;rw [show ({r.rec_ with queue:=[balE n]}:RecD).m.count=r.out.tail from h.tc.symm] at hlg hfc
 have hsg:=zTb hlg hfc (by omega)
 have hsO:=h.snd (by omega)
 obtain ⟨s1,s2⟩:=zHq r.out.queue b ⟨r.out.tail,a.m.count,a.log⟩ h.ch h.ta hsg;have hp:zCP r.out ⟨r.out.tail,a.m.count,a.log⟩=({r.out with queue:=r.out.queue++[⟨r.out.tail,a.m.count,a.log⟩],tail:=a.m.count},0):=by
  unfold zCP;rw [if_neg (by rw [hsO];simp),if_neg (by rw [hsg];simp),if_neg (by omega)]
 have hH:=zEc r.gate o;have hK:=zL3 r.gate o;unfold logA runA segA;simp only [hl.role,true_and];rw [hp];have hout:∀ s:SndD,s=(if a.log≠[]\/a.m.count≠r.out.tail then {r.out with queue:=r.out.queue++[⟨r.out.tail,a.m.count,a.log⟩],tail:=a.m.count} else r.out) ->
   (∀ g∈s.queue,OkG g)/\s.queue.length<=i+1/\s.tail=a.m.count/\s.base=1/\s.known=b/\chainOk b s.queue=true/\s.tail=lastAt b s.queue/\(s.queue.length=i+1\/a.m.halted=true):=by
  intro s hs
  split at hs
  ·subst hs;refine ⟨fun g hg=>?_,by simp;omega,rfl,h.bs,h.kn,s1,s2.symm,?_⟩
   ·rcases List.mem_append.1 hg with q|q
    ·exact hl.o g q
    rw [List.mem_singleton.1 q];exact ⟨hl.t,hcnt,hA.t,by simp only;omega⟩
   rcases h.qn with q|q
   ·exact .inl (by simp [q])
   exact .inr (hh q)
  rename_i z;subst hs;refine ⟨hl.o,by omega,?_,h.bs,h.kn,h.ch,h.ta,?_⟩
  ·by_cases q:a.m.count=r.out.tail
   ·exact q.symm
   exact absurd (.inr q) z
  rcases hG with q|q
  ·exact absurd (.inl q) z
  exact .inr q
 obtain ⟨q1,q2,q3,q4,q5,q6,q7,q8⟩:=hout _ rfl;refine ⟨⟨rfl,hl.host,hl.gen,hA.m,hA.c,rfl,hQ,hl.p,hl.pl,?_,q1,q2,by rw [q3];exact hcnt,hl.e,?_⟩,hI.m,q4,q5,q6,q7,q3,hI.bc,by rw [hK];exact h.ak,fun z=>?_,q8⟩
 ·try simp only
  have:=hl.g;omega
 ·simp only [zV7];have:=hl.h;omega
 refine zOP o _ hI.ot ?_;rcases hI.dk z with y|y
 ·exact .inl (h.dk y)
 exact .inr y

theorem Rr.offers {m0:MchD} {H:List EntD} {O:List OutD}:∀ (l:List EvD) {r:RecD},Rr m0 H r O->(∀ e∈l,e.kind≠1)->Rr m0 H (l.foldl zAV r) O
 | [],_,h,_=>h
 | e::l,r,h,hl=>Rr.offers l (h.offer (hl e (zV8 ..))) (fun x hx=>hl x (zV4 _ hx))
theorem zD7:∀ (l:List EvD) {r:RecD} {k:Nat},OkR r k->(∀ e∈l,OkV e)->mayD r.m=true->mayD (l.foldl zAV r).m=true
 | [],_,_,_,_,h=>h
 | e::l,r,k,hR,hl,h=>by
  obtain ⟨h1,-⟩:=hR.offer (hl e (zV8 ..));refine zD7 l h1 (fun x hx=>hl x (zV4 _ hx)) ?_
  unfold zAV;split
  ·exact zB8 hR.m h _
  exact h
theorem adv_b {m0:MchD} {H:List EntD} {O:List OutD} {r:RecD} (h:Rb m0 H O r.m) (hl:r.log=[]) (hR:OkR r 0) (hm:mayD r.m=true) (hq:∀ e∈r.queue,e.kind≠1) {clock:Int} (hc:W32 clock) (steps:Int) :
  Rb m0 (H++(advD r steps clock).1.log) (O++(advD r steps clock).2) (advD r steps clock).1.m:=by
 have h0:Rr m0 H {r with clock:=max r.clock clock} O:=by
  show Rb m0 (H++r.log) O r.m
  rw [hl,zWT];exact h
 have hR0:OkR {r with clock:=max r.clock clock} 0:=⟨hR.m,zNW hR.c hc,hR.l,hR.q,hR.v,hR.t⟩
 have h1:Rr m0 H (zBb r clock) O:=Rr.offers r.queue h0 hq;have h2:mayD (zBb r clock).m=true:=zD7 r.queue hR0 hR.v hm;obtain ⟨a1,-⟩:=Rr.run (limS steps) h1 (hR.queue hc) h2;unfold advD;rw [if_pos hm];exact a1
theorem zL2:∀ (l k:List OutD) (b:Int),heldOk b (l++k)=true->heldOk b l=true
 | [],_,_,_=>rfl
 | o::l,k,b,h=>by
  rw [zWM,heldOk,zV5] at h;rw [heldOk,zV5];exact ⟨h.1,zL2 l k o.at_ h.2⟩
abbrev conO (o:OutD):Bool:=decide (o.kind=1)||decide (o.kind=2)
structure Oo (b c:Int) (O:List OutD):Prop where
 a:∀ o∈O,b<=o.at_/\o.at_<c
 f:∀ o∈O,conO o=true->fitsD o=true
 s:heldOk b (O.filter conO)=true
theorem zJt:∀ (l:List OutD) (b:Int) (o:OutD),heldOk b l=true->fitsD o=true->b<=o.at_->(∀ x∈l,x.at_<=o.at_)->heldOk b (l++[o])=true
 | [],b,o,_,hf,hb,_=>by simp [heldOk,hf,hb]
 | x::l,b,o,h,hf,hb,hl=>by
  rw [heldOk,zV5] at h;rw [zWM,heldOk,zV5];exact ⟨h.1,zJt l x.at_ o h.2 hf (hl x (zV8 ..)) (fun y hy=>hl y (zV4 _ hy))⟩
theorem Oo.up {b c c':Int} {O:List OutD} (h:Oo b c O) (hc:c<=c'):Oo b c' O:=⟨fun o ho=>by have:=h.a o ho;omega,h.f,h.s⟩
theorem Oo.snoc {b c:Int} {O:List OutD} (h:Oo b c O) {o:OutD} (ho:o.at_=c) (hb:b<=c) (hf:conO o=true->fitsD o=true):Oo b (c+1) (O++[o]):=by
 refine ⟨fun x hx=>?_,fun x hx=>?_,?_⟩
 ·rcases List.mem_append.1 hx with q|q
  ·have:=h.a x q;omega
  rw [List.mem_singleton.1 q];omega
 ·rcases List.mem_append.1 hx with q|q
  ·exact h.f x q
  rw [List.mem_singleton.1 q];exact hf
 rw [List.filter_append];cases hc:conO o with
 | true =>
  rw [show [o].filter conO=[o] by simp [hc]]
  refine zJt _ b o h.s (hf hc) (by omega) (fun x hx=>?_)
  have:=h.a x (List.mem_filter.1 hx).1;omega
 | false=>rw [show [o].filter conO=[] by simp [hc],zWT];exact h.s
abbrev Og (t:Int) (o:OutD):Prop:=o.at_=t/\(conO o=true->fitsD o=true)
theorem zUn (d:DskD) (l:List Int) {c:Int} (hc:c=1\/c=2) (t:Int):∀ o∈(zBP d l c t).2,Og t o:=by
 intro o ho
 unfold zBP at ho;split at ho
 ·simp at ho
 split at ho
 ·simp at ho
 rw [List.mem_singleton.1 ho];unfold zBW;rcases hc with rfl|rfl<;>exact ⟨by simp,by simp [conO]⟩
theorem zUE (d:DskD) (l:List Int) (p v t:Int):∀ o∈(zBI d l p v t).2,Og t o:=by
 unfold zBI
 (repeat' split)<;>first|(rename_i q;exact zUn _ _ q _)|simp
theorem zUv (n:NicD) (l:List Int) (p v t:Int):∀ o∈(zAa n l p v t).2,Og t o:=by
 unfold zAa;split
 ·simp
 split
 ·simp
 split
 ·split
  ·simp only;split
   ·rename_i q;intro o ho;rw [List.mem_singleton.1 ho];refine ⟨rfl,fun _=>?_⟩
    have:((zCx l n.frame).take n.len.toNat).length<=128:=by rw [zWE];omega
    simp only [fitsD];simp;omega
   simp
  (repeat' split)<;>simp
 simp
theorem zQi (m:MchD) (p v t:Int):∀ o∈(zAJ m p v t).2,Og t o:=by
 unfold zAJ;split
 ·intro o ho
  rw [List.mem_singleton.1 ho];exact ⟨rfl,fun _=>by simp [fitsD]⟩
 (repeat' split)<;>first|exact zUE _ _ _ _ _|exact zUv _ _ _ _ _|simp
theorem go_con (m:MchD) (k:Int):∀ o∈(goD m k).2,Og m.count o:=by
 show ∀ o∈(zBH _ _ _ _).2,_
 unfold zBH
 (repeat' split)<;>first|exact zQi _ _ _ _|simp
theorem Tr.outs {u:Int} {m m':MchD} {l r:List EntD} {O:List OutD} (h:Tr u m l O m' r):∀ {b:Int} {P:List OutD},b<=m.count->Oo b m.count P->Oo b u (P++O):=by
 have hgo:∀ {m:MchD} {b:Int} {P:List OutD} (k:Int),runsD m=true->b<=m.count->Oo b m.count P->Oo b (m.count+1) (P++(goD m k).2):=by
  intro m b P k hr hb hP
  have h1:=go_con m k;have h2:(goD m k).2.length<=1:=by have:=zDs m k;unfold stepD at this;rwa [if_pos hr] at this
  generalize (goD m k).2=q at h1 h2
  match q,h1,h2 with
  | [],_,_=>rw [zWT];exact hP.up (by omega)
  | [o],h1,_=>exact hP.snoc (h1 o (List.mem_singleton.2 rfl)).1 hb (h1 o (List.mem_singleton.2 rfl)).2
  | a::b::q,_,h2=>simp at h2
 induction h with
 | nil h1 _=>intro b P hb hP;rw [zWT];rw [<- h1];exact hP
 | @ev m e l O m' r h1 h2 h3 ih=>intro b P hb hP;exact ih (by rw [zBN];exact hb) (by rw [zBN];exact hP)
 | @go m l O m' r h1 h2 h3 h4 h5 ih =>
  intro b P hb hP
  rw [<- zWH];exact ih (by rw [zDg];omega) (by rw [zDg];exact hgo 0 h2 hb hP)
 | @clk m k l O m' r h1 h2 h3 h4 h5 ih =>
  intro b P hb hP
  rw [<- zWH];exact ih (by rw [zDg];omega) (by rw [zDg];exact hgo k h3 hb hP)
theorem Rb.outs {m0 m:MchD} {H:List EntD} {O:List OutD} (h:Rb m0 H O m):Oo m0.count m.count O:=by
 obtain ⟨m1,rest,h1,-,-⟩:=h;have:=h1.outs (b:=m0.count) (P:=[]) (Int.le_refl _) ⟨by simp,by simp,rfl⟩
 simpa using this
theorem zIY:∀ (l:List OutD) (g:GateD),(∀ o∈l,g.acked<=o.at_)->l.foldl zCE g={g with held:=g.held++l.filter conO}
 | [],g,_=>by simp
 | o::l,g,h=>by
  have h1:=h o (zV8 ..);rw [List.foldl_cons];cases hc:conO o with
  | true =>
   have e:zCE g o={g with held:=g.held++[o]}:=by
    unfold zCE;simp [conO] at hc;rw [if_neg (by omega),if_pos h1]
   rw [e,zIY l {g with held:=g.held++[o]} (fun x hx=>h x (zV4 _ hx)),List.filter_cons_of_pos hc]
   simp
  | false =>
   have e:zCE g o=g:=by
    unfold zCE;simp [conO] at hc;rw [if_pos hc]
   rw [e,zIY l _ (fun x hx=>h x (zV4 _ hx)),List.filter_cons_of_neg (by simp [hc])]
theorem hold_b {b c:Int} {P Q:List OutD} {g:GateD} (hg:g.held=P.filter conO) (ha:g.acked=b) (h:Oo b c (P++Q)):(zDh g Q).1={g with held:=(P++Q).filter conO}:=by
 have h1:=zIY Q g (fun o ho=>by rw [ha];exact (h.a o (List.mem_append_right _ ho)).1)
 have h2:zB9 (Q.foldl zCE g)=true:=by
  rw [h1];unfold zB9;simp only;rw [hg,<- List.filter_append,ha];exact h.s
 unfold zDh;split
 ·rw [h1];simp only;rw [hg,List.filter_append]
 rename_i q;exfalso;apply q;refine ⟨?_,h2⟩;have hs:=h.s;unfold zB9;rw [hg,ha];rw [List.filter_append] at hs;exact zL2 _ _ _ hs
def cntP (p:Int) (l:List EntD):Nat:=(l.filter fun e=>decide (e.at_=p)).length
theorem zF2 (p:Int) (a b:List EntD):cntP p (a++b)=cntP p a+cntP p b:=by simp [cntP]
theorem zIO (p:Int) (l:List EntD):cntP p l<=l.length:=List.length_filter_le _ _
theorem zKq {p:Int} {l:List EntD} (h:∀ e∈l,e.at_≠p):cntP p l=0:=by
 unfold cntP;rw [List.length_eq_zero_iff,List.filter_eq_nil_iff];intro e he;simpa using h e he
theorem zJ7 (r:RecD) (e:EvD):∃ E,(zAV r e).log=r.log++E/\E.length<=1/\∀ x∈E,x.at_=r.m.count:=by
 unfold zAV;split
 ·exact ⟨[⟨r.m.count,e⟩],rfl,by simp,by simp⟩
 exact ⟨[],by simp,by simp,by simp⟩
theorem zSn (r:RecD):∃ E,(zAu r).log=r.log++E/\E.length<=1/\∀ x∈E,x.at_=r.m.count:=by
 unfold zAu;split
 ·exact zJ7 _ _
 exact ⟨[],by simp,by simp,by simp⟩
theorem go_new (r:RecD):∃ E,(goR r).1.log=r.log++E/\E.length<=1/\∀ x∈E,x.at_=r.m.count:=by
 show ∃ E,(clkR r).log=_/\_
 unfold clkR;split
 ·exact ⟨[⟨r.m.count,⟨1,r.clock,[]⟩⟩],rfl,by simp,by simp⟩
 exact ⟨[],by simp,by simp,by simp⟩
theorem zMq {r:RecD} {k:Nat} (hR:OkR r k) (hm:mayD r.m=true):mayD (zAu r).m=true:=by
 unfold zAu;split
 ·unfold zAV;split
  ·exact zB8 hR.m hm _
  exact hm
 exact hm
theorem zQB:∀ (n:Nat) {r:RecD} {k:Nat} (o:List OutD),OkR r k->mayD r.m=true->∃ E,(runR n r o).1.log=r.log++E/\(∀ x∈E,r.m.count<=x.at_)/\∀ p,cntP p E<=2
 | 0,r,k,o,_,_=>⟨[],by simp [runR],by simp,by simp [cntP]⟩
 | n+1,r,k,o,hR,hm=>by
  obtain ⟨h1,-,-,hcT⟩:=hR.tick;have hm2:=zMq hR hm;obtain ⟨E1,a1,a2,a3⟩:=zSn r;by_cases hs:zDQ (zAu r).m=true
  ·refine ⟨E1,by rw [runR,if_pos hs];exact a1,fun x hx=>by rw [a3 x hx];omega,fun p=>zWR (zIO p E1) (by omega)⟩
  have hr:=zKN hm2 hs (by have:=((zBe _).1 hm2).n;omega)
  have hm3:mayD (goR (zAu r)).1.m=true:=zEu h1.m hm2 _;obtain ⟨E2,b1,b2,b3⟩:=go_new (zAu r);obtain ⟨E3,c1,c2,c3⟩:=zQB n (o++(goR (zAu r)).2) h1.go hm3;have hcg:(goR (zAu r)).1.m.count=r.m.count+1:=by
   show (stepD _ _).1.count=_
   rw [zGM,if_pos hr,hcT]
  refine ⟨E1++(E2++E3),by rw [runR,if_neg hs,c1,b1,a1];simp,fun x hx=>?_,fun p=>?_⟩
  ·rcases List.mem_append.1 hx with q|q
   ·rw [a3 x q];omega
   rcases List.mem_append.1 q with q|q
   ·rw [b3 x q,hcT];omega
   have:=c2 x q;omega
  rw [zF2,zF2];by_cases hp:p=r.m.count
  ·have h0:cntP p E3=0:=zKq (fun e he=>by have:=c2 e he;omega)
   have h1:=zIO p E1;have h2:=zIO p E2;omega
  have h0:cntP p E1=0:=zKq (fun e he=>by rw [a3 e he];omega)
  have h1:cntP p E2=0:=zKq (fun e he=>by rw [b3 e he,hcT];omega)
  have h2:=c3 p;omega
theorem zH8:∀ (l:List EvD) (r:RecD),(∀ e∈l,OkV e)->∀ {k:Nat},OkR r k->∃ E,(l.foldl zAV r).log=r.log++E/\E.length<=l.length
 | [],r,_,_,_=>⟨[],by simp,by simp⟩
 | e::l,r,hl,k,hR=>by
  obtain ⟨E1,a1,a2,-⟩:=zJ7 r e;obtain ⟨h1,-⟩:=hR.offer (hl e (zV8 ..));obtain ⟨E2,b1,b2⟩:=zH8 l (zAV r e) (fun x hx=>hl x (zV4 _ hx)) h1
  exact ⟨E1++E2,by rw [List.foldl_cons,b1,a1];simp,by simp;omega⟩
theorem zTp {r:RecD} (hR:OkR r 0) (hm:mayD r.m=true) (hl:r.log=[]) {clock:Int} (hc:W32 clock) (steps:Int) (p:Int):cntP p (advD r steps clock).1.log<=r.queue.length+2:=by
 have hR0:OkR {r with clock:=max r.clock clock} 0:=⟨hR.m,zNW hR.c hc,hR.l,hR.q,hR.v,hR.t⟩
 have h2:mayD (zBb r clock).m=true:=zD7 r.queue hR0 hR.v hm;obtain ⟨E1,a1,a2⟩:=zH8 r.queue {r with clock:=max r.clock clock} hR.v hR0
 obtain ⟨E2,b1,-,b3⟩:=zQB (limS steps) [] (hR.queue hc) h2;have e1:(zBb r clock).log=E1:=by
  show (r.queue.foldl zAV _).log=_
  rw [a1];show r.log++E1=E1
  rw [hl,zWa]
 unfold advD;rw [if_pos hm,b1,e1,zF2];have:=zIO p E1;have:=b3 p;omega
theorem Tr.ord {u:Int} {m m':MchD} {l r:List EntD} {O:List OutD} (h:Tr u m l O m' r):ordD r=true->ordD l=true:=by
 have cons:∀ (c:Int) (e:EvD) (l:List EntD),firstOk c l=true->ordD l=true->(e.kind=1->firstOk (c+1) l=true)->ordD (⟨c,e⟩::l)=true:=by
  intro c e l h1 h2 h3
  cases l with
  | nil=>rfl
  | cons b l =>
   rw [ordD,h2,Bool.and_true];simp only [firstOk,decide_eq_true_eq] at h1;simp only [zWW,Bool.or_eq_false_iff,Bool.and_eq_false_iff,decide_eq_false_iff_not];refine ⟨by omega,?_⟩
   by_cases z:e.kind=1
   ·have:=h3 z;simp only [firstOk,decide_eq_true_eq] at this;exact .inl (by omega)
   exact .inr z
 induction h with
 | nil _ _=>exact id
 | @ev m e l O m' r h1 h2 h3 ih =>
  intro ho
  refine cons _ _ _ ?_ (ih ho) (fun z=>absurd z h2)
  have:=h3.first
  rwa [zBN] at this
 | go _ _ _ _ _ ih=>exact ih
 | @clk m k l O m' r h1 h2 h3 h4 h5 ih =>
  intro ho
  have h6:=h5.first
  rw [zDg] at h6;refine cons _ _ _ ?_ (ih ho) (fun _=>h6)
  cases l with
  | nil=>rfl
  | cons b l=>simp only [firstOk,decide_eq_true_eq] at h6 ⊢;omega
theorem zMd {c:Int}:∀ l:List EntD,(∀ e∈l,e.at_=c/\e.ev.kind≠1)->ordD l=true
 | [],_=>rfl
 | [_],_=>rfl
 | a::b::l,h=>by
  rw [ordD,zMd (b::l) (fun e he=>h e (zV4 _ he)),Bool.and_true]
  have ha:=h a (zV8 ..);have hb:=h b (zV4 _ (zV8 ..));simp only [zWW,Bool.or_eq_false_iff,Bool.and_eq_false_iff,decide_eq_false_iff_not];exact ⟨by omega,.inr ha.2⟩
theorem Rb.ord {m0 m:MchD} {H:List EntD} {O:List OutD} (h:Rb m0 H O m):ordD H=true:=by
 obtain ⟨m1,rest,h1,-,h3⟩:=h;exact h1.ord (zMd rest h3)
theorem zQA:∀ (n:Nat) {r:RecD} {k:Nat} (o:List OutD),OkR r k->mayD r.m=true->mayD (runR n r o).1.m=true
 | 0,_,_,_,_,h=>h
 | n+1,r,k,o,hR,hm=>by
  obtain ⟨h1,-⟩:=hR.tick;have hm2:=zMq hR hm;unfold runR;split
  ·exact hm2
  exact zQA n _ h1.go (zEu h1.m hm2 _)
theorem zTo {r:RecD} (hR:OkR r 0) (hm:mayD r.m=true) {clock:Int} (hc:W32 clock) (steps:Int):mayD (advD r steps clock).1.m=true:=by
 have hR0:OkR {r with clock:=max r.clock clock} 0:=⟨hR.m,zNW hR.c hc,hR.l,hR.q,hR.v,hR.t⟩
 have h2:mayD (zBb r clock).m=true:=zD7 r.queue hR0 hR.v hm;unfold advD;rw [if_pos hm];exact zQA _ _ (hR.queue hc) h2
theorem zSz {r:RecD} (hm:mayD r.m=true) (steps clock:Int):(advD r steps clock).1.queue=[]:=by
 unfold advD;rw [if_pos hm,zEA];rfl
def LogV (r:RecD):Prop:=∀ x∈r.log,OkV x.ev
theorem LogV.snoc {l:List EntD} (h:∀ x∈l,OkV x.ev) {c:Int} {e:EvD} (he:OkV e):∀ x∈l++[⟨c,e⟩],OkV x.ev:=by
 intro x hx
 rcases List.mem_append.1 hx with q|q
 ·exact h x q
 rw [List.mem_singleton.1 q];exact he
theorem LogV.offer {r:RecD} (h:LogV r) {e:EvD} (he:OkV e):LogV (zAV r e):=by
 unfold zAV;split
 ·exact LogV.snoc h he
 exact h
theorem LogV.tick {r:RecD} (h:LogV r):LogV (zAu r):=by
 unfold zAu;split
 ·exact h.offer timV
 exact h
theorem LogV.go {r:RecD} (h:LogV r) (hc:W32 r.clock):LogV (goR r).1:=by
 show ∀ x∈(clkR r).log,_
 unfold clkR;split
 ·exact LogV.snoc h ⟨hc,by simp⟩
 exact h
theorem LogV.run:∀ (n:Nat) {r:RecD} {k:Nat} (o:List OutD),LogV r->OkR r k->LogV (runR n r o).1
 | 0,_,_,_,h,_=>h
 | n+1,r,k,o,h,hR=>by
  obtain ⟨h1,-⟩:=hR.tick;unfold runR;split
  ·exact h.tick
  exact LogV.run n _ (h.tick.go h1.c) h1.go
theorem LogV.offers:∀ (l:List EvD) {r:RecD},LogV r->(∀ e∈l,OkV e)->LogV (l.foldl zAV r)
 | [],_,h,_=>h
 | e::l,r,h,hl=>LogV.offers l (h.offer (hl e (zV8 ..))) (fun x hx=>hl x (zV4 _ hx))
theorem adv_v {r:RecD} (hR:OkR r 0) (hm:mayD r.m=true) (hl:r.log=[]) {clock:Int} (hc:W32 clock) (steps:Int):LogV (advD r steps clock).1:=by
 have h0:LogV {r with clock:=max r.clock clock}:=by
  show ∀ x∈r.log,_
  rw [hl];simp
 have h1:LogV (zBb r clock):=LogV.offers r.queue h0 hR.v;unfold advD;rw [if_pos hm];exact LogV.run _ _ h1 (hR.queue hc)
structure OkB (m0:MchD) (r:RepD) (i:Nat) (O:List OutD):Prop where
 role:r.role=1
 host:r.host=0
 m:OkM r.rec_.m
 may:mayD r.rec_.m=true
 c:W32 r.rec_.clock
 l:r.rec_.log=[]
 q:r.rec_.queue=[]
 p:OkM r.rpl.m
 pl:r.rpl.log=[]
 o:∀ g∈r.out.queue,OkG g
 on:r.out.queue.length<=i
 t:L64 r.out.tail
 e:r.inn.early=[]
 h:r.hist.length<=130*i
 hv:∀ e∈r.hist,OkV e.ev
 hc:∀ p,cntP p r.hist<=3*i
 rb:Rb m0 r.hist O r.rec_.m
 ol:O.length<=64*i
 hd:r.gate.held=O.filter conO
 ak:r.gate.acked=m0.count
abbrev zHh (r:RepD) (q:List EvD):RepD:={r with rec_:={r.rec_ with queue:=q}}
theorem OkB.okP {m0:MchD} {r:RepD} {i:Nat} {O:List OutD} (h:OkB m0 r i O) (hi:i<=100) {q:List EvD} (hq:q.length<=10) (hv:∀ e∈q,OkV e):OkP (zHh r q) 400:=by
 have hg:r.gate.held.length<=64*i:=by rw [h.hd];exact zWR (List.length_filter_le _ _) h.ol
 refine ⟨⟨h.m,h.c,by show r.rec_.log.length<=_;rw [h.l];simp,by show q.length<=_;omega,hv,by show ∀ e∈r.rec_.log,_;rw [h.l];simp⟩,h.p,by show r.rpl.log.length<=_;rw [h.pl];simp,by show r.gate.held.length<=_;omega,h.o,by show r.out.queue.length<=_;have:=h.on;omega,by show ∀ e∈r.inn.early,_;rw [h.e];simp,by show r.inn.early.length<=_;rw [h.e];simp,by show r.hist.length<=_;have:=h.h;omega⟩
theorem OkB.round {m0:MchD} {r:RepD} {i:Nat} {O:List OutD} (h:OkB m0 r i O) (hi:i<8) {q:List EvD} (hq:q.length<=1) (hv:∀ e∈q,OkV e) (hk:∀ e∈q,e.kind≠1) (steps:Int) {clock:Int} (hc:W32 clock) :
  ∃ O',OkB m0 (zDq (zHh r q) steps clock) (i+1) O':=by
 have hon:=h.on;have hne:¬ (r.role=1/\8<=r.out.queue.length):=by omega
 have hst:0<=stp steps/\stp steps<=64:=by unfold stp;omega
 have hlim:limS (stp steps)<=64:=by unfold limS;omega
 have hR:OkR {r.rec_ with queue:=q} 0:=⟨h.m,h.c,by show r.rec_.log.length<=0;rw [h.l];simp,by show q.length<=_;omega,hv,by show ∀ e∈r.rec_.log,_;rw [h.l];simp⟩
 have hA:=hR.adv (stp steps) hc;have hO:=zEU {r.rec_ with queue:=q} (stp steps) clock
 have hQ:=zSz (r:={r.rec_ with queue:=q}) h.may (stp steps) clock
 have hM:=zTo hR h.may hc (stp steps);have hV:=adv_v hR h.may h.l hc (stp steps);have hN:=fun p=>zTp hR h.may h.l hc (stp steps) p
 have hB:=adv_b (r:={r.rec_ with queue:=q}) h.rb h.l hR h.may hk hc (stp steps)
 unfold zDq;rw [if_neg hne];unfold zCR;simp only;generalize advD {r.rec_ with queue:=q} (stp steps) clock=A at *
 obtain ⟨a,o⟩:=A;simp only at hA hO hQ hM hV hN hB ⊢;have hal:=hA.l;have hcnt:=zCb hA.m;have hH:=hold_b h.hd h.ak hB.outs;unfold logA runA;simp only;rw [hH];have hpush:∀ s:SndD,s=(zCP r.out ⟨r.out.tail,a.m.count,a.log⟩).1->(∀ g∈s.queue,OkG g)/\s.queue.length<=i+1/\L64 s.tail:=by
  intro s hs
  have h0:(∀ g∈r.out.queue,OkG g)/\r.out.queue.length<=i+1/\L64 r.out.tail:=⟨h.o,by omega,h.t⟩
  unfold zCP at hs
  (repeat' split at hs)
  ·subst hs;exact h0
  ·subst hs;exact h0
  ·subst hs;exact h0
  subst hs;refine ⟨fun g hg=>?_,?_,hcnt⟩
  ·rcases List.mem_append.1 hg with q|q
   ·exact h.o g q
   rw [List.mem_singleton.1 q];exact ⟨h.t,hcnt,hA.t,by simp only;omega⟩
  simp only [zV7,zWG,List.length_nil];omega
 have hout:∀ s:SndD,s=(if r.role=1/\(a.log≠[]\/a.m.count≠r.out.tail) then (zCP r.out ⟨r.out.tail,a.m.count,a.log⟩).1 else r.out)->(∀ g∈s.queue,OkG g)/\s.queue.length<=i+1/\L64 s.tail:=by
  intro s hs
  split at hs
  ·exact hpush s hs
  subst hs;exact ⟨h.o,by omega,h.t⟩
 obtain ⟨q1,q2,q3⟩:=hout _ rfl;refine ⟨O++o,h.role,h.host,hA.m,hM,hA.c,rfl,hQ,h.p,h.pl,q1,q2,q3,h.e,?_,?_,fun p=>?_,hB,?_,rfl,h.ak⟩
 ·simp only [zV7];have:=h.h;omega
 ·intro e he
  rcases List.mem_append.1 he with q|q
  ·exact h.hv e q
  exact hV e q
 ·show cntP p (r.hist++a.log)<=_
  rw [zF2];have:=h.hc p;have:=hN p;omega
 simp only [zV7];have:=h.ol;omega
structure OkW1 (e:EvD):Prop where
 v:OkV e
 ok:evVal e=true
 k:e.kind≠1
structure RunJ (f:Int) (r:RecD):Prop where
 m:mayD r.m=true
 lg:Lg f r.m.count r.log
 fc:f<=r.m.count
theorem RunJ.offer {f:Int} {r:RecD} (h:RunJ f r) (hM:OkM r.m) {e:EvD} (hv:evVal e=true) (hk:e.kind≠1) (hn:W32 e.n):RunJ f (zAV r e):=by
 have hc:=(zDE hM hn).2;unfold zAV;split
 ·refine ⟨zB8 hM h.m e,?_,?_⟩
  ·show Lg f (applyD r.m e).1.count _
   rw [hc];exact h.lg.add e h.fc hv (by omega) (fun z=>absurd z hk)
  show f<=(applyD r.m e).1.count;rw [hc];exact h.fc
 exact h
theorem RunJ.offers {f:Int}:∀ (l:List EvD) {r:RecD} {k:Nat},RunJ f r->OkR r k->(∀ e∈l,OkW1 e)->RunJ f (l.foldl zAV r)
 | [],_,_,h,_,_=>h
 | e::l,r,k,h,hR,hl=>by
  have he:=hl e (zV8 ..);exact RunJ.offers l (h.offer hR.m he.ok he.k he.v.n) (hR.offer he.v).1 (fun x hx=>hl x (zV4 _ hx))
theorem RunJ.tick {f:Int} {r:RecD} (h:RunJ f r) (hM:OkM r.m):RunJ f (zAu r):=by
 unfold zAu;split
 ·exact h.offer hM (by rfl) (by decide) zAs
 exact h
theorem RunJ.go {f:Int} {r:RecD} (h:RunJ f r) (hM:OkM r.m):RunJ f (goR r).1:=by
 have hcnt:=zGM r.m r.clock;have hle:r.m.count<=(stepD r.m r.clock).1.count:=by rw [hcnt];split<;>omega
 refine ⟨zEu hM h.m _,?_,Int.le_trans h.fc hle⟩;show Lg f (stepD r.m r.clock).1.count (clkR r).log
 unfold clkR;split
 ·rename_i z;rw [if_pos (zID z)] at hcnt;exact h.lg.add ⟨1,r.clock,[]⟩ h.fc (by rfl) hle (fun _=>by omega)
 exact h.lg.up hle
theorem RunJ.run:∀ (n:Nat) {f:Int} {r:RecD} {k:Nat} {o:List OutD},RunJ f r->OkR r k->RunJ f (runR n r o).1/\(runR n r o).1.m.count<=r.m.count+n
 | 0,_,_,_,_,h,_=>⟨h,by simp [runR]⟩
 | n+1,f,r,k,o,h,hR=>by
  obtain ⟨h1,-,-,hc⟩:=hR.tick;have h2:=h.tick hR.m;unfold runR;split
  ·exact ⟨h2,by rw [hc];omega⟩
  obtain ⟨a,b⟩:=RunJ.run n (o:=o++(goR (zAu r)).2) (h2.go h1.m) h1.go;have hcg:(goR (zAu r)).1.m.count<=(zAu r).m.count+1:=by
   show (stepD _ _).1.count<=_
   rw [zGM];split<;>omega
  exact ⟨a,by rw [hc] at hcg;omega⟩
theorem adv_j {r:RecD} (hR:OkR r 0) (hm:mayD r.m=true) (hl:r.log=[]) (hq:∀ e∈r.queue,OkW1 e) {clock:Int} (hc:W32 clock) (steps:Int) :
  RunJ r.m.count (advD r steps clock).1/\(advD r steps clock).1.m.count<=r.m.count+limS steps:=by
 have hA:advD r steps clock=runR (limS steps) (zBb r clock) []:=by unfold advD;rw [if_pos hm]
 rw [hA];have hQ:=hR.queue hc;have hR0:OkR {r with clock:=max r.clock clock} 0:=⟨hR.m,zNW hR.c hc,hR.l,hR.q,hR.v,hR.t⟩
 have i0:RunJ r.m.count {r with clock:=max r.clock clock}:=⟨hm,⟨by show ∀ e∈r.log,_;rw [hl];simp,by show ordD r.log=true;rw [hl];rfl,by show ∀ e,r.log.getLast? =some e->_;rw [hl];simp⟩,Int.le_refl _⟩
 have i1:=RunJ.offers r.queue i0 hR0 hq;have i2:RunJ r.m.count (zBb r clock):=⟨i1.m,i1.lg,i1.fc⟩;have hcq:(zBb r clock).m.count=r.m.count:=by
  have:∀ (l:List EvD) (x:RecD),(l.foldl zAV x).m.count=x.m.count:=by
   intro l
   induction l with
   | nil=>intro x;rfl
   | cons e l ih =>
    intro x
    rw [List.foldl_cons,ih];unfold zAV;split
    ·exact zBN _ _
    rfl
  exact this r.queue _
 obtain ⟨a,b⟩:=RunJ.run (limS steps) (o:=[]) i2 hQ;exact ⟨a,by rw [hcq] at b;exact b⟩
theorem zTK {c:Int}:∀ (l:List EntD),ordD l=true->(∀ e∈l,e.at_<=c)->(∀ e,l.getLast? =some e->e.ev.kind=1->e.at_<c)->∀ e∈l,e.at_=c->e.ev.kind≠1
 | [],_,_,_,e,h,_=>by cases h
 | [a],_,_,ht,e,h,hc=>by
  rw [List.mem_singleton.1 h] at hc ⊢;intro hk;have:=ht a rfl hk;omega
 | a::b::r,ho,hl,ht,e,h,hc=>by
  rw [ordD,zV5] at ho;rcases List.mem_cons.1 h with rfl|h
  ·intro hk
   have h1:=hl b (by simp)
   have h2:=ho.1;simp [hk] at h2;omega
  exact zTK (b::r) ho.2 (fun x hx=>hl x (zV4 _ hx)) (fun x hx=>ht x (by rw [List.getLast?_cons_cons];exact hx)) e h hc
theorem zPe {c:Int}:∀ (A l:List EntD),(∀ e∈A,e.at_=c/\e.ev.kind≠1)->ordD l=true->firstOk c l=true->ordD (A++l)=true
 | [],l,_,ho,_=>ho
 | [a],[],_,_,_=>rfl
 | [a],b::r,hA,ho,hf=>by
  obtain ⟨h1,h2⟩:=hA a (by simp)
  simp only [firstOk,decide_eq_true_eq] at hf;show ordD (a::b::r)=true
  rw [ordD,ho,Bool.and_true];simp [h2];omega
 | a::b::A,l,hA,ho,hf=>by
  obtain ⟨h1,h2⟩:=hA a (by simp)
  obtain ⟨h3,h4⟩:=hA b (by simp)
  have ih:=zPe (b::A) l (fun e he=>hA e (zV4 _ he)) ho hf
  show ordD (a::b::(A++l))=true
  rw [ordD,zV5];refine ⟨?_,ih⟩;simp [h2];omega
structure SegJ (c c':Int) (l:List EntD):Prop where
 le:c<=c'
 lg:Lg c c' l
 n:l.length<=130
 t:∀ e∈l,OkT e
 v:∀ e∈l,OkV e.ev
theorem SegJ.ok {c c':Int} {l:List EntD} (h:SegJ c c' l):(zAY ⟨c,c',l⟩).2=0:=zTb h.lg h.le (by have:=h.n;omega)
structure Bj (p:RplD) (m:MchD):Prop where
 j:OkJ p
 may:mayD p.m=true
 k:p.known=m.count
 c:p.m.count=m.count
 l:∀ e∈p.log,e.at_=m.count/\e.ev.kind≠1
 v:∀ e∈p.log,OkV e.ev
 a:appL p.m p.log=m
theorem SegJ.first {c c':Int} {l:List EntD} (h:SegJ c c' l):firstOk c l=true:=by
 cases l with
 | nil=>rfl
 | cons e r=>have:=(h.lg.a e (zV8 ..)).1;simpa [firstOk] using this
theorem Bj.feed {p:RplD} {m:MchD} (h:Bj p m) {c':Int} {l:List EntD} (hS:SegJ m.count c' l) (hn:p.log.length<=3000):FeedOk p l c':=by
 refine ⟨by rw [h.k];exact hS.le,by have:=hS.n;omega,by have:=hS.n;omega,fun e he=>?_,zPe p.log l h.l hS.lg.o hS.first⟩
 have:=hS.lg.a e he;exact ⟨by rw [h.k];exact this.1,this.2.1,zTK l hS.lg.o (fun x hx=>(hS.lg.a x hx).2.1) hS.lg.t e he,this.2.2⟩
theorem zVp {u:Int} {m m':MchD} {l r:List EntD} {O:List OutD} (h:Tr u m l O m' r) (hu:m.count=u):m'=m/\r=l/\O=[]:=by
 cases h with
 | nil _ _=>exact ⟨rfl,rfl,rfl⟩
 | ev h1 _ _=>omega
 | go h1 _ _ _ _=>omega
 | clk h1 _ _ _ _=>omega
theorem Bj.repl {p:RplD} {m m':MchD} (h:Bj p m) {l:List EntD} {o:List OutD} (hR:Rb m l o m') (hS:SegJ m.count m'.count l) (hM:OkM m') (s:Int) (hd:m'.count<=m.count+limS s) :
  Bj (zCF {p with log:=p.log++l,known:=m'.count} s).1 m'/\(zCF {p with log:=p.log++l,known:=m'.count} s).2=o/\(zCF {p with log:=p.log++l,known:=m'.count} s).1.log.length<=p.log.length+l.length:=by
 obtain ⟨m1,rest,hT,ha,hr⟩:=hR;have hct:=zCb hM;have hJ:OkJ {p with log:=p.log++l,known:=m'.count}:=⟨h.j.m,fun e he=>by
  rcases List.mem_append.1 he with q|q
  ·exact h.j.e e q
  exact hS.t e q,hct⟩
 have hV:∀ e∈p.log++l,OkV e.ev:=fun e he=>by
  rcases List.mem_append.1 he with q|q
  ·exact h.v e q
  exact hS.v e q
 have hT2:∃ y L,Tr m'.count p.m (p.log++l) o y L/\appL y L=m'/\∀ e∈L,e.at_=m'.count/\e.ev.kind≠1:=by
  by_cases hc:m.count=m'.count
  ·obtain ⟨e1,e2,e3⟩:=zVp hT hc;subst e1 e2 e3;refine ⟨p.m,p.log++rest,.nil (by rw [h.c,hc]) ?_,?_,fun e he=>?_⟩
   ·cases hlg:p.log with
    | nil=>rw [zWa,h.c];exact hS.first
    | cons x t=>simp [firstOk];rw [h.c];exact Int.le_of_eq (h.l x (by rw [hlg];simp)).1.symm
   ·show List.foldl _ _ _=_
    rw [List.foldl_append];have h1:=h.a;have h2:=ha;show appL (appL p.m p.log) rest=m'
    rw [h1,h2]
   rcases List.mem_append.1 he with q|q
   ·rw [<- hc];exact h.l e q
   exact hr e q
  have hlt:m.count<m'.count:=by have:=hS.le;omega
  exact ⟨m1,rest,Tr.evs p.log (by rw [h.c];exact hlt) (fun e he=>by rw [h.c];exact h.l e he) (by rw [h.a];exact hT),ha,hr⟩
 obtain ⟨y,L,h1,h2,h3⟩:=hT2;obtain ⟨c,hc⟩:=h1.repl (limS s) {p with log:=p.log++l,known:=m'.count} rfl rfl rfl (by rw [h.c];omega) hJ h.may
 have hE:zCF {p with log:=p.log++l,known:=m'.count} s=(⟨y,L,m'.count,c⟩,o):=by
  unfold zCF;rw [if_pos h.may];exact hc
 rw [hE];obtain ⟨us,hus,-,hul,-⟩:=h1.pre (p.log++l).length (fun k e hk he=>by rw [List.getElem?_eq_none hk] at he;cases he)
 have hsub:∀ e∈L,e∈p.log++l:=fun e he=>by rw [hus] at he;exact List.mem_of_mem_drop he
 obtain ⟨o1,o2⟩:=h1.ok (fun e he=>(hV e he).n) h.j.m h.may
 refine ⟨⟨⟨o1,fun e he=>hJ.e e (hsub e he),hct⟩,o2,rfl,h1.end_cnt,h3,fun e he=>hV e (hsub e he),h2⟩,rfl,?_⟩
 show L.length<=_
 rw [hus,zWF,zV7];omega
end Go.Proofs.YthjpcmecgjfilaaGreat
end
