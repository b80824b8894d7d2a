/- A part of the proof of ReplicaTakes. -/
import Derived.Test.YtjkmhmepljamoaaGreatT18
import Derived.Test.YtjkmhmepljamoaaGreatT29
import Derived.Test.YtjkmhmepljamoaaGreatT30
import Derived.Test.YtjkmhmepljamoaaGreatT31
set_option linter.all false
set_option maxHeartbeats 16000000
set_option maxRecDepth 100000
section
namespace Go.Proofs.YtjkmhmepljamoaaGreat
open Go.Ab Go.RowKit Tryz
structure OkV(e:EvD):Prop where
 n:W32 e.n
 d:e.data.length<=100000
structure OkR(r:RecD)(k:Nat):Prop where
 m:OkM r.m
 c:W32 r.clock
 l:r.log.length<=k
 q:r.queue.length<=1000
 v:∀e∈r.queue,OkV e
 t:∀e∈r.log,OkT e
theorem OkR.up{r:RecD}{k k':Nat}(h:OkR r k)(hk:k<=k'):OkR r k':=⟨h.m,h.c,f8 h.l hk,h.q,h.v,h.t⟩
theorem Sj{l:List EntD}{e:EntD}(h:∀x∈l,OkT x)(he:OkT e):∀x∈l++[e],OkT x:=by
 intro x hx;rcases List.mem_append.1 hx with q|q
 ·exact h x q
 rw[List.mem_singleton.1 q];exact he
theorem Cj{m:MchD}(h:OkM m):L64 m.count:=⟨h.ct.1,by have:=h.ct.2;omega⟩
theorem OkR.offer{r:RecD}{k:Nat}(h:OkR r k){e:EvD}(he:OkV e):OkR (AZ r e) (k+1)/\(AZ r e).clock=r.clock/\(AZ r e).queue=r.queue/\(AZ r e).m.count=r.m.count:=by
 obtain⟨a1,a2⟩:=DU h.m he.n;unfold AZ;split
 ·exact⟨⟨a1,h.c,by simp;exact h.l,h.q,h.v,Sj h.t ⟨Cj h.m,he.n⟩⟩,rfl,rfl,a2⟩
 exact⟨h.up (by omega),rfl,rfl,rfl⟩
theorem timV:OkV ⟨2,0,[]⟩:=⟨BD,by simp⟩
theorem OkR.tick{r:RecD}{k:Nat}(h:OkR r k):OkR (BM r) (k+1)/\(BM r).clock=r.clock/\(BM r).queue=r.queue/\(BM r).m.count=r.m.count:=by
 unfold BM;split
 ·exact h.offer timV
 exact⟨h.up (by omega),rfl,rfl,rfl⟩
theorem OkR.clk{r:RecD}{k:Nat}(h:OkR r k):OkR (I6 r) (k+1)/\(I6 r).clock=r.clock/\(I6 r).queue=r.queue/\(I6 r).m=r.m:=by
 unfold I6;split
 ·exact⟨⟨h.m,h.c,by simp;exact h.l,h.q,h.v,Sj h.t ⟨Cj h.m,h.c⟩⟩,rfl,rfl,rfl⟩
 exact⟨h.up (by omega),rfl,rfl,rfl⟩
theorem OkR.go{r:RecD}{k:Nat}(h:OkR r k):OkR (goR r).1 (k+1):=by
 obtain⟨a,-,-,-⟩:=h.clk;exact⟨Uv h.m h.c,E8 _,a.l,a.q,a.v,a.t⟩
theorem OkR.run:∀(n:Nat){r:RecD}{k:Nat}(o:List OutD),OkR r k->OkR (Dz n r o).1 (k+2*n)
 | 0,r,k,o,h=>h
 | n+1,r,k,o,h=>by
  obtain⟨h1,-⟩:=h.tick;unfold Dz;split
  ·exact h1.up (by omega)
  exact(OkR.run n _ h1.go).up (by omega)
theorem OkR.offers:∀(l:List EvD){r:RecD}{k:Nat},OkR r k->(∀e∈l,OkV e)->OkR (l.foldl AZ r) (k+l.length)/\(l.foldl AZ r).clock=r.clock
 | [],r,k,h,_=>⟨h,rfl⟩
 | e::l,r,k,h,hl=>by
  obtain⟨h1,h2,-,-⟩:=h.offer (hl e (fB ..));obtain⟨h3,h4⟩:=OkR.offers l h1 (fun x hx=>hl x (eW _ hx));exact⟨h3.up (by simp;omega),h4.trans h2⟩
theorem Qx{a b:Int}(ha:W32 a)(hb:W32 b):W32 (max a b):=⟨by have:=ha.1;omega,by have:=ha.2;have:=hb.2;omega⟩
theorem OkR.queue{r:RecD}{k:Nat}(h:OkR r k){clock:Int}(hc:W32 clock):OkR (Cb r clock) (k+r.queue.length):=by
 have h0:OkR {r with clock:=max r.clock clock} k:=⟨h.m,Qx h.c hc,h.l,h.q,h.v,h.t⟩;obtain⟨a,-⟩:=OkR.offers r.queue h0 h.v;exact⟨a.m,a.c,a.l,by simp[Cb],by simp[Cb],a.t⟩
theorem OA(n:Int):DY n<=4000:=by unfold DY;omega
theorem OkR.adv{r:RecD}{k:Nat}(h:OkR r k)(steps:Int){clock:Int}(hc:W32 clock):OkR (Dl r steps clock).1 (k+r.queue.length+2*DY steps):=by
 unfold Dl;split
 ·exact OkR.run _ _ (h.queue hc)
 exact h.up (by omega)
theorem DR(m:MchD)(k:Int):(stepD m k).2.length<=1:=by
 have hi:∀(d:DskD)(l:List Int)(c t:Int),(Ap d l c t).2.length<=1:=fun d l c t=>by unfold Ap;(repeat' split)<;>simp
 have hd:∀(d:DskD)(l:List Int)(p v t:Int),(Am d l p v t).2.length<=1:=fun d l p v t=>by
  unfold Am
  (repeat' split)<;>first|exact hi _ _ _ _|simp
 have hn:∀(n:NicD)(l:List Int)(p v t:Int),(Ag n l p v t).2.length<=1:=fun n l p v t=>by
  unfold Ag
  (repeat' split)<;>first|simp|(simp only[];split<;>simp)
 have hw:∀(m:MchD)(p v t:Int),(AH m p v t).2.length<=1:=fun m p v t=>by
  unfold AH
  (repeat' split)<;>first|exact hd _ _ _ _ _|exact hn _ _ _ _ _|simp
 unfold stepD;split
 ·show(Bl _ _ _ _).2.length<=1;unfold Bl
  (repeat' split)<;>first|exact hw _ _ _ _|simp
 simp
theorem QG:∀(n:Nat)(r:RecD)(o:List OutD),(Dz n r o).2.length<=o.length+n
 | 0,r,o=>by simp[Dz]
 | n+1,r,o=>by
  unfold Dz;split
  ·show o.length<=_;omega
  refine f8 (QG n _ _) ?_;have:=DR (BM r).m (BM r).clock;simp[goR];omega
theorem FZ(r:RecD)(steps clock:Int):(Dl r steps clock).2.length<=DY steps:=by
 unfold Dl;split
 ·exact f8 (QG _ _ _) (by simp)
 simp
theorem due_ok(t:TimD)(k:Int):AC prog 117 [.st t.row,uv k] (.bool (dueD t k)):=by
 refine sZ func117 ntmps117 ?_;exact wx1 trivial trivial @dueD.eq_1
abbrev recC(m:MchD)(c:Int)(lg q:V):List V:=m.row++[uv c,lg,q]
abbrev recO(m:MchD)(c:Int)(lg q:V):Ob:=⟨46,52,true,false,[recC m c lg q]⟩
abbrev Wg(l:List EntD):Ob:=⟨108,4,false,false,ents l⟩
theorem RQ(r:RecD)(h1:r.m.mem.length<=100000)(h2:r.log.length<=100000)(h3:r.queue.length<=100000):AC prog 108 [.st r.row] (.st (recC r.m r.clock (.new 108 4 (ents r.log)) (.sl 3 false (evs r.queue)))):=by
 refine sX func108 ntmps108 ?_;intros;apply wr
 (refine au ?_;intros;apply wr)
 repeat' ((first|(refine AB rfl (fun h=>?_) (fun h=>?_)<;>(first|(simp at h;done)|(simp at h)|skip)<;>(first|(exfalso;omega)|skip))|refine cc (D2 (ints .u32 r.m.mem) false 1 (.inl rfl) (by rw[AM];exact h1)) ?_|refine cc (H7 (ents r.log) false 4 (.inl rfl) (by rw[BA];exact h2)) ?_|refine cc (S3 (evs r.queue) false 3 (.inl rfl) (by rw[Ko];exact h3)) ?_|exact rt|fail)<;>(refine au ?_;intros;apply wr))
 refine awp_fz [2,4] ?_;simp;refine ar ?_;simp
def LPost(nx:Nat)(ob:List (Nat×Option Ob))(id j:Nat)(m:MchD)(c:Int)(l:List EntD)(q:V)(nx':Nat)(ob':List (Nat×Option Ob)):Prop :=
 ∃k,(k=j\/nx<=k)/\k<nx'/\nx<=nx'/\lookO ob' k=some (Wg l)/\lookO ob' id=some (recO m c (.own k) q)/\∀i,i<nx->i≠id->i≠j->lookO ob' i=lookO ob i
theorem SC{nx:Nat}{ob:List (Nat×Option Ob)}(id j:Nat)(m:MchD)(c:Int)(l:List EntD)(q:V)(e:EvD)(hob:lookO ob id=some (recO m c (.own j) q))(hj:lookO ob j=some (Wg l))(hi:id<nx)(hjn:j<nx)(hne:id≠j)(hl:l.length<=90000):
  Bt prog 114 [.st e.row,.ptr id 52 0 0] nx ob fun r nx' ob'=>r=.tup []/\LPost nx ob id j m c (l++[⟨m.count,e⟩]) q nx' ob':=by
 have hll:=BA l;have n1:¬j=id:=fun e=>hne e.symm;have n2:¬id=nx:=by omega
 have n3:¬j=nx:=by omega
 have n4:¬nx=id:=by omega
 have n5:¬nx=j:=by omega
 have p1:¬id=nx+1:=by omega
 have p2:¬nx+1=id:=by omega
 have p3:¬j=nx+1:=by omega
 have p4:¬nx+1=j:=by omega
 have q1:¬id=nx+1+1:=by omega
 have q2:¬nx+1+1=id:=by omega
 have q3:¬j=nx+1+1:=by omega
 refine sIY func114 ntmps114 (kX15 @hob @hj @hne @n1 @n2 @n3 @p1 @p2 @p3 @p4 @q1 @q2 @q3 @hll @maxLen.eq_1) ?_;intros;apply wr;exact⟨nx+1+1,.inr (by omega),by omega,by omega,by simp[lookO,q2,Wg,Kj,PK],by simp[lookO],fun i h1 h2 h3=>by
  have r1:¬i=nx:=by omega
  have r2:¬i=nx+1:=by omega
  have r3:¬i=nx+1+1:=by omega
  simp[lookO,h2,h3,r1,r2,r3]⟩
theorem Rx{nx:Nat}{ob:List (Nat×Option Ob)}(id j b:Nat)(m:MchD)(c:Int)(l:List EntD)(q:V)(e:EvD)(hM:OkM m)(he:OkV e)(hob:lookO ob id=some (recO m c (.own j) q))(hj:lookO ob j=some (Wg l))
  (hb:lookO ob b=some ⟨214,1,true,false,[[.cap 114 [] [some (id,52)]]]⟩) (hi:id<nx) (hjn:j<nx) (hbn:b<nx) (hne:id≠j) (hnb:id≠b) (hjb:j≠b) (hl:l.length<=90000) :
  Bt prog 115 [.st e.row,.ptr id 52 0 0,.ptr b 1 0 0] nx ob fun r nx' ob'=>r=.tup []/\LPost nx ob id j (AZ ⟨m,c,l,[]⟩ e).m c (AZ ⟨m,c,l,[]⟩ e).log q nx' ob':=by
 have hA:=K9 m e hM he.n he.d;have n1:¬j=id:=fun e=>hne e.symm;have n2:¬id=nx:=by omega
 have n3:¬j=nx:=by omega
 have n4:¬b=nx:=by omega
 have n5:¬b=id:=fun e=>hnb e.symm;have n6:¬nx=id:=by omega
 have hct:=(DU hM he.n).2;have n7:¬id=nx+1+50:=by omega
 have n8:¬b=nx+1+50:=by omega
 have n9:¬j=nx+1+50:=by omega
 have na:¬nx=nx+1+50:=by omega
 unfold AZ;simp only;generalize applyD m e=R at *;obtain⟨m',ok⟩:=R;simp only at *;cases ok with
 | false =>
  simp only[fU,if_false];refine sIY func115 ntmps115 (kX4 @hob @hb @n2 @n4) ?_;refine cZ (hA) (kX4 @hob @hb @n2 @n4) (kX4 @hob @hb @n2 @n4) ?_;refine CX ?_;intros;apply wr;exact⟨j,.inl rfl,by omega,by omega,by simp[lookO,n3,n9,hj],by simp[lookO,n2,n7,hob],fun i h1 h2 h3=>by
   have r1:¬i=nx:=by omega
   have r2:¬i=nx+1+50:=by omega
   simp[lookO,r1,r2]⟩
 | true =>
  simp only[if_true];refine sIY func115 ntmps115 (kX4 @hob @hb @n2 @n4) ?_;refine cZ (hA) (kX4 @hob @hb @n2 @n4) (kX4 @hob @hb @n2 @n4) ?_;refine II (kX9 @hob @hb @n2 @n4 @n5 @n7 @n8 @na @n6) ?_;intros;apply wr;refine((SC id j m' c l q e (by simp[lookO]) (by simp[lookO,n1,n3,n9,hj]) (by omega) (by omega) hne hl).mono fun r nx' ob' hp=>?_).2;simp only[BS];obtain⟨rfl,k,g0,g1,g2,g3,g4,g5⟩:=hp;simp;rw[hct]at g3;refine⟨k,by omega,g1,by omega,g3,g4,fun i h1 h2 h3=>?_⟩;have r1:¬i=nx:=by omega
  have r2:¬i=nx+1+50:=by omega
  rw[g5 i (by omega) h2 h3];simp[lookO,h2,r1,r2]
abbrev zMR:List V:=[uv 0,uv 0,uv 0,uv 0,uv 0,uv 0,uv 0,uv 0,uv 0,uv 0,uv 0,uv 0,uv 0,uv 0,uv 0,uv 0,uv 0,uv 0,uv 0,uv 0,uv 0,uv 0,uv 0,uv 0,uv 0,.sl 0 true [],.str [],.bool false,uv 0,.bool false,uv 0,uv 0,uv 0,iv 0,iv 0,uv 0,uv 0,.str [],uv 0,uv 0,.bool false,uv 0,.bool false,uv 0,uv 0,uv 0,lv 0,.bool false,.bool false]
theorem OI(m:MchD)(c:Int)(l:List EntD)(q:List EvD)(e:EvD):AZ ⟨m,c,l,q⟩ e=⟨(AZ ⟨m,c,l,[]⟩ e).m,c,(AZ ⟨m,c,l,[]⟩ e).log,q⟩:=by
 unfold AZ;simp only;split<;>rfl
abbrev advB(m:MchD)(c:Int)(l:List EntD)(q:V):List (Nat×Option Ob):=[(0,some (recO m c (.own 52) q)),(55,some ⟨214,1,true,false,[[.cap 114 [] [some (0,52)]]]⟩),(52,some (Wg l)),(1,some ⟨46,52,true,false,[zMR++[uv 0,.sl 0 true [],.sl 0 true []]]⟩)]
theorem adv_ok(r:RecD)(steps clock:Int)(k:Nat)(hR:OkR r k)(hk:k<=1000)(hc:W32 clock):AC prog 66 [.st r.row,iv steps,uv clock] (.tup [.st (Dl r steps clock).1.row,.sl 4 false (outs (Dl r steps clock).2)]):=by
 have hmem:=hR.m.n;have hll:=hR.l;have hql:=hR.q;have hcop:=RQ r (by omega) (by omega) (by omega);have hmay:=It r.m hR.m.gv.1 (by have:=hR.m.gv.2;omega);cases hM:mayD r.m with
 | false =>
  have hE:Dl r steps clock=(r,[]):=by unfold Dl;rw[hM];rfl
  rw[hM]at hmay;rw[hE];refine sX func66 ntmps66 ?_;refine cX (hcop) ?_;refine cX (hmay) ?_;refine CU ?_;refine aw ?_;simp
 | true =>
  rw[hM]at hmay;refine sX func66 ntmps66 ?_;refine cX (hcop) ?_;refine cX (hmay) ?_;refine EE @Ko ?_;(repeat intro K hK);apply wr;obtain⟨C,hC⟩:∃C,C=max r.clock clock:=⟨_,rfl⟩;have hCi:(if r.clock<clock then clock else r.clock)=C:=by rw[hC];split<;>omega
  have hr0:OkR {r with clock:=C} k:=⟨hR.m,by rw[hC];exact Qx hR.c hc,hR.l,hR.q,hR.v,hR.t⟩;obtain⟨I,hI⟩:∃I:Nat->St->Prop,I=(fun kk ss=>∃(i:Nat)(m:MchD)(l:List EntD),i<=r.queue.length/\kk=r.queue.length-i/\((r.queue.take i).foldl AZ {r with clock:=C}=⟨m,C,l,r.queue⟩/\OkR ⟨m,C,l,r.queue⟩ (k+i))/\ss=⟨95,[(31,.int .i64 i),(30,.int .i64 r.queue.length),(29,.sl 3 false (evs r.queue)),(9,.cap 115 [] [some (0,52),some (55,1)]),(3,.ptr 0 52 0 0),(1,iv steps),(8,.ptr 55 1 0 0),(6,.ptr 1 52 0 0)],56,advB m C l (.sl 3 false (evs r.queue)),0⟩):=⟨_,rfl⟩;refine lX1 I (id) (by rw[hI];exact⟨0,r.m,r.log,by simp,rfl,⟨rfl,hr0⟩,rfl⟩) @hCi ?_;intro kk ss hIk _;rw[hI]at hIk;obtain⟨i,m,l,hi,rfl,hx,rfl⟩:=hIk;obtain⟨hx1,hx2⟩:=hx;refine au ?_;(repeat intro K hK);apply wr;refine AB rfl (fun hh=>?_) (fun hh=>?_)
  ·simp at hh;obtain⟨e,he,-,ht,hmem⟩:=get_at hh;have hget:=Zz he;have heV:=hR.v e hmem;have hll2:=hx2.l;simp only at hll2;refine au1 @hget ?_;(repeat intro K hK);apply wr;refine cO ?_;refine(Rx 0 52 55 m C l (.sl 3 false (evs r.queue)) e hx2.m heV (by simp[lookO]) (by simp[lookO]) (by simp[lookO]) (by decide) (by decide) (by decide) (by decide) (by decide) (by decide) (by omega)).mono fun r nx' ob' hp=>?_;simp only[BS];obtain⟨rfl,j,g0,g1,g2,g3,g4,g5⟩:=hp;have f55:=g5 55 (by decide) (by decide) (by decide);have f1:=g5 1 (by decide) (by decide) (by decide);simp[lookO]at f55 f1;obtain⟨h1,-,-,-⟩:=hx2.offer heV;rw[OI]at h1;have hst:(r.queue.take (i+1)).foldl AZ {r with clock:=C}=⟨(AZ ⟨m,C,l,[]⟩ e).m,C,(AZ ⟨m,C,l,[]⟩ e).log,r.queue⟩:=by rw[ht,List.foldl_append,hx1];exact OI _ _ _ _ _
   generalize (AZ ⟨m,C,l,[]⟩ e).m=m' at *;generalize (AZ ⟨m,C,l,[]⟩ e).log=l' at *;simp;refine au ?_;(repeat intro K hK);apply wr;exact aX (fun x=>if x=52 then j else x) (by rw[hI];exact⟨i+1,m',l',by omega,rfl,⟨hst,h1⟩,rfl⟩) (kX5 (AA (n:=(i:Int)+1) (by omega) (by omega)) @g3 @g4 @f55 @f1)
  simp at hh;rw[Gp hh]at hx1;have hQ:Cb r clock=⟨m,C,l,[]⟩:=by unfold Cb;rw[<- hC,hx1]
  have hQ2:OkR ⟨m,C,l,[]⟩ 2000:=⟨hx2.m,hx2.c,by have:=hx2.l;simp only at this ⊢;omega,by simp,by simp,hx2.t⟩;clear hx1 hx2 hr0;refine au ?_;(repeat intro K hK);apply wr;refine AU 12 124 4 (by decide) rfl ?_;have hlim:(if 4000<if steps<0 then 0 else steps then 4000 else if steps<0 then 0 else steps)=(DY steps:Int):=by unfold DY;(repeat' split)<;>omega
  have hl4:=OA steps;obtain⟨Iu,hIu⟩:∃I:Nat->St->Prop,I=(fun kk ss=>∃(u:Nat)(m':MchD)(c:Int)(l':List EntD)(o:List OutD),u<=DY steps/\kk=DY steps-u/\(Dz (DY steps) ⟨m,C,l,[]⟩ []=Dz (DY steps-u) ⟨m',c,l',[]⟩ o/\OkR ⟨m',c,l',[]⟩ (2000+2*u)/\o.length<=u)/\ss=⟨95,[(43,.int .i64 u),(42,.int .i64 (DY steps)),(12,.own 56),(9,.cap 115 [] [some (0,52),some (55,1)]),(3,.ptr 0 52 0 0),(8,.ptr 55 1 0 0),(6,.ptr 1 52 0 0)],57,(56,some ⟨124,4,false,false,outs o⟩)::advB m' c l' (.sl 0 true []),0⟩):=⟨_,rfl⟩;refine lX1 Iu (id) (by rw[hIu];exact⟨0,m,C,l,[],by simp,rfl,⟨rfl,hQ2,by simp⟩,rfl⟩) @hlim ?_;intro kk ss hIk _;rw[hIu]at hIk;obtain⟨u,m',c,l',o,hu,rfl,hxu,rfl⟩:=hIk;obtain⟨hx1,hx2,hx3⟩:=hxu;have hl2:=hx2.l;simp only at hl2;refine au ?_;(repeat intro K hK);apply wr;refine AB rfl (fun hh2=>?_) (fun hh2=>?_)
  ·simp at hh2;have hrun:Dz (DY steps-u) ⟨m',c,l',[]⟩ o=if Em (BM ⟨m',c,l',[]⟩).m=true then(BM ⟨m',c,l',[]⟩,o)else Dz (DY steps-(u+1)) (goR (BM ⟨m',c,l',[]⟩)).1 (o++(goR (BM ⟨m',c,l',[]⟩)).2):=by
    rw[show DY steps-u=(DY steps-(u+1))+1 by omega];rfl
   rw[hrun]at hx1;obtain⟨hT,-,-,-⟩:=hx2.tick;refine au ?_;refine cX (due_ok m'.tim c) ?_;(repeat intro K hK);apply wr;first|(clear hK;clear K;rename_i K hK)|skip
   refine CH (α:=MchD×List EntD) (fun⟨m2,l2⟩=>(⟨95,[(43,.int .i64 u),(42,.int .i64 (DY steps)),(12,.own 56),(9,.cap 115 [] [some (0,52),some (55,1)]),(3,.ptr 0 52 0 0),(8,.ptr 55 1 0 0),(6,.ptr 1 52 0 0)],57,(56,some ⟨124,4,false,false,outs o⟩)::advB m2 c l2 (.sl 0 true []),0⟩:St)) (fun⟨m2,l2⟩=>BM ⟨m',c,l',[]⟩=⟨m2,c,l2,[]⟩) hK (fun⟨m2,l2⟩ hxhJ=>?_) (fun hJ=>?_);all_goals clear hK
   ·rw[hxhJ]at hx1 hT;have hT2:=hT.m;simp only at hT2 hx1;have hl3:=hT.l;simp only at hl3;refine au ?_;refine cX (Nt m2 hT2) ?_;(repeat intro K hK);apply wr;refine AB rfl (fun hs=>?_) (fun hs=>?_)
    ·have hS:Em m2=true:=by unfold Em;simpa using hs
     rw[if_pos hS]at hx1;have hE:Dl r steps clock=(⟨m2,c,l2,[]⟩,o):=by unfold Dl;rw[if_pos hM,hQ];exact hx1
     refine au ?_;refine aw ?_;simp[hE]
    have hS:¬Em m2=true:=by unfold Em;simpa using hs
    rw[if_neg hS]at hx1;refine au ?_;refine cX (Pr m2 hT2) ?_;(repeat intro K hK);apply wr;first|(clear hK;clear K;rename_i K hK)|skip
    refine CH (α:=List EntD) (fun l3=>(⟨95,[(43,.int .i64 u),(42,.int .i64 (DY steps)),(12,.own 56),(9,.cap 115 [] [some (0,52),some (55,1)]),(3,.ptr 0 52 0 0),(8,.ptr 55 1 0 0),(6,.ptr 1 52 0 0)],57,(56,some ⟨124,4,false,false,outs o⟩)::advB m2 c l3 (.sl 0 true []),0⟩:St)) (fun l3=>I6 ⟨m2,c,l2,[]⟩=⟨m2,c,l3,[]⟩) hK (fun l3 hxhG=>?_) (fun hG=>?_);all_goals clear hK
    ·obtain⟨hK2,-,-,-⟩:=hT.clk;rw[hxhG]at hK2;have hgo:goR ⟨m2,c,l2,[]⟩=(⟨(stepD m2 c).1,uw (c+1),l3,[]⟩,(stepD m2 c).2):=by unfold goR;rw[hxhG]
     have hG2:=hT.go;rw[hgo]at hx1 hG2;have hso:=DR m2 c;have hlo:=BB o;refine au ?_;refine cc (step_ok m2 c hT2) ?_;(repeat intro K hK)
     generalize stepD m2 c=S at *;have hlS:=BB S.2;refine au1 (kX3 @hlo @hlS @maxLen.eq_1) ?_;(repeat intro K hK);apply wr;simp only at hx1;exact aX (fun x=>if x=56 then 107 else x) (by rw[hIu];exact⟨u+1,S.1,(uw (c+1)),l3,(o++S.2),by omega,rfl,⟨hx1,hG2.up (by omega),by rw[eX];omega⟩,rfl⟩) (kX2 (AA (n:=(u:Int)+1) (by omega) (by omega)) @B8)
    refine AB rfl (fun hr=>?_) (fun hr=>?_)
    ·have hcl:I6 ⟨m2,c,l2,[]⟩=⟨m2,c,l2++[⟨m2.count,⟨1,c,[]⟩⟩],[]⟩:=by unfold I6;rw[if_pos hr]
     refine au ?_;(repeat intro K hK);apply wr;refine cO ?_;refine(SC 0 52 m2 c l2 (.sl 0 true []) ⟨1,c,[]⟩ (by simp[lookO]) (by simp[lookO]) (by decide) (by decide) (by decide) (by omega)).mono fun r nx' ob' hp=>?_;simp only[BS];obtain⟨rfl,j,g0,g1,g2,g3,g4,g5⟩:=hp;have f55:=g5 55 (by decide) (by decide) (by decide);have f1:=g5 1 (by decide) (by decide) (by decide);have f56:=g5 56 (by decide) (by decide) (by decide);simp[lookO]at f55 f1 f56;generalize l2++[⟨m2.count,⟨1,c,[]⟩⟩]=l3 at *;simp;refine au ?_;(repeat intro K hK);apply wr;refine hG l3 _ (fun x=>if x=52 then j else x) (hcl) ⟨rfl,?_,?_,?_,by simp⟩
     ·simp[leT,ltV,lt1,ren,Ao,g3,g4,f55,f1,f56]
     ·simp[leO,lt1,Ao,g3,g4,f55,f1,f56]
     (simp;try omega)
    have hcl:I6 ⟨m2,c,l2,[]⟩=⟨m2,c,l2,[]⟩:=by unfold I6;rw[if_neg (by simp[hr])]
    refine au ?_;(repeat intro K hK);apply wr;refine hG l2 _ (id) (hcl) ⟨rfl,?_,?_,?_,by simp⟩
    ·simp[leT,ltV,lt1,ren,Ao]
    ·simp[leO,lt1,Ao]
    (simp;try omega)
   refine AB rfl (fun hd=>?_) (fun hd=>?_)
   ·have hTd:BM ⟨m',c,l',[]⟩=⟨(AZ ⟨m',c,l',[]⟩ ⟨2,0,[]⟩).m,c,(AZ ⟨m',c,l',[]⟩ ⟨2,0,[]⟩).log,[]⟩:=by unfold BM;rw[if_pos hd];exact OI _ _ _ _ _
    refine au ?_;(repeat intro K hK);apply wr;refine cO ?_;refine(Rx 0 52 55 m' c l' (.sl 0 true []) ⟨2,0,[]⟩ hx2.m timV (by simp[lookO]) (by simp[lookO]) (by simp[lookO]) (by decide) (by decide) (by decide) (by decide) (by decide) (by decide) (by omega)).mono fun r nx' ob' hp=>?_;simp only[BS];obtain⟨rfl,j,g0,g1,g2,g3,g4,g5⟩:=hp;have f55:=g5 55 (by decide) (by decide) (by decide);have f1:=g5 1 (by decide) (by decide) (by decide);have f56:=g5 56 (by decide) (by decide) (by decide);simp[lookO]at f55 f1 f56;simp;generalize (AZ ⟨m',c,l',[]⟩ ⟨2,0,[]⟩).m=m3 at *;generalize (AZ ⟨m',c,l',[]⟩ ⟨2,0,[]⟩).log=l3 at *;refine au ?_;(repeat intro K hK);apply wr;refine hJ ⟨m3,l3⟩ _ (fun x=>if x=52 then j else x) (hTd) ⟨rfl,?_,?_,?_,by simp⟩
    ·simp[leT,ltV,lt1,ren,Ao,g3,g4,f55,f1,f56]
    ·simp[leO,lt1,Ao,g3,g4,f55,f1,f56]
    (simp;try omega)
   have hTd:BM ⟨m',c,l',[]⟩=⟨m',c,l',[]⟩:=by unfold BM;rw[if_neg (by simp[hd])]
   refine au ?_;(repeat intro K hK);apply wr;refine hJ ⟨m',l'⟩ _ (id) (hTd) ⟨rfl,?_,?_,?_,by simp⟩
   ·simp[leT,ltV,lt1,ren,Ao]
   ·simp[leO,lt1,Ao]
   (simp;try omega)
  simp at hh2;have hE:Dl r steps clock=(⟨m',c,l',[]⟩,o):=by unfold Dl;rw[if_pos hM,hQ,hx1,show DY steps-u=0 by omega];rfl
  refine au ?_;refine aw ?_;simp[hE]
end Go.Proofs.YtjkmhmepljamoaaGreat
end
