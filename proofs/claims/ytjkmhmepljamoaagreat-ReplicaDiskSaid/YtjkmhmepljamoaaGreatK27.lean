/- A part of the proof of ReplicaDisk. -/
import Derived.Test.YtjkmhmepljamoaaGreatK14
import Derived.Test.YtjkmhmepljamoaaGreatK24
import Derived.Test.YtjkmhmepljamoaaGreatK25
import Derived.Test.YtjkmhmepljamoaaGreatK26
set_option linter.all false
set_option maxHeartbeats 16000000
set_option maxRecDepth 100000
section
namespace Go.Proofs.YtjkmhmepljamoaaGreat
open Go.Ab Go.RowKit Tryz
structure OkV(e:EvD):Prop where
 n:W32 e.n
 d:e.data.length<=100000
structure OkR(r:RecD)(k:Nat):Prop where
 m:OkM r.m
 c:W32 r.clock
 l:r.log.length<=k
 q:r.queue.length<=1000
 v:∀e∈r.queue,OkV e
 t:∀e∈r.log,OkT e
theorem OkR.up{r:RecD}{k k':Nat}(h:OkR r k)(hk:k<=k'):OkR r k':=⟨h.m,h.c,iY h.l hk,h.q,h.v,h.t⟩
theorem TG{l:List EntD}{e:EntD}(h:∀x∈l,OkT x)(he:OkT e):∀x∈l++[e],OkT x:=by
 intro x hx;rcases List.mem_append.1 hx with q|q
 ·exact h x q
 rw[List.mem_singleton.1 q];exact he
theorem DZ{m:MchD}(h:OkM m):L64 m.count:=⟨h.ct.1,by have:=h.ct.2;omega⟩
theorem OkR.offer{r:RecD}{k:Nat}(h:OkR r k){e:EvD}(he:OkV e):OkR (AW r e) (k+1)/\(AW r e).clock=r.clock/\(AW r e).queue=r.queue/\(AW r e).m.count=r.m.count:=by
 obtain⟨a1,a2⟩:=DX h.m he.n;unfold AW;split
 ·exact⟨⟨a1,h.c,by simp;exact h.l,h.q,h.v,TG h.t ⟨DZ h.m,he.n⟩⟩,rfl,rfl,a2⟩
 exact⟨h.up (by omega),rfl,rfl,rfl⟩
theorem timV:OkV ⟨2,0,[]⟩:=⟨Ax,by simp⟩
theorem OkR.tick{r:RecD}{k:Nat}(h:OkR r k):OkR (BF r) (k+1)/\(BF r).clock=r.clock/\(BF r).queue=r.queue/\(BF r).m.count=r.m.count:=by
 unfold BF;split
 ·exact h.offer timV
 exact⟨h.up (by omega),rfl,rfl,rfl⟩
theorem OkR.clk{r:RecD}{k:Nat}(h:OkR r k):OkR (Ir r) (k+1)/\(Ir r).clock=r.clock/\(Ir r).queue=r.queue/\(Ir r).m=r.m:=by
 unfold Ir;split
 ·exact⟨⟨h.m,h.c,by simp;exact h.l,h.q,h.v,TG h.t ⟨DZ h.m,h.c⟩⟩,rfl,rfl,rfl⟩
 exact⟨h.up (by omega),rfl,rfl,rfl⟩
theorem OkR.go{r:RecD}{k:Nat}(h:OkR r k):OkR (goR r).1 (k+1):=by
 obtain⟨a,-,-,-⟩:=h.clk;exact⟨VR h.m h.c,E6 _,a.l,a.q,a.v,a.t⟩
theorem OkR.run:∀(n:Nat){r:RecD}{k:Nat}(o:List OutD),OkR r k->OkR (DW n r o).1 (k+2*n)
 | 0,r,k,o,h=>h
 | n+1,r,k,o,h=>by
  obtain⟨h1,-⟩:=h.tick;unfold DW;split
  ·exact h1.up (by omega)
  exact(OkR.run n _ h1.go).up (by omega)
theorem OkR.offers:∀(l:List EvD){r:RecD}{k:Nat},OkR r k->(∀e∈l,OkV e)->OkR (l.foldl AW r) (k+l.length)/\(l.foldl AW r).clock=r.clock
 | [],r,k,h,_=>⟨h,rfl⟩
 | e::l,r,k,h,hl=>by
  obtain⟨h1,h2,-,-⟩:=h.offer (hl e (g7 ..));obtain⟨h3,h4⟩:=OkR.offers l h1 (fun x hx=>hl x (gW _ hx));exact⟨h3.up (by simp;omega),h4.trans h2⟩
theorem RZ{a b:Int}(ha:W32 a)(hb:W32 b):W32 (max a b):=⟨by have:=ha.1;omega,by have:=ha.2;have:=hb.2;omega⟩
theorem OkR.queue{r:RecD}{k:Nat}(h:OkR r k){clock:Int}(hc:W32 clock):OkR (CX r clock) (k+r.queue.length):=by
 have h0:OkR {r with clock:=max r.clock clock} k:=⟨h.m,RZ h.c hc,h.l,h.q,h.v,h.t⟩;obtain⟨a,-⟩:=OkR.offers r.queue h0 h.v;exact⟨a.m,a.c,a.l,by simp[CX],by simp[CX],a.t⟩
theorem OR(n:Int):DC n<=4000:=by unfold DC;omega
theorem OkR.adv{r:RecD}{k:Nat}(h:OkR r k)(steps:Int){clock:Int}(hc:W32 clock):OkR (Cv r steps clock).1 (k+r.queue.length+2*DC steps):=by
 unfold Cv;split
 ·exact OkR.run _ _ (h.queue hc)
 exact h.up (by omega)
theorem DV(m:MchD)(k:Int):(stepD m k).2.length<=1:=by
 have hi:∀(d:DskD)(l:List Int)(c t:Int),(Am d l c t).2.length<=1:=fun d l c t=>by unfold Am;(repeat' split)<;>simp
 have hd:∀(d:DskD)(l:List Int)(p v t:Int),(Ak d l p v t).2.length<=1:=fun d l p v t=>by
  unfold Ak
  (repeat' split)<;>first|exact hi _ _ _ _|simp
 have hn:∀(n:NicD)(l:List Int)(p v t:Int),(AZ n l p v t).2.length<=1:=fun n l p v t=>by
  unfold AZ
  (repeat' split)<;>first|simp|(simp only[];split<;>simp)
 have hw:∀(m:MchD)(p v t:Int),(AH m p v t).2.length<=1:=fun m p v t=>by
  unfold AH
  (repeat' split)<;>first|exact hd _ _ _ _ _|exact hn _ _ _ _ _|simp
 unfold stepD;split
 ·show(BZ _ _ _ _).2.length<=1;unfold BZ
  (repeat' split)<;>first|exact hw _ _ _ _|simp
 simp
theorem QX:∀(n:Nat)(r:RecD)(o:List OutD),(DW n r o).2.length<=o.length+n
 | 0,r,o=>by simp[DW]
 | n+1,r,o=>by
  unfold DW;split
  ·show o.length<=_;omega
  refine iY (QX n _ _) ?_;have:=DV (BF r).m (BF r).clock;simp[goR];omega
theorem F8(r:RecD)(steps clock:Int):(Cv r steps clock).2.length<=DC steps:=by
 unfold Cv;split
 ·exact iY (QX _ _ _) (by simp)
 simp
theorem due_ok(t:TimD)(k:Int):AC prog 117 [.st t.row,uv k] (.bool (dueD t k)):=by
 refine sZ func117 ntmps117 ?_;exact wx1 trivial trivial @dueD.eq_1
abbrev recC(m:MchD)(c:Int)(lg q:V):List V:=m.row++[uv c,lg,q]
abbrev recO(m:MchD)(c:Int)(lg q:V):Ob:=⟨46,52,true,false,[recC m c lg q]⟩
abbrev XF(l:List EntD):Ob:=⟨108,4,false,false,ents l⟩
theorem Ro(r:RecD)(h1:r.m.mem.length<=100000)(h2:r.log.length<=100000)(h3:r.queue.length<=100000):AC prog 108 [.st r.row] (.st (recC r.m r.clock (.new 108 4 (ents r.log)) (.sl 3 false (evs r.queue)))):=by
 refine sX func108 ntmps108 ?_;intros;apply wr
 (refine au ?_;intros;apply wr)
 repeat' ((first|(refine AB rfl (fun h=>?_) (fun h=>?_)<;>(first|(simp at h;done)|(simp at h)|skip)<;>(first|(exfalso;omega)|skip))|refine cc (DL (ints .u32 r.m.mem) false 1 (.inl rfl) (by rw[AN];exact h1)) ?_|refine cc (G6 (ents r.log) false 4 (.inl rfl) (by rw[Ay];exact h2)) ?_|refine cc (PV (evs r.queue) false 3 (.inl rfl) (by rw[HV];exact h3)) ?_|exact rt|fail)<;>(refine au ?_;intros;apply wr))
 refine Yk [2,4] ?_;simp;refine ar ?_;simp
def LPost(nx:Nat)(ob:List (Nat×Option Ob))(id j:Nat)(m:MchD)(c:Int)(l:List EntD)(q:V)(nx':Nat)(ob':List (Nat×Option Ob)):Prop :=
 ∃k,(k=j\/nx<=k)/\k<nx'/\nx<=nx'/\lookO ob' k=some (XF l)/\lookO ob' id=some (recO m c (.own k) q)/\∀i,i<nx->i≠id->i≠j->lookO ob' i=lookO ob i
theorem S3{nx:Nat}{ob:List (Nat×Option Ob)}(id j:Nat)(m:MchD)(c:Int)(l:List EntD)(q:V)(e:EvD)(hob:lookO ob id=some (recO m c (.own j) q))(hj:lookO ob j=some (XF l))(hi:id<nx)(hjn:j<nx)(hne:id≠j)(hl:l.length<=90000):
  Bt prog 114 [.st e.row,.ptr id 52 0 0] nx ob fun r nx' ob'=>r=.tup []/\LPost nx ob id j m c (l++[⟨m.count,e⟩]) q nx' ob':=by
 have hll:=Ay l;have n1:¬j=id:=fun e=>hne e.symm;have n2:¬id=nx:=by omega
 have n3:¬j=nx:=by omega
 have n4:¬nx=id:=by omega
 have n5:¬nx=j:=by omega
 have p1:¬id=nx+1:=by omega
 have p2:¬nx+1=id:=by omega
 have p3:¬j=nx+1:=by omega
 have p4:¬nx+1=j:=by omega
 have q1:¬id=nx+1+1:=by omega
 have q2:¬nx+1+1=id:=by omega
 have q3:¬j=nx+1+1:=by omega
 refine sIY func114 ntmps114 (kX15 @hob @hj @hne @n1 @n2 @n3 @p1 @p2 @p3 @p4 @q1 @q2 @q3 @hll @maxLen.eq_1) ?_;intros;apply wr;exact⟨nx+1+1,.inr (by omega),by omega,by omega,by simp[lookO,q2,XF,LF,P1],by simp[lookO],fun i h1 h2 h3=>by
  have r1:¬i=nx:=by omega
  have r2:¬i=nx+1:=by omega
  have r3:¬i=nx+1+1:=by omega
  simp[lookO,h2,h3,r1,r2,r3]⟩
theorem SX{nx:Nat}{ob:List (Nat×Option Ob)}(id j b:Nat)(m:MchD)(c:Int)(l:List EntD)(q:V)(e:EvD)(hM:OkM m)(he:OkV e)(hob:lookO ob id=some (recO m c (.own j) q))(hj:lookO ob j=some (XF l))
  (hb:lookO ob b=some ⟨214,1,true,false,[[.cap 114 [] [some (id,52)]]]⟩) (hi:id<nx) (hjn:j<nx) (hbn:b<nx) (hne:id≠j) (hnb:id≠b) (hjb:j≠b) (hl:l.length<=90000) :
  Bt prog 115 [.st e.row,.ptr id 52 0 0,.ptr b 1 0 0] nx ob fun r nx' ob'=>r=.tup []/\LPost nx ob id j (AW ⟨m,c,l,[]⟩ e).m c (AW ⟨m,c,l,[]⟩ e).log q nx' ob':=by
 have hA:=Ks m e hM he.n he.d;have n1:¬j=id:=fun e=>hne e.symm;have n2:¬id=nx:=by omega
 have n3:¬j=nx:=by omega
 have n4:¬b=nx:=by omega
 have n5:¬b=id:=fun e=>hnb e.symm;have n6:¬nx=id:=by omega
 have hct:=(DX hM he.n).2;have n7:¬id=nx+1+50:=by omega
 have n8:¬b=nx+1+50:=by omega
 have n9:¬j=nx+1+50:=by omega
 have na:¬nx=nx+1+50:=by omega
 unfold AW;simp only;generalize applyD m e=R at *;obtain⟨m',ok⟩:=R;simp only at *;cases ok with
 | false =>
  simp only[iR,if_false];refine sIY func115 ntmps115 (kX4 @hob @hb @n2 @n4) ?_;refine cZ (hA) (kX4 @hob @hb @n2 @n4) (kX4 @hob @hb @n2 @n4) ?_;refine C3 ?_;intros;apply wr;exact⟨j,.inl rfl,by omega,by omega,by simp[lookO,n3,n9,hj],by simp[lookO,n2,n7,hob],fun i h1 h2 h3=>by
   have r1:¬i=nx:=by omega
   have r2:¬i=nx+1+50:=by omega
   simp[lookO,r1,r2]⟩
 | true =>
  simp only[if_true];refine sIY func115 ntmps115 (kX4 @hob @hb @n2 @n4) ?_;refine cZ (hA) (kX4 @hob @hb @n2 @n4) (kX4 @hob @hb @n2 @n4) ?_;refine IZ (kX9 @hob @hb @n2 @n4 @n5 @n7 @n8 @na @n6) ?_;intros;apply wr;refine((S3 id j m' c l q e (by simp[lookO]) (by simp[lookO,n1,n3,n9,hj]) (by omega) (by omega) hne hl).mono fun r nx' ob' hp=>?_).2;simp only[BX];obtain⟨rfl,k,g0,g1,g2,g3,g4,g5⟩:=hp;simp;rw[hct]at g3;refine⟨k,by omega,g1,by omega,g3,g4,fun i h1 h2 h3=>?_⟩;have r1:¬i=nx:=by omega
  have r2:¬i=nx+1+50:=by omega
  rw[g5 i (by omega) h2 h3];simp[lookO,h2,r1,r2]
abbrev zMR:List V:=[uv 0,uv 0,uv 0,uv 0,uv 0,uv 0,uv 0,uv 0,uv 0,uv 0,uv 0,uv 0,uv 0,uv 0,uv 0,uv 0,uv 0,uv 0,uv 0,uv 0,uv 0,uv 0,uv 0,uv 0,uv 0,.sl 0 true [],.str [],.bool false,uv 0,.bool false,uv 0,uv 0,uv 0,iv 0,iv 0,uv 0,uv 0,.str [],uv 0,uv 0,.bool false,uv 0,.bool false,uv 0,uv 0,uv 0,lv 0,.bool false,.bool false]
theorem OY(m:MchD)(c:Int)(l:List EntD)(q:List EvD)(e:EvD):AW ⟨m,c,l,q⟩ e=⟨(AW ⟨m,c,l,[]⟩ e).m,c,(AW ⟨m,c,l,[]⟩ e).log,q⟩:=by
 unfold AW;simp only;split<;>rfl
abbrev advB(m:MchD)(c:Int)(l:List EntD)(q:V):List (Nat×Option Ob):=[(0,some (recO m c (.own 52) q)),(55,some ⟨214,1,true,false,[[.cap 114 [] [some (0,52)]]]⟩),(52,some (XF l)),(1,some ⟨46,52,true,false,[zMR++[uv 0,.sl 0 true [],.sl 0 true []]]⟩)]
theorem adv_ok(r:RecD)(steps clock:Int)(k:Nat)(hR:OkR r k)(hk:k<=1000)(hc:W32 clock):AC prog 66 [.st r.row,iv steps,uv clock] (.tup [.st (Cv r steps clock).1.row,.sl 4 false (outs (Cv r steps clock).2)]):=by
 have hmem:=hR.m.n;have hll:=hR.l;have hql:=hR.q;have hcop:=Ro r (by omega) (by omega) (by omega);have hmay:=JQ r.m hR.m.gv.1 (by have:=hR.m.gv.2;omega);cases hM:mayD r.m with
 | false =>
  have hE:Cv r steps clock=(r,[]):=by unfold Cv;rw[hM];rfl
  rw[hM]at hmay;rw[hE];refine sX func66 ntmps66 ?_;refine cX (hcop) ?_;refine cX (hmay) ?_;refine CV ?_;refine aw ?_;simp
 | true =>
  rw[hM]at hmay;refine sX func66 ntmps66 ?_;refine cX (hcop) ?_;refine cX (hmay) ?_;refine EG @HV ?_;(repeat intro K hK);apply wr;obtain⟨C,hC⟩:∃C,C=max r.clock clock:=⟨_,rfl⟩;have hCi:(if r.clock<clock then clock else r.clock)=C:=by rw[hC];split<;>omega
  have hr0:OkR {r with clock:=C} k:=⟨hR.m,by rw[hC];exact RZ hR.c hc,hR.l,hR.q,hR.v,hR.t⟩;obtain⟨I,hI⟩:∃I:Nat->St->Prop,I=(fun kk ss=>∃(i:Nat)(m:MchD)(l:List EntD),i<=r.queue.length/\kk=r.queue.length-i/\((r.queue.take i).foldl AW {r with clock:=C}=⟨m,C,l,r.queue⟩/\OkR ⟨m,C,l,r.queue⟩ (k+i))/\ss=⟨95,[(31,.int .i64 i),(30,.int .i64 r.queue.length),(29,.sl 3 false (evs r.queue)),(9,.cap 115 [] [some (0,52),some (55,1)]),(3,.ptr 0 52 0 0),(1,iv steps),(8,.ptr 55 1 0 0),(6,.ptr 1 52 0 0)],56,advB m C l (.sl 3 false (evs r.queue)),0⟩):=⟨_,rfl⟩;refine lX1 I (id) (by rw[hI];exact⟨0,r.m,r.log,by simp,rfl,⟨rfl,hr0⟩,rfl⟩) @hCi ?_;intro kk ss hIk _;rw[hI]at hIk;obtain⟨i,m,l,hi,rfl,hx,rfl⟩:=hIk;obtain⟨hx1,hx2⟩:=hx;refine au ?_;(repeat intro K hK);apply wr;refine AB rfl (fun hh=>?_) (fun hh=>?_)
  ·simp at hh;obtain⟨e,he,-,ht,hmem⟩:=get_at hh;have hget:=bC he;have heV:=hR.v e hmem;have hll2:=hx2.l;simp only at hll2;refine au1 @hget ?_;(repeat intro K hK);apply wr;refine cO ?_;refine(SX 0 52 55 m C l (.sl 3 false (evs r.queue)) e hx2.m heV (by simp[lookO]) (by simp[lookO]) (by simp[lookO]) (by decide) (by decide) (by decide) (by decide) (by decide) (by decide) (by omega)).mono fun r nx' ob' hp=>?_;simp only[BX];obtain⟨rfl,j,g0,g1,g2,g3,g4,g5⟩:=hp;have f55:=g5 55 (by decide) (by decide) (by decide);have f1:=g5 1 (by decide) (by decide) (by decide);simp[lookO]at f55 f1;obtain⟨h1,-,-,-⟩:=hx2.offer heV;rw[OY]at h1;have hst:(r.queue.take (i+1)).foldl AW {r with clock:=C}=⟨(AW ⟨m,C,l,[]⟩ e).m,C,(AW ⟨m,C,l,[]⟩ e).log,r.queue⟩:=by rw[ht,List.foldl_append,hx1];exact OY _ _ _ _ _
   generalize (AW ⟨m,C,l,[]⟩ e).m=m' at *;generalize (AW ⟨m,C,l,[]⟩ e).log=l' at *;simp;refine au ?_;(repeat intro K hK);apply wr;exact aX (fun x=>if x=52 then j else x) (by rw[hI];exact⟨i+1,m',l',by omega,rfl,⟨hst,h1⟩,rfl⟩) (kX5 (AA (n:=(i:Int)+1)) @g3 @g4 @f55 @f1)
  simp at hh;rw[HD hh]at hx1;have hQ:CX r clock=⟨m,C,l,[]⟩:=by unfold CX;rw[<- hC,hx1]
  have hQ2:OkR ⟨m,C,l,[]⟩ 2000:=⟨hx2.m,hx2.c,by have:=hx2.l;simp only at this ⊢;omega,by simp,by simp,hx2.t⟩;clear hx1 hx2 hr0;refine au ?_;(repeat intro K hK);apply wr;refine AT 12 124 4 (by decide) rfl ?_;have hlim:(if 4000<if steps<0 then 0 else steps then 4000 else if steps<0 then 0 else steps)=(DC steps:Int):=by unfold DC;(repeat' split)<;>omega
  have hl4:=OR steps;obtain⟨Iu,hIu⟩:∃I:Nat->St->Prop,I=(fun kk ss=>∃(u:Nat)(m':MchD)(c:Int)(l':List EntD)(o:List OutD),u<=DC steps/\kk=DC steps-u/\(DW (DC steps) ⟨m,C,l,[]⟩ []=DW (DC steps-u) ⟨m',c,l',[]⟩ o/\OkR ⟨m',c,l',[]⟩ (2000+2*u)/\o.length<=u)/\ss=⟨95,[(43,.int .i64 u),(42,.int .i64 (DC steps)),(12,.own 56),(9,.cap 115 [] [some (0,52),some (55,1)]),(3,.ptr 0 52 0 0),(8,.ptr 55 1 0 0),(6,.ptr 1 52 0 0)],57,(56,some ⟨124,4,false,false,outs o⟩)::advB m' c l' (.sl 0 true []),0⟩):=⟨_,rfl⟩;refine lX1 Iu (id) (by rw[hIu];exact⟨0,m,C,l,[],by simp,rfl,⟨rfl,hQ2,by simp⟩,rfl⟩) @hlim ?_;intro kk ss hIk _;rw[hIu]at hIk;obtain⟨u,m',c,l',o,hu,rfl,hxu,rfl⟩:=hIk;obtain⟨hx1,hx2,hx3⟩:=hxu;have hl2:=hx2.l;simp only at hl2;refine au ?_;(repeat intro K hK);apply wr;refine AB rfl (fun hh2=>?_) (fun hh2=>?_)
  ·simp at hh2;have hrun:DW (DC steps-u) ⟨m',c,l',[]⟩ o=if Ep (BF ⟨m',c,l',[]⟩).m=true then(BF ⟨m',c,l',[]⟩,o)else DW (DC steps-(u+1)) (goR (BF ⟨m',c,l',[]⟩)).1 (o++(goR (BF ⟨m',c,l',[]⟩)).2):=by
    rw[show DC steps-u=(DC steps-(u+1))+1 by omega];rfl
   rw[hrun]at hx1;obtain⟨hT,-,-,-⟩:=hx2.tick;refine au ?_;refine cX (due_ok m'.tim c) ?_;(repeat intro K hK);apply wr;first|(clear hK;clear K;rename_i K hK)|skip
   refine Cc (α:=MchD×List EntD) (fun⟨m2,l2⟩=>(⟨95,[(43,.int .i64 u),(42,.int .i64 (DC steps)),(12,.own 56),(9,.cap 115 [] [some (0,52),some (55,1)]),(3,.ptr 0 52 0 0),(8,.ptr 55 1 0 0),(6,.ptr 1 52 0 0)],57,(56,some ⟨124,4,false,false,outs o⟩)::advB m2 c l2 (.sl 0 true []),0⟩:St)) (fun⟨m2,l2⟩=>BF ⟨m',c,l',[]⟩=⟨m2,c,l2,[]⟩) hK (fun⟨m2,l2⟩ hxhJ=>?_) (fun hJ=>?_);all_goals clear hK
   ·rw[hxhJ]at hx1 hT;have hT2:=hT.m;simp only at hT2 hx1;have hl3:=hT.l;simp only at hl3;refine au ?_;refine cX (OL m2 hT2) ?_;(repeat intro K hK);apply wr;refine AB rfl (fun hs=>?_) (fun hs=>?_)
    ·have hS:Ep m2=true:=by unfold Ep;simpa using hs
     rw[if_pos hS]at hx1;have hE:Cv r steps clock=(⟨m2,c,l2,[]⟩,o):=by unfold Cv;rw[if_pos hM,hQ];exact hx1
     refine au ?_;refine aw ?_;simp[hE]
    have hS:¬Ep m2=true:=by unfold Ep;simpa using hs
    rw[if_neg hS]at hx1;refine au ?_;refine cX (QL m2 hT2) ?_;(repeat intro K hK);apply wr;first|(clear hK;clear K;rename_i K hK)|skip
    refine Cc (α:=List EntD) (fun l3=>(⟨95,[(43,.int .i64 u),(42,.int .i64 (DC steps)),(12,.own 56),(9,.cap 115 [] [some (0,52),some (55,1)]),(3,.ptr 0 52 0 0),(8,.ptr 55 1 0 0),(6,.ptr 1 52 0 0)],57,(56,some ⟨124,4,false,false,outs o⟩)::advB m2 c l3 (.sl 0 true []),0⟩:St)) (fun l3=>Ir ⟨m2,c,l2,[]⟩=⟨m2,c,l3,[]⟩) hK (fun l3 hxhG=>?_) (fun hG=>?_);all_goals clear hK
    ·obtain⟨hK2,-,-,-⟩:=hT.clk;rw[hxhG]at hK2;have hgo:goR ⟨m2,c,l2,[]⟩=(⟨(stepD m2 c).1,uw (c+1),l3,[]⟩,(stepD m2 c).2):=by unfold goR;rw[hxhG]
     have hG2:=hT.go;rw[hgo]at hx1 hG2;have hso:=DV m2 c;have hlo:=BA o;refine au ?_;refine cc (step_ok m2 c hT2) ?_;(repeat intro K hK)
     generalize stepD m2 c=S at *;have hlS:=BA S.2;refine au1 (kX3 @hlo @hlS @maxLen.eq_1) ?_;(repeat intro K hK);apply wr;simp only at hx1;exact aX (fun x=>if x=56 then 107 else x) (by rw[hIu];exact⟨u+1,S.1,(uw (c+1)),l3,(o++S.2),by omega,rfl,⟨hx1,hG2.up (by omega),by rw[gV];omega⟩,rfl⟩) (kX2 (AA (n:=(u:Int)+1)) @Bc)
    refine AB rfl (fun hr=>?_) (fun hr=>?_)
    ·have hcl:Ir ⟨m2,c,l2,[]⟩=⟨m2,c,l2++[⟨m2.count,⟨1,c,[]⟩⟩],[]⟩:=by unfold Ir;rw[if_pos hr]
     refine au ?_;(repeat intro K hK);apply wr;refine cO ?_;refine(S3 0 52 m2 c l2 (.sl 0 true []) ⟨1,c,[]⟩ (by simp[lookO]) (by simp[lookO]) (by decide) (by decide) (by decide) (by omega)).mono fun r nx' ob' hp=>?_;simp only[BX];obtain⟨rfl,j,g0,g1,g2,g3,g4,g5⟩:=hp;have f55:=g5 55 (by decide) (by decide) (by decide);have f1:=g5 1 (by decide) (by decide) (by decide);have f56:=g5 56 (by decide) (by decide) (by decide);simp[lookO]at f55 f1 f56;generalize l2++[⟨m2.count,⟨1,c,[]⟩⟩]=l3 at *;simp;refine au ?_;(repeat intro K hK);apply wr;refine hG l3 _ (fun x=>if x=52 then j else x) (hcl) ⟨rfl,?_,?_,?_,by simp⟩
     ·simp[leT,ltV,lt1,ren,BE,g3,g4,f55,f1,f56]
     ·simp[leO,lt1,BE,g3,g4,f55,f1,f56]
     (simp;try omega)
    have hcl:Ir ⟨m2,c,l2,[]⟩=⟨m2,c,l2,[]⟩:=by unfold Ir;rw[if_neg (by simp[hr])]
    refine au ?_;(repeat intro K hK);apply wr;refine hG l2 _ (id) (hcl) ⟨rfl,?_,?_,?_,by simp⟩
    ·simp[leT,ltV,lt1,ren,BE]
    ·simp[leO,lt1,BE]
    (simp;try omega)
   refine AB rfl (fun hd=>?_) (fun hd=>?_)
   ·have hTd:BF ⟨m',c,l',[]⟩=⟨(AW ⟨m',c,l',[]⟩ ⟨2,0,[]⟩).m,c,(AW ⟨m',c,l',[]⟩ ⟨2,0,[]⟩).log,[]⟩:=by unfold BF;rw[if_pos hd];exact OY _ _ _ _ _
    refine au ?_;(repeat intro K hK);apply wr;refine cO ?_;refine(SX 0 52 55 m' c l' (.sl 0 true []) ⟨2,0,[]⟩ hx2.m timV (by simp[lookO]) (by simp[lookO]) (by simp[lookO]) (by decide) (by decide) (by decide) (by decide) (by decide) (by decide) (by omega)).mono fun r nx' ob' hp=>?_;simp only[BX];obtain⟨rfl,j,g0,g1,g2,g3,g4,g5⟩:=hp;have f55:=g5 55 (by decide) (by decide) (by decide);have f1:=g5 1 (by decide) (by decide) (by decide);have f56:=g5 56 (by decide) (by decide) (by decide);simp[lookO]at f55 f1 f56;simp;generalize (AW ⟨m',c,l',[]⟩ ⟨2,0,[]⟩).m=m3 at *;generalize (AW ⟨m',c,l',[]⟩ ⟨2,0,[]⟩).log=l3 at *;refine au ?_;(repeat intro K hK);apply wr;refine hJ ⟨m3,l3⟩ _ (fun x=>if x=52 then j else x) (hTd) ⟨rfl,?_,?_,?_,by simp⟩
    ·simp[leT,ltV,lt1,ren,BE,g3,g4,f55,f1,f56]
    ·simp[leO,lt1,BE,g3,g4,f55,f1,f56]
    (simp;try omega)
   have hTd:BF ⟨m',c,l',[]⟩=⟨m',c,l',[]⟩:=by unfold BF;rw[if_neg (by simp[hd])]
   refine au ?_;(repeat intro K hK);apply wr;refine hJ ⟨m',l'⟩ _ (id) (hTd) ⟨rfl,?_,?_,?_,by simp⟩
   ·simp[leT,ltV,lt1,ren,BE]
   ·simp[leO,lt1,BE]
   (simp;try omega)
  simp at hh2;have hE:Cv r steps clock=(⟨m',c,l',[]⟩,o):=by unfold Cv;rw[if_pos hM,hQ,hx1,show DC steps-u=0 by omega];rfl
  refine au ?_;refine aw ?_;simp[hE]
end Go.Proofs.YtjkmhmepljamoaaGreat
end
