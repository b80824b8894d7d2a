/- A part of the proof of ReplicaTakes. -/
import Derived.Test.YtjkmhmepljamoaaGreatT40
import Derived.Test.YtjkmhmepljamoaaGreatT48
import Derived.Test.YtjkmhmepljamoaaGreatT51
set_option linter.all false
set_option maxHeartbeats 16000000
set_option maxRecDepth 100000
section
namespace Go.Proofs.YtjkmhmepljamoaaGreat
open Go.Ab Go.RowKit Tryz
theorem MP(l:List EntD)(n:Nat):(ents l).take n=ents (l.take n):=by simp[ents,List.map_take]
theorem MN(l:List EntD)(n:Nat):(ents l).drop n=ents (l.drop n):=by simp[ents,List.map_drop]
abbrev Spr(l:List EntD):Prop:=∀k a b,l[k]? =some a->l[k+400]? =some b->a.at_<b.at_
theorem Spr.drop{l:List EntD}(h:Spr l)(n:Nat):Spr (l.drop n):=by
 intro k a b ha hb;rw[fS]at ha hb;exact h (n+k) a b ha (by rwa[Nat.add_assoc])
abbrev barT(l:List EntD)(u:Int):List (Nat×V):=[(1,Br l),(2,lv u),(3,.ptr 0 49 0 0),(6,.ptr 1 49 0 0),(9,.own 2)]
abbrev barO(x:MchD)(acc:List OutD):List (Nat×Option Ob):=[(0,some ⟨42,49,true,false,[x.row]⟩),(1,some ⟨42,49,true,false,[zMR0]⟩),(2,some ⟨124,4,false,false,outs acc⟩)]
theorem XV(m m1:MchD)(H rest:List EntD)(O:List OutD)(u:Int)(hM:OkM m)(hmay:mayD m=true)(hT:Tr u m H O m1 rest)(hu:u<=1152921504606846976)(hO:O.length<=10000)(hH:H.length<=20000)(hord:ordD H=true)(hD:Spr H)
  (hE:∀e∈H,W32 e.ev.n/\e.ev.data.length<=100000) :
  AC prog 13 [.st m.row,Br H,lv u] (.tup [.st (rest.foldl (fun x e=>(applyD x e.ev).1) m1).row,.sl 4 false (outs O),.bool true]):=by
 have hc0:=Cj hM;have hle:=hT.le;refine sX func13 ntmps13 ?_;(repeat intro K hK);apply wr;refine AU 9 124 4 (by decide) rfl ?_;simp;obtain⟨I,hI⟩:∃I:Nat->St->Prop,I=(fun kk ss=>∃(i:Nat)(x:MchD)(L:List EntD)(acc:List OutD),i<=(u-m.count).toNat/\kk=(u-m.count).toNat-i/\((∃O',Tr u x L O' m1 rest/\acc++O'=O)/\m.count+i<=x.count/\OkM x/\mayD x=true/\ordD L=true/\Spr L/\(∀e∈L,W32 e.ev.n/\e.ev.data.length<=100000)/\L.length<=20000)/\ss=⟨113,barT L u,3,barO x acc,0⟩):=⟨_,rfl⟩;refine lX I (id) (by rw[hI];exact⟨0,m,H,[],by simp,rfl,⟨⟨O,hT,rfl⟩,by simp,hM,hmay,hord,hD,hE,hH⟩,rfl⟩) ?_;intro kk ss hIk _;rw[hI]at hIk;obtain⟨i,x,L,acc,hi,rfl,hx,rfl⟩:=hIk;obtain⟨⟨O',hx1,hx2⟩,hx3,hx4,hx5,hx6,hx7,hx8,hx9⟩:=hx;rename_i hnn;clear hnn;have hxle:=hx1.le;have hl:=BA L;refine au ?_;(repeat intro K hK);apply wr;by_cases hlt:x.count<u
 ·refine DT @hlt @hl ?_;(repeat intro K hK);apply wr;have hfi:=hx1.first;refine CH (α:=Nat) (fun n=>(⟨113,(10,.int .i64 n)::barT L u,3,barO x acc,0⟩:St)) (fun n=>n<=L.length/\n<=400/\(n<L.length->∃a b,0<n/\L[n-1]? =some a/\L[n]? =some b/\a.at_<b.at_)) hK (fun n hxhG=>?_) (fun hG=>?_);all_goals clear hK
  ·obtain⟨hn1,hn2,hn3⟩:=hxhG;have w1:IntKind.u64.wrap (x.count+4000)=x.count+4000:=u64_in (by omega) (by omega);refine au1 (kX2 @w1 @hl) ?_;(repeat intro K hK);apply wr;have hnl:(decide ((n:Int)<L.length))=decide (n<L.length):=by simp
   by_cases hn:n<L.length
   ·obtain⟨a,b,b0,ba,bb,bl⟩:=hn3 hn;have hgb:=B0 bb;have hn':(n:Int)<L.length:=by omega
    refine DT (kX2 @hn @hn') (kX5 @hl @hn @hn' @hgb (N3 hgb)) ?_;(repeat intro K hK);apply wr;obtain⟨t,hte⟩:∃t,t=(if b.at_<(if x.count+4000<u then x.count+4000 else u)then b.at_ else(if x.count+4000<u then x.count+4000 else u)):=⟨_,rfl⟩;have hca:x.count<=a.at_:=by
     cases hq:L with
     | nil=>rw[hq]at bb;simp at bb
     | cons e0 l0 =>
      rw[hq]at hfi;have h1:x.count<=e0.at_:=by simpa[firstOk]using hfi
      exact Int.le_trans h1 (Hh L 0 (n-1) e0 a hx6 (by rw[hq];rfl) ba (by omega))
    have htb:x.count<t/\t<=u/\t<=x.count+4000/\t<=b.at_:=by rw[hte];(repeat' split)<;>omega
    have hn4:∀k e,n<=k->L[k]? =some e->t<=e.at_:=fun k e hk he=>by have:=Hh L n k b e hx6 bb he hk;omega
    rw[<- hte];clear hte;clear hn3;have ht1:x.count<t:=by omega
    have ht2:t<=u:=by omega
    have ht3:t<=x.count+4000:=by omega
    obtain⟨y,L',O1,O2,hT1,hT2,hO12,hyc⟩:=hx1.split t (by omega) ht2;obtain⟨us,hL',hus,hus2,hT3⟩:=hT1.pre n hn4;have hyok:=hT1.ok (fun e he=>(hx8 e he).1) hx4 hx5;have hrun:=O4 x y (L.take n) ((L.take n).drop us) O1 t hx4 hx5 hT3 (by omega) (by omega) (by rw[fE];omega) (LO L n hx6) hT3.first (fun e he=>hx8 e (gA he));have hlen:(((L.take n).length:Int)-(((L.take n).drop us).length:Int))=us:=by rw[fF,fE];omega
    rw[hlen]at hrun;have htk:=MP L n;have hdr:=MN L us;rw[hL']at hT2;have htl:(ents L).take L.length=ents L:=by rw[<- hl];exact List.take_length
    have hla:=BB acc;have hlO:=BB O1;have hb1:acc.length+O1.length<=10000:=by
     have:=congrArg List.length hx2;rw[hO12]at this;simp only[eX]at this;omega
    have hne:¬y.count=x.count:=by omega
    have husi:((us:Int)).toNat=us:=by omega
    refine An (.node 5 11 (.leaf [0,1,2,3,4,5,6,7,8,9,10,11,12,13,14,15] (bN [0,0,0,6,0,31,63,127,127,127,127,63,2303,6655,15359,32767]) [(5,([[],[],[],[1,2],[]],[])),(1,([],[])),(9,([[],[0],[0],[0],[0],[],[0,1,5],[0,1,2,5,6],[0,1,2,3,5,6,7]],[])),(1,([],[]))]) (.leaf [0,1,2,3,4,11,5,6,7,8,9,10,12,13,14,15] (bN [0,0,0,6,0,0,63,127,255,255,255,255,511,5119,14335,32767]) [(6,([[],[],[],[1,2],[],[]],[(0,5),(3,5)])),(1,([],[])),(1,([],[])),(7,([[],[],[],[],[0],[0,1,4],[0,1,2,4,5]],[])),(1,([],[]))])) (by kernel_rfl) (by kernel_rfl) ?_;simp only[PT.run]
    repeat' (with_reducible apply And.intro)
    all_goals (simp only[Bo,fJ,gI,fC,fK];refine af1 (kX3 @hl @htk @hn1) ?_;(repeat intro K hK);apply wr)
    all_goals ((refine cc (hrun) ?_))
    all_goals ((refine af ?_);(repeat intro K hK);(apply wr))
    all_goals ((refine cF0 rfl ?_))
    all_goals ((refine af1 (kX3 @hla @hlO @maxLen.eq_1) ?_);(repeat intro K hK);(apply wr))
    all_goals ((refine cF1 @hne rfl ?_))
    all_goals ((refine af1 (kX3 @hl @hdr @hus2) ?_);(repeat intro K hK);(apply wr))
    all_goals
     exact aX (fun x=>if x=2 then 56 else x) (by rw[hI];exact⟨i+1,y,(L.drop us),(acc++O1),by omega,rfl,⟨⟨O2,hT2,by rw[fL,<- hO12];exact hx2⟩,by omega,hyok.1,hyok.2,LN L us hx6,hx7.drop us,fun e he=>hx8 e (List.mem_of_mem_drop he),by rw[fF];omega⟩,rfl⟩) (kX4 (AA (n:=(i:Int)+1) (by omega) (by omega)) @B8 @htl @hdr)
   have hn':¬(n:Int)<L.length:=by omega
   refine Ae (kX2 @hn @hn') ?_;(repeat intro K hK);apply wr;obtain⟨t,hte⟩:∃t,t=(if x.count+4000<u then x.count+4000 else u):=⟨_,rfl⟩;have htb:x.count<t/\t<=u/\t<=x.count+4000:=by rw[hte];split<;>omega
   have hn4:∀k e,n<=k->L[k]? =some e->t<=e.at_:=fun k e hk he=>by rw[fX (by omega)]at he;cases he
   rw[<- hte];clear hte;clear hn3;have ht1:x.count<t:=by omega
   have ht2:t<=u:=by omega
   have ht3:t<=x.count+4000:=by omega
   obtain⟨y,L',O1,O2,hT1,hT2,hO12,hyc⟩:=hx1.split t (by omega) ht2;obtain⟨us,hL',hus,hus2,hT3⟩:=hT1.pre n hn4;have hyok:=hT1.ok (fun e he=>(hx8 e he).1) hx4 hx5;have hrun:=O4 x y (L.take n) ((L.take n).drop us) O1 t hx4 hx5 hT3 (by omega) (by omega) (by rw[fE];omega) (LO L n hx6) hT3.first (fun e he=>hx8 e (gA he));have hlen:(((L.take n).length:Int)-(((L.take n).drop us).length:Int))=us:=by rw[fF,fE];omega
   rw[hlen]at hrun;have htk:=MP L n;have hdr:=MN L us;rw[hL']at hT2;have htl:(ents L).take L.length=ents L:=by rw[<- hl];exact List.take_length
   have hla:=BB acc;have hlO:=BB O1;have hb1:acc.length+O1.length<=10000:=by
    have:=congrArg List.length hx2;rw[hO12]at this;simp only[eX]at this;omega
   have hne:¬y.count=x.count:=by omega
   have husi:((us:Int)).toNat=us:=by omega
   refine An (.node 5 11 (.leaf [0,1,2,3,4,5,6,7,8,9,10,11,12,13,14,15] (bN [0,0,0,6,0,31,63,127,127,127,127,63,2303,6655,15359,32767]) [(5,([[],[],[],[1,2],[]],[])),(1,([],[])),(9,([[],[0],[0],[0],[0],[],[0,1,5],[0,1,2,5,6],[0,1,2,3,5,6,7]],[])),(1,([],[]))]) (.leaf [0,1,2,3,4,11,5,6,7,8,9,10,12,13,14,15] (bN [0,0,0,6,0,0,63,127,255,255,255,255,511,5119,14335,32767]) [(6,([[],[],[],[1,2],[],[]],[(0,5),(3,5)])),(1,([],[])),(1,([],[])),(7,([[],[],[],[],[0],[0,1,4],[0,1,2,4,5]],[])),(1,([],[]))])) (by kernel_rfl) (by kernel_rfl) ?_;simp only[PT.run]
   repeat' (with_reducible apply And.intro)
   all_goals (simp only[Bo,fJ,gI,fC,fK];refine af1 (kX3 @hl @htk @hn1) ?_;(repeat intro K hK);apply wr)
   all_goals ((refine cc (hrun) ?_))
   all_goals ((refine af ?_);(repeat intro K hK);(apply wr))
   all_goals ((refine cF0 rfl ?_))
   all_goals ((refine af1 (kX3 @hla @hlO @maxLen.eq_1) ?_);(repeat intro K hK);(apply wr))
   all_goals ((refine cF1 @hne rfl ?_))
   all_goals ((refine af1 (kX3 @hl @hdr @hus2) ?_);(repeat intro K hK);(apply wr))
   all_goals
    exact aX (fun x=>if x=2 then 56 else x) (by rw[hI];exact⟨i+1,y,(L.drop us),(acc++O1),by omega,rfl,⟨⟨O2,hT2,by rw[fL,<- hO12];exact hx2⟩,by omega,hyok.1,hyok.2,LN L us hx6,hx7.drop us,fun e he=>hx8 e (List.mem_of_mem_drop he),by rw[fF];omega⟩,rfl⟩) (kX4 (AA (n:=(i:Int)+1) (by omega) (by omega)) @B8 @htl @hdr)
  by_cases h4:400<L.length
  ·have h4':(400:Int)<L.length:=by omega
   refine Eh @h4' ?_;(repeat intro K hK);apply wr;obtain⟨Ij,hIj⟩:∃I:Nat->St->Prop,I=(fun kk ss=>∃(j:Nat)(z:Unit),j<=400/\kk=400-j/\(∀b,L[400]? =some b->∀a,L[400-j]? =some a->a.at_=b.at_)/\ss=⟨113,(10,.int .i64 ((400-j:Nat):Int))::barT L u,3,barO x acc,0⟩):=⟨_,rfl⟩;refine lX Ij (id) (by rw[hIj];exact⟨0,(),by simp,rfl,(fun b hb a ha=>by rw[hb]at ha;cases ha;rfl),rfl⟩) ?_;intro kk ss hIk _;rw[hIj]at hIk;obtain⟨j,z,hj,rfl,hxj,rfl⟩:=hIk;have hj4:j<400:=by
    rcases Nat.lt_or_ge j 400 with q|q
    ·exact q
    exfalso;obtain⟨b,hb,-,-,-⟩:=get_at h4;obtain⟨a,ha,-,-,-⟩:=get_at (show 0<L.length by omega);have h1:=hxj b hb a (by rw[show 400-j=0 by omega];exact ha);have h2:=hx7 0 a b ha hb;omega
   obtain⟨k,hk⟩:∃k,400-j=k+1:=⟨399-j,by omega⟩;rw[hk]at hxj ⊢;obtain⟨a,ha,-,-,-⟩:=get_at (show k<L.length by omega);obtain⟨b,hb,-,-,-⟩:=get_at (show k+1<L.length by omega);have hga:=B0 ha;have hgb:=B0 hb;have hwk:IntKind.i64.wrap (k:Int)=k:=AA (by omega) (by omega);have hk1:k<L.length:=by omega
   have hk2:k+1<L.length:=by omega
   have hk3:(k:Int)<L.length:=by omega
   have hk4:(k:Int)+1<L.length:=by omega
   have hab2:=Hh L k (k+1) a b hx6 ha hb (by omega);refine af1 @hl ?_;(repeat intro K hK);apply wr;refine AG 16 [0,1,3,7,7,31,63,127,7,7,519,1799,3847,7943,16383,32767] [(1,([],[])),(1,([],[])),(1,([],[])),(11,([[],[],[0,1],[0,1,2],[0,1,2,3],[],[],[6],[5,6,7],[5,6,7,8],[5,6,7,8,9]],[])),(1,([],[])),(1,([],[]))] ?_;refine af1 (Qs @hl @hga @hgb @hwk @hk1 @hk2 @hk3 @hk4 (N3 hga) (N3 hgb)) ?_;(repeat intro K hK);apply wr;by_cases hab:b.at_=a.at_
   ·refine Ce @hab @hwk ?_;(repeat intro K hK);apply wr;exact aX (id) (by rw[hIj];exact⟨j+1,(),by omega,rfl,(fun b' hb' a' ha'=>by rw[show 400-(j+1)=k by omega,ha]at ha';cases ha';rw[<- hab];exact hxj b' hb' b hb),rfl⟩) (kX3 (AA (n:=(j:Int)+1) (by omega) (by omega)) @hwk ((show 400-(j+1)=k by omega)))
   refine Ae @hab ?_;(repeat intro K hK);apply wr;refine hG (k+1) _ (id) (⟨by omega,by omega,fun _=>⟨a,b,by omega,ha,hb,by omega⟩⟩) ⟨rfl,?_,?_,?_,by simp⟩
   ·simp[leT,ltV,lt1,ren,Ao]
   ·simp[leO,lt1,Ao]
   (simp;try omega)
  have h4':¬(400:Int)<L.length:=by omega
  refine Ae @h4' ?_;(repeat intro K hK);apply wr;refine hG L.length _ (id) (⟨by omega,by omega,fun q=>by omega⟩) ⟨rfl,?_,?_,?_,by simp⟩
  ·simp[leT,ltV,lt1,ren,Ao]
  ·simp[leO,lt1,Ao]
  (simp;try omega)
 have hxu:x.count=u:=by omega
 obtain⟨e1,e2,e3⟩:=hx1.fin hxu;rw[e2,f7]at hx2;subst e1 e3 hx2;refine Ae @hlt ?_;(repeat intro K hK);apply wr;obtain⟨Ip,hIp⟩:∃I:Nat->St->Prop,I=(fun kk ss=>∃(p:Nat)(z:MchD),p<=rest.length/\kk=rest.length-p/\(z=(rest.take p).foldl (fun x e=>(applyD x e.ev).1) m1/\OkM z/\mayD z=true)/\ss=⟨113,(16,.int .i64 p)::barT rest u,3,barO z acc,0⟩):=⟨_,rfl⟩;refine lX Ip (id) (by rw[hIp];exact⟨0,m1,by simp,rfl,⟨rfl,hx4,hx5⟩,rfl⟩) ?_;intro kk ss hIk _;rw[hIp]at hIk;obtain⟨p,z,hp,rfl,hxp,rfl⟩:=hIk;obtain⟨hz1,hz2,hz3⟩:=hxp;refine af1 @hl ?_;(repeat intro K hK);apply wr;refine AB rfl (fun hh=>?_) (fun hh=>?_)
 ·simp at hh;obtain⟨e,he,hde,htk,hmem⟩:=get_at hh;have hge:=B0 he;have hap:=cC z e.ev hz2 hz3 (hx8 e hmem).1 (hx8 e hmem).2;have ham:=DU hz2 (e:=e.ev) (hx8 e hmem).1;refine af ?_;(repeat intro K hK);apply wr;refine An (.node 6 10 (.leaf [0,1,2,3,4,5,6,7,8,9,10,11,12] (bN [0,0,0,6,14,30,63,127,255,255,127,1535,4095]) [(6,([[],[],[],[1,2],[1,2,3],[1,2,3,4]],[])),(1,([],[])),(5,([[],[0],[0],[],[0,1,3]],[])),(1,([],[]))]) (.leaf [0,1,2,3,4,5,10,6,7,8,9,11,12] (bN [0,0,0,6,14,30,0,127,255,511,511,1023,4095]) [(7,([[],[],[],[1,2],[1,2,3],[1,2,3,4],[]],[(0,6),(3,6),(5,6)])),(1,([],[])),(1,([],[])),(3,([[],[],[0]],[])),(1,([],[]))])) (by kernel_rfl) (by kernel_rfl) ?_;simp only[PT.run]
  repeat' (with_reducible apply And.intro)
  all_goals (simp only[Bo,fJ,gI,fC,fK];refine af1 (kX4 @hl @hge (N3 hge) @hh) ?_;(repeat intro K hK);apply wr)
  all_goals ((refine cc (hap) ?_))
  all_goals ((refine af ?_);(repeat intro K hK);(apply wr))
  all_goals
   exact aX (id) (by rw[hIp];exact⟨p+1,((applyD z e.ev).1),by omega,rfl,⟨by rw[htk,List.foldl_append,<- hz1];rfl,ham.1,CO hz2 hz3 e.ev⟩,rfl⟩) (AA (n:=(p:Int)+1) (by omega) (by omega))
 simp at hh;rw[Gp hh]at hz1;refine af ?_;refine aw ?_;simp[hz1]
def entsOf(Q:List SegD):List EntD:=Q.flatMap fun g=>g.ents
theorem Bu(Q:List SegD)(g:SegD):entsOf (Q++[g])=entsOf Q++g.ents:=by simp[entsOf]
inductive Chn(m0:MchD):Nat->List SegD->MchD->Prop
 | nil:Chn m0 0 [] m0
 | more {i Q m}:Chn m0 i Q m->Chn m0 (i+1) Q m
 | snoc {i Q m m' l O}:Chn m0 i Q m->SegJ m.count m'.count l->OkM m'->mayD m'=true->m'.count<=m.count+64->Rb m0 (entsOf Q++l) O m'->O.length<=64*(i+1)->(∀p,cntP p (entsOf Q++l)<=3*(i+1))->Chn m0 (i+1) (Q++[⟨m.count,m'.count,l⟩]) m'
structure ChF(m0:MchD)(i:Nat)(Q:List SegD)(m:MchD):Prop where
 k:OkM m
 may:mayD m=true
 le:m0.count<=m.count
 up:m.count<=m0.count+64*i
 rb:∃O,Rb m0 (entsOf Q) O m/\O.length<=64*i
 n:(entsOf Q).length<=130*i
 v:∀e∈entsOf Q,OkV e.ev
 t:∀e∈entsOf Q,OkT e
 a:∀e∈entsOf Q,m0.count<=e.at_/\e.at_<=m.count
 c:∀p,cntP p (entsOf Q)<=3*i
 ch:chainOk m0.count Q=true
 la:lastAt m0.count Q=m.count
 g:∀g∈Q,OkG g/\segOk g=true
 q:Q.length<=i
theorem Chn.f{m0:MchD}(hM:OkM m0)(hm:mayD m0=true){i:Nat}{Q:List SegD}{m:MchD}(h:Chn m0 i Q m):ChF m0 i Q m:=by
 induction h with
 | nil=>exact⟨hM,hm,Int.le_refl _,by omega,⟨[],Rb.nil m0,by simp⟩,by simp[entsOf],by simp[entsOf],by simp[entsOf],by simp[entsOf],by simp[entsOf,cntP],rfl,rfl,by simp,by simp⟩
 | more h ih =>
  obtain⟨O,o1,o2⟩:=ih.rb;exact⟨ih.k,ih.may,ih.le,by have:=ih.up;omega,⟨O,o1,by omega⟩,by have:=ih.n;omega,ih.v,ih.t,ih.a,fun p=>by have:=ih.c p;omega,ih.ch,ih.la,ih.g,by have:=ih.q;omega⟩
 | @snoc i Q m m' l O h hS h1 h2 h3 h4 h5 h6 ih =>
  have hle:=hS.le;have hn:=hS.n;have hG:OkG ⟨m.count,m'.count,l⟩:=⟨Cj ih.k,Cj h1,hS.t,by simp only;omega⟩;have hsg:segOk ⟨m.count,m'.count,l⟩=true:=by unfold segOk;rw[hS.ok];rfl
  obtain⟨c1,c2⟩:=HC Q m0.count ⟨m.count,m'.count,l⟩ ih.ch ih.la.symm hS.ok;refine⟨h1,h2,by have:=ih.le;omega,by have:=ih.up;omega,⟨O,by rw[Bu];exact h4,h5⟩,by rw[Bu,eX];have:=ih.n;simp only;omega,?_,?_,?_,by rw[Bu];exact h6,c1,c2,?_,by simp;exact ih.q⟩
  ·intro e he;rw[Bu]at he;rcases List.mem_append.1 he with q|q
   ·exact ih.v e q
   exact hS.v e q
  ·intro e he;rw[Bu]at he;rcases List.mem_append.1 he with q|q
   ·exact ih.t e q
   exact hS.t e q
  ·intro e he;rw[Bu]at he;rcases List.mem_append.1 he with q|q
   ·have:=ih.a e q;omega
   have:=hS.lg.a e q;have:=ih.le;omega
  intro g hg;rcases List.mem_append.1 hg with q|q
  ·exact ih.g g q
  rw[List.mem_singleton.1 q];exact⟨hG,hsg⟩
theorem Chn.pre{m0:MchD}{i:Nat}{Q:List SegD}{m:MchD}(h:Chn m0 i Q m):∀k,k<=Q.length->∃j m',j<=i/\Chn m0 j (Q.take k) m':=by
 induction h with
 | nil=>intro k hk;exact⟨0,m0,fA _,by simp;exact .nil⟩
 | more h ih =>
  intro k hk;obtain⟨j,m',h1,h2⟩:=ih k hk;exact⟨j,m',by omega,h2⟩
 | @snoc i Q m m' l O h hS h1 h2 h3 h4 h5 h6 ih =>
  intro k hk;by_cases hq:k<=Q.length
  ·obtain⟨j,m'',g1,g2⟩:=ih k hq;exact⟨j,m'',by omega,by rw[List.take_append_of_le_length hq];exact g2⟩
  have:k=Q.length+1:=by simp at hk;omega
  subst this;refine⟨i+1,m',fA _,?_⟩;rw[fZ (by simp)];exact .snoc h hS h1 h2 h3 h4 h5 h6
theorem SN{m0 m:MchD}{H:List EntD}{O:List OutD}(hM:OkM m0)(hm:mayD m0=true)(hR:Rb m0 H O m)(hmm:mayD m=true)(hO:O.length<=10000)(hH:H.length<=20000)(hc:∀p,cntP p H<=400)(hv:∀e∈H,OkV e.ev):
  AC prog 13 [.st m0.row,Br H,lv m.count] (.tup [.st m.row,.sl 4 false (outs O),.bool true]):=by
 have hu:=((CJ _).1 hmm).n;have ho:=hR.ord;obtain⟨m1,rest,h1,h2,-⟩:=hR;have:=XV m0 m1 H rest O m.count hM hm h1 hu hO hH ho (spr_of ho hc) (fun e he=>⟨(hv e he).n,(hv e he).d⟩);rwa[show rest.foldl (fun x e=>(applyD x e.ev).1) m1=m from h2]at this
def rplT(m0:MchD)(l:List EntD)(k:Int):RplD:=⟨m0,l,k,0⟩
theorem rplT_j{m0:MchD}(hM:OkM m0)(hm:mayD m0=true):Bj (rplT m0 [] m0.count) m0:=⟨⟨hM,by show ∀e∈([]:List EntD),_;simp,Cj hM⟩,hm,rfl,rfl,by show ∀e∈([]:List EntD),_;simp,by show ∀e∈([]:List EntD),_;simp,rfl⟩
theorem ChF.end_{m0 m:MchD}{i:Nat}{Q:List SegD}(hM:OkM m0)(hm:mayD m0=true)(h:ChF m0 i Q m)(hi:i<=8):∃O,Bj (Cg (rplT m0 (entsOf Q) m.count) 4000).1 m/\(Cg (rplT m0 (entsOf Q) m.count) 4000).2=O/\O.length<=512/\(Cg (rplT m0 (entsOf Q) m.count) 4000).1.log.length<=1040:=by
 obtain⟨O,o1,o2⟩:=h.rb;have hfi:firstOk m0.count (entsOf Q)=true:=by
  cases he:entsOf Q with
  | nil=>rfl
  | cons e r=>have:=(h.a e (by rw[he];simp)).1;simpa[firstOk]using this
 have hup:=h.up;have hn:=h.n;obtain⟨r1,r2,r3⟩:=(rplT_j hM hm).repl2 o1 h.le hfi h.t h.v h.k 4000 (by rw[show DY 4000=4000 by decide];omega);rw[show({rplT m0 [] m0.count with log:=(rplT m0 [] m0.count).log++entsOf Q,known:=m.count}:RplD)=rplT m0 (entsOf Q) m.count from rfl]at r1 r2 r3;refine⟨O,r1,r2,by omega,f8 r3 ?_⟩;show 0+_<=_;omega
theorem ChF.now{m0 m:MchD}{i:Nat}{Q:List SegD}(h:ChF m0 i Q m)(hc:m0.count=m.count):appL m0 (entsOf Q)=m:=by
 obtain⟨O,⟨m1,rest,hT,ha,hr⟩,-⟩:=h.rb;obtain⟨e1,e2,-⟩:=Oe hT hc;subst e1 e2;exact ha
structure OkTk(a:RepD)(m0:MchD)(i:Nat):Prop where
 b:∃O,OkB m0 a i O
 gn:a.gen=1
 bt:a.beats=0
 wt:a.watch=⟨2,0,0⟩
 ba:a.out.base=1
 kn:a.out.known=m0.count
 tl:a.out.tail=a.rec_.m.count
 ch:Chn m0 i a.out.queue a.rec_.m
 hi:a.hist=entsOf a.out.queue
theorem bY{m0:MchD}(hM:OkM m0)(hm:mayD m0=true):OkTk (Dv 0 m0 1 2) m0 0:=⟨⟨[],prim_b hM hm 2⟩,rfl,rfl,rfl,rfl,rfl,rfl,.nil,rfl⟩
theorem OkTk.snd{a:RepD}{m0:MchD}{i:Nat}(h:OkTk a m0 i)(hM:OkM m0)(hm:mayD m0=true)(hi:i<=8):CM a.out=true:=by
 have hF:=h.ch.f hM hm;have h1:=hF.q;have hb:=h.ba;have hc1:=hF.ch;have hc2:=hF.la;unfold CM;rw[if_neg (by omega)];cases hq:a.out.queue with
 | nil =>
  simp only[decide_eq_true_eq];have:=hF.le;rw[h.kn,h.tl];exact this
 | cons g l =>
  rw[hq]at hc1 hc2;have hc3:=hc1;rw[chainOk]at hc3;simp only[eU,decide_eq_true_eq]at hc3;have hfr:=hc3.1.1;simp only[eU,decide_eq_true_eq];rw[hfr];refine⟨⟨by rw[h.kn];exact Int.le_refl _,hc1⟩,?_⟩;rw[h.tl];exact hc2.symm
theorem OkTk.w0{a:RepD}{m0:MchD}{i:Nat}(h:OkTk a m0 i):H3 a []=a:=by
 obtain⟨O,hb⟩:=h.b;have:=hb.q;obtain⟨x1,x2,x3,⟨m,k,g,q⟩,d⟩:=a;simp only at this;subst this;rfl
theorem OkTk.round{a:RepD}{m0:MchD}{i:Nat}(h:OkTk a m0 i)(hM:OkM m0)(hm:mayD m0=true)(hi:i<8)(steps:Int){clock:Int}(hc:W32 clock):OkTk (EB a steps clock) m0 (i+1):=by
 obtain⟨O,hb⟩:=h.b;have hF:=h.ch.f hM hm;have hround:=hb.round hi (q:=[]) (by simp) (by simp) (by simp) steps hc;have hql:=hF.q;have hne:¬(a.role=1/\8<=a.out.queue.length):=by omega
 have hst:0<=stp steps/\stp steps<=64:=by unfold stp;omega
 have hlim:DY (stp steps)<=64:=by unfold DY;omega
 have hR:OkR {a.rec_ with queue:=[]} 0:=⟨hb.m,hb.c,by show a.rec_.log.length<=0;rw[hb.l];simp,by simp,by simp,by show ∀e∈a.rec_.log,_;rw[hb.l];simp⟩;have hA:=hR.adv (stp steps) hc;have hO:=FZ {a.rec_ with queue:=[]} (stp steps) clock;have hV:=ZT hR hb.may hb.l hc (stp steps);have hN:=fun p=>Ry hR hb.may hb.l hc (stp steps) p;have hB:=V7 (r:={a.rec_ with queue:=[]}) hb.rb hb.l hR hb.may (by simp) hc (stp steps);have hB0:=V7 (r:={a.rec_ with queue:=[]}) (Rb.nil _) hb.l hR hb.may (by simp) hc (stp steps);have hJ:=adv_j hR hb.may hb.l (by simp) hc (stp steps);have hso:=h.snd hM hm (by omega);rw[h.w0]at hround;have hwr:EB a steps clock=EB (H3 a []) steps clock:=by rw[h.w0]
 rw[hwr]at hround ⊢;unfold EB at hround ⊢;rw[if_neg hne]at hround ⊢;unfold DD at hround ⊢;simp only at hround ⊢;generalize Dl {a.rec_ with queue:=[]} (stp steps) clock=A at *;obtain⟨r,o⟩:=A;simp only[f9,List.length_nil]at hA hO hV hN hB hB0 hJ hround ⊢;obtain⟨hJ1,hJ2⟩:=hJ;have hal:=hA.l;have hS:SegJ a.rec_.m.count r.m.count r.log:=⟨hJ1.fc,hJ1.lg,by omega,hA.t,hV⟩;have hol:=hb.ol;have hout:(Ro (Rt (H3 a []) r o)).out=if r.log=[]/\r.m.count=a.rec_.m.count then a.out else⟨1,r.m.count,m0.count,a.out.queue++[⟨a.rec_.m.count,r.m.count,r.log⟩]⟩:=by
  show(if a.role=1/\(r.log≠[]\/r.m.count≠a.out.tail)then(Cx a.out ⟨a.out.tail,r.m.count,r.log⟩).1 else a.out)=_;rw[h.tl];by_cases c:r.log=[]/\r.m.count=a.rec_.m.count
  ·rw[if_pos c,if_neg (fun z=>by rcases z.2 with z|z;exact z c.1;exact z c.2)]
  rw[if_neg c,if_pos ⟨hb.role,by by_cases z:r.log=[];exact .inr (fun y=>c ⟨z,y⟩);exact .inl z⟩];have h0:(Af ⟨a.rec_.m.count,r.m.count,r.log⟩).2=0:=hS.ok;have hp:Cx a.out ⟨a.rec_.m.count,r.m.count,r.log⟩=({a.out with queue:=a.out.queue++[⟨a.rec_.m.count,r.m.count,r.log⟩],tail:=r.m.count},0):=by
   unfold Cx;rw[if_neg (by rw[hso,h.tl];simp),if_neg (by rw[h0];simp),if_neg (by omega)]
  rw[hp];show SndD.mk _ _ _ _=_;rw[h.ba,h.kn]
 have hrm:(Ro (Rt (H3 a []) r o)).rec_.m=r.m:=rfl;have hhi:(Ro (Rt (H3 a []) r o)).hist=a.hist++r.log:=rfl;have hcn:∀p,cntP p (entsOf a.out.queue++r.log)<=3*(i+1):=fun p=>by
  rw[GU,<- h.hi];have:=hb.hc p;have:=hN p;omega
 by_cases c:r.log=[]/\r.m.count=a.rec_.m.count
 ·rw[if_pos c]at hout;have hsm:r.m=a.rec_.m:=by
   obtain⟨m1,rest,hT,ha,hr⟩:=hB0;rw[c.1]at hT;obtain⟨e1,e2,-⟩:=Oe hT c.2.symm;subst e1 e2;exact ha.symm
  refine⟨hround,h.gn,h.bt,h.wt,by rw[hout];exact h.ba,by rw[hout];exact h.kn,by rw[hout,hrm,hsm];exact h.tl,by rw[hout,hrm,hsm];exact h.ch.more,by rw[hhi,hout,c.1,f7];exact h.hi⟩
 rw[if_neg c]at hout;refine⟨hround,h.gn,h.bt,h.wt,by rw[hout],by rw[hout],by rw[hout,hrm],?_,by rw[hhi,hout,Bu,h.hi]⟩;rw[hout,hrm];exact .snoc h.ch hS hA.m hJ1.m (by omega) (by rw[<- h.hi];exact hB) (by rw[eX];omega) hcn
def bkT(m0:MchD)(Q:List SegD):RepD:={Et 1 m0 1 2 with inn:=⟨1+Q.length,lastAt m0.count Q,[]⟩,rpl:=rplT m0 (entsOf Q) (lastAt m0.count Q),hist:=entsOf Q}
theorem bkT0(m0:MchD):bkT m0 []=Et 1 m0 1 2:=rfl
theorem Z9{m0:MchD}(hM:OkM m0){i:Nat}{Q:List SegD}{m:MchD}(h:ChF m0 i Q m)(hi:i<=8):OkP (bkT m0 Q) 40000:=by
 have hn:=h.n;refine⟨ZO.up (by omega),hM,by show(entsOf Q).length<=_;omega,by simp[bkT,Et,Dp],by simp[bkT,Et,Dp],by simp[bkT,Et,Dp],by show ∀e∈([]:List (Int×SegD)),_;simp,by show([]:List (Int×SegD)).length<=_;simp,by show(entsOf Q).length<=_;omega⟩
theorem UB:∀(Q:List SegD)(b:Int)(k:Nat)(g:SegD),Q[k]? =some g->(Jf b Q)[k]? =some (pkD (b+k) g)
 | [],b,k,g,h=>by simp at h
 | x::Q,b,0,g,h=>by
  simp at h;subst h;show some _=some _;rw[show b+((0:Nat):Int)=b by omega]
 | x::Q,b,k+1,g,h=>by
  have:=UB Q (b+1) k g (by simpa using h);show(Jf (b+1) Q)[k]? =_;rw[this,show b+1+(k:Int)=b+((k+1:Nat):Int) by push_cast;omega]
theorem JF:∀(Q:List SegD)(b:Int),(Jf b Q).length=Q.length
 | [],b=>rfl
 | x::Q,b=>by simp[Jf,JF Q]
theorem Chn.at_{m0:MchD}(hM:OkM m0)(hm:mayD m0=true){i:Nat}{Q:List SegD}{m:MchD}(h:Chn m0 i Q m):∀k,k<Q.length->∃j m1 m2 l,j<i/\Q[k]? =some ⟨m1.count,m2.count,l⟩/\ChF m0 j (Q.take k) m1/\SegJ m1.count m2.count l/\OkM m2/\ChF m0 (j+1) (Q.take (k+1)) m2:=by
 induction h with
 | nil=>intro k hk;simp at hk
 | more h ih =>
  intro k hk;obtain⟨j,m1,m2,l,h1,h2⟩:=ih k hk;exact⟨j,m1,m2,l,by omega,h2⟩
 | @snoc i Q m m' l O h hS h1 h2 h3 h4 h5 h6 ih =>
  intro k hk;by_cases hq:k<Q.length
  ·obtain⟨j,m1,m2,l2,g1,g2,g3⟩:=ih k hq;refine⟨j,m1,m2,l2,by omega,by rw[fO hq];exact g2,?_⟩;rw[List.take_append_of_le_length (by omega),List.take_append_of_le_length (by omega)];exact g3
  have:k=Q.length:=by simp at hk;omega
  subst this;have hw:=Chn.snoc h hS h1 h2 h3 h4 h5 h6;refine⟨i,m,m',l,by omega,by simp,by rw[List.take_append_of_le_length (fA _),List.take_length];exact h.f hM hm,hS,h1,?_⟩;rw[fZ (by simp)];exact hw.f hM hm
theorem Vu{m0:MchD}(hM:OkM m0)(hm:mayD m0=true){i:Nat}{Q:List SegD}{m:MchD}(h:Chn m0 i Q m)(hi:i<=8)(k:Nat)(hk:k<Q.length){p:Str}(hp:(Jf 1 Q)[k]? =some p):
  AC prog 10 [.st (bkT m0 (Q.take k)).row,.str p] (.tup [.st (bkT m0 (Q.take (k+1))).row,.bool true]):=by
 obtain⟨j,m1,m2,l,g1,g2,hF,hS,hM2,hF2⟩:=h.at_ hM hm k hk;have hq8:=(h.f hM hm).q;have hpg:=UB Q 1 k _ g2;rw[hp]at hpg;obtain rfl:=Option.some.inj hpg;have htk:Q.take (k+1)=Q.take k++[⟨m1.count,m2.count,l⟩]:=by rw[List.take_add_one,g2];rfl
 have hlen:(Q.take k).length=k:=by rw[fE];omega
 have hla:=hF.la;have hla2:=hF2.la;have hG:=hF2.g ⟨m1.count,m2.count,l⟩ (by rw[htk];simp);have hn1:=hF.n;have hn2:=hS.n;have ht:=QT (1+(k:Int)) m1.count ⟨m1.count,m2.count,l⟩ (by omega) (by omega) hG.1 hG.2 rfl;have hrb:∃O,Rb m0 (entsOf (Q.take k)++l) O m2:=by
  obtain⟨O,h1,-⟩:=hF2.rb;rw[htk,Bu]at h1;exact⟨O,h1⟩
 obtain⟨O,hrb⟩:=hrb;have hFd:FeedOk (bkT m0 (Q.take k)).rpl l m2.count:=by
  refine⟨by show lastAt _ _<=_;rw[hla];exact hS.le,by omega,by show(entsOf (Q.take k)).length+l.length<=_;omega,fun e he=>?_,hrb.ord⟩;have:=hS.lg.a e he;exact⟨by show lastAt _ _<=_;rw[hla];exact this.1,this.2.1,Ta l hS.lg.o (fun x hx=>(hS.lg.a x hx).2.1) hS.lg.t e he,this.2.2⟩
 have hinn:(bkT m0 (Q.take k)).inn=⟨1+(k:Int),m1.count,[]⟩:=by
  show RcvD.mk _ _ _=_;rw[hlen,hla]
 have hr:=UG (bkT m0 (Q.take k)) ⟨1+(k:Int)+1,m2.count,[]⟩ ⟨m1.count,m2.count,l⟩ (pkD (1+(k:Int)) ⟨m1.count,m2.count,l⟩) (by rw[hinn];exact ht) (by show m0.mem.length<=_;have:=hM.n;omega) hFd (by show(entsOf (Q.take k)).length<=_;omega);have hE:({bkT m0 (Q.take k)with inn:=⟨1+(k:Int)+1,m2.count,[]⟩,rpl:={(bkT m0 (Q.take k)).rpl with log:=(bkT m0 (Q.take k)).rpl.log++l,known:=m2.count},hist:=(bkT m0 (Q.take k)).hist++l}:RepD)=bkT m0 (Q.take (k+1)):=by
  have e1:((Q.take (k+1)).length:Int)=k+1:=by rw[fE];omega
  unfold bkT;rw[hla2,e1,htk,Bu,show(1:Int)+(k+1)=1+k+1 by omega];rfl
 have hr2:=OX _ _ _ _ (Z9 hM hF (by omega)) rfl hr;rw[hE]at hr2;exact hr2
def bst(m0:MchD)(Q:List SegD)(n:Nat):RepD:=if n<=Q.length then bkT m0 (Q.take n)else SO (bkT m0 Q) 1 m0.count
def pkT(m0:MchD)(Q:List SegD):List Str:=Jf 1 Q++[GA 1 m0.count]
theorem UA(m0:MchD)(Q:List SegD):(pkT m0 Q).length=Q.length+1:=by simp[pkT,JF]
theorem OkTk.pp{a:RepD}{m0:MchD}{i:Nat}(h:OkTk a m0 i)(hi:i<=8):OkP a 400:=by
 obtain⟨O,hb⟩:=h.b;have:=hb.okP (q:=[]) (by omega) (by simp) (by simp);rw[h.w0]at this;exact this
theorem OkTk.pk{a:RepD}{m0:MchD}{i:Nat}(h:OkTk a m0 i)(hM:OkM m0)(hm:mayD m0=true)(hi:i<=8):∃a2,AC prog 9 [.st a.row] (.tup [.st (RepD.row a2),.sl 1 false (strs (pkT m0 a.out.queue))]):=by
 obtain⟨O,hb⟩:=h.b;have:=Ue a ((h.pp hi).up (by omega)) hb.role (h.snd hM hm hi) (by rw[h.bt];omega) (by rw[hb.ak];exact Cj hM);rw[h.ba,h.bt,hb.ak]at this;exact⟨_,this⟩
structure HrB(b:RepD)(m0:MchD)(Q:List SegD)(m:MchD)(j:Nat):Prop where
 role:b.role=2
 host:b.host=1
 gen:b.gen=1
 r:b.rpl=rplT m0 (entsOf Q) m.count
 h:b.hist=entsOf Q
 wl:b.watch.limit=2
 ws:b.watch.silent=0
 p:OkP b 40000
 g:b.gate.held.length<=0
 f:ChF m0 j Q m
 i:j<=8
theorem bkT_h{m0:MchD}(hM:OkM m0){i:Nat}{Q:List SegD}{m:MchD}(h:ChF m0 i Q m)(hi:i<=8):HrB (bkT m0 Q) m0 Q m i :=
 ⟨rfl,rfl,rfl,by show rplT m0 _ (lastAt _ _)=_;rw[h.la],rfl,rfl,rfl,Z9 hM h hi,by show([]:List OutD).length<=0;simp,h,hi⟩
theorem beat_h{m0:MchD}(hM:OkM m0){i:Nat}{Q:List SegD}{m:MchD}(h:ChF m0 i Q m)(hi:i<=8):HrB (SO (bkT m0 Q) 1 m0.count) m0 Q m i:=by
 have hb:=bkT_h hM h hi;have hrl:=cI (bkT m0 Q).gate (max (bkT m0 Q).mark m0.count);have hP:=hb.p;exact⟨rfl,rfl,rfl,hb.r,rfl,rfl,rfl,⟨hP.c,hP.p,hP.pl,by show(Pu _ _).1.held.length<=_;have:=hb.g;omega,hP.o,hP.on,hP.i,hP.en,hP.h⟩,by show(Pu _ _).1.held.length<=_;have:=hb.g;omega,h,hi⟩
theorem bst_h{m0:MchD}(hM:OkM m0)(hm:mayD m0=true){i:Nat}{Q:List SegD}{m:MchD}(h:Chn m0 i Q m)(hi:i<=8)(n:Nat):∃Q' m' j,HrB (bst m0 Q n) m0 Q' m' j:=by
 unfold bst;by_cases c:n<=Q.length
 ·rw[if_pos c];obtain⟨j,m',h1,h2⟩:=h.pre n c;exact⟨_,m',j,bkT_h hM (h2.f hM hm) (by omega)⟩
 rw[if_neg c];exact⟨Q,m,i,beat_h hM (h.f hM hm) hi⟩
theorem Vw{m0:MchD}(hM:OkM m0)(hm:mayD m0=true){i:Nat}{Q:List SegD}{m:MchD}(h:Chn m0 i Q m)(hi:i<=8):Recv (pkT m0 Q) (bst m0 Q):=by
 intro k p hp;have hF:=h.f hM hm;by_cases c:k<Q.length
 ·unfold pkT at hp;rw[fO (by rw[JF];exact c)]at hp;refine⟨true,?_⟩;unfold bst;rw[if_pos (by omega),if_pos (by omega)];exact Vu hM hm h hi k c hp
 have hk:k=Q.length:=by
  have:=(List.getElem?_eq_some_iff.1 hp).1;rw[UA]at this;omega
 subst hk;unfold pkT at hp;rw[fP (by rw[JF];exact fA _),JF,Nat.sub_self]at hp;obtain rfl:=Option.some.inj hp;refine⟨true,?_⟩;unfold bst;rw[if_pos (fA _),if_neg (by omega),List.take_length];have hP:=Z9 hM hF hi;have hln:=Aj m0.count;have ho:=openP 1 72 68 (BQ m0.count) ⟨by omega,by omega⟩ (by omega);rw[if_neg (by decide)]at ho;have ht:=Xz (1+(Q.length:Int)) (lastAt m0.count Q) (GA 1 m0.count) 0 [] ho;have:=cB (bkT m0 Q) 1 m0.count ht ⟨by omega,by omega⟩ (Cj hM) ⟨by show(1:Int)<=2;omega,by show(2:Int)<=20;omega,Int.le_refl _,by show(0:Int)<=2;omega⟩ (by show(0:Int)<1;omega) (by show([]:List OutD).length<=_;simp);exact OX _ _ _ _ hP rfl this
theorem tick_n(s:Int)(n:Int)(h0:0<=n)(h:n<2):Gr ⟨2,n,s⟩=⟨2,n+1,s⟩:=by unfold Gr;rw[if_pos (by show n<2;exact h)]
theorem detT(n s:Int)(h0:0<=n)(h:n<=2):detD ⟨2,n,s⟩:=⟨by show(1:Int)<=2;omega,by show(2:Int)<=20;omega,h0,h⟩
theorem ZE(r:RepD)(hro:r.role=3)(hm:r.rec_.m.mem.length<=100000):AC prog 15 [.st r.row] (.st r.rec_.m.row):=by
 refine sZ func15 ntmps15 ?_;exact wx1 (qX1 (GV r.rec_.m hm)) trivial @hro
theorem bA1:∀b∈AT,b.length=128:=GE
theorem bA2:1<=AT.length/\AT.length<=64:=by simp[AT]
theorem take2g{r r':RepD}{g host:Int}(hgen:r.gen=g)(hho:r.host=host)(h:OkP r 40000)(hro:r.role=2)(hd:detD r.watch)(hs:r.watch.silent=r.watch.limit)(hh:0<=host)(hg:1<=g/\g<4611686018427387904)
  (hov:AC prog 40 [.st (RepD.row {r with gen:=g+1})] (.st r'.row)) :
  AC prog 12 [.st r.row,BL AT g 0] (.tup [.st r'.row,BL AT (g+1) host]):=by
 subst hgen hho;exact Xy r r' AT 0 h hro hd hs hh hg (Int.le_refl _) bA1 bA2.1 bA2.2 hov
theorem take1g{r:RepD}{g host:Int}(hgen:r.gen=g)(hho:r.host=host)(h:OkP r 40000)(hro:r.role=1)(hd:detD r.watch)(hs:r.watch.silent=r.watch.limit)(hh:0<=host)(hg:1<=g/\g<4611686018427387904):
  AC prog 12 [.st r.row,BL AT g 0] (.tup [.st (RepD.row {r with gen:=g+1,role:=3}),BL AT (g+1) host]):=by
 subst hgen hho;exact Xx r AT 0 h hro hd hs hh hg (Int.le_refl _) bA1 bA2.1 bA2.2
theorem HrB.tk{b:RepD}{m0:MchD}{Q:List SegD}{m:MchD}{j:Nat}(h:HrB b m0 Q m j)(hM:OkM m0)(hm:mayD m0=true):∃x,AC prog 12 [.st (RepD.row {b with watch:=⟨2,2,b.watch.seen⟩}),BL AT 1 0] (.tup [.st (RepD.row x),BL AT 2 1])/\x.role=3/\x.gen=2/\x.host=1/\x.hist=entsOf Q/\x.rec_.m=m:=by
 have hF:=h.f;have hi:=h.i;have hP:=h.p;have hn:=hF.n;have hP2:OkP {b with watch:=⟨2,2,b.watch.seen⟩} 40000:=⟨hP.c,hP.p,hP.pl,hP.g,hP.o,hP.on,hP.i,hP.en,hP.h⟩
 have htk:∀r':RepD,AC prog 40 [.st (RepD.row {b with watch:=⟨2,2,b.watch.seen⟩,gen:=2})] (.st (RepD.row r'))->AC prog 12 [.st (RepD.row {b with watch:=⟨2,2,b.watch.seen⟩}),BL AT 1 0] (.tup [.st (RepD.row r'),BL AT 2 1]):=fun r' hov =>
  take2g (r:={b with watch:=⟨2,2,b.watch.seen⟩}) (g:=1) (host:=1) h.gen h.host hP2 h.role (detT 2 _ (by omega) (by omega)) rfl (by omega) (by omega) hov
 by_cases hc:m0.count=m.count
 ·have hR:({b with watch:=⟨2,2,b.watch.seen⟩,gen:=2}:RepD).rpl=rplT m0 (entsOf Q) m.count:=h.r;have hov:=Wv {b with watch:=⟨2,2,b.watch.seen⟩,gen:=2} (by rw[hR];exact hM) (by rw[hR];exact hm) (by rw[hR];exact hc) (by rw[hR];exact hF.v) (by rw[hR];show(entsOf Q).length<=_;omega);refine⟨_,htk _ hov,rfl,rfl,h.host,h.h,?_⟩;show appL b.rpl.m b.rpl.log=m;rw[h.r];exact hF.now hc
 have hle:=hF.le;have hR:({b with watch:=⟨2,2,b.watch.seen⟩,gen:=2}:RepD).rpl=rplT m0 (entsOf Q) m.count:=h.r;obtain⟨O,r1,r2,r3,r4⟩:=hF.end_ hM hm hi;have hf:=TF {b with watch:=⟨2,2,b.watch.seen⟩,gen:=2} 4000 (by rw[hR];exact⟨hM,hF.t,Cj hF.k⟩) (by rw[hR];show(entsOf Q).length<=_;omega) (by rw[hR];exact fun e he=>(hF.v e he).d) (by have:=h.g;show b.gate.held.length<=_;omega) (by rw[hR,r2];omega);have hE:(GF {b with watch:=⟨2,2,b.watch.seen⟩,gen:=2} 4000).rpl=(Cg (rplT m0 (entsOf Q) m.count) 4000).1:=by show(Cg b.rpl 4000).1=_;rw[h.r]
 have hov:=Ww {b with watch:=⟨2,2,b.watch.seen⟩,gen:=2} (by rw[hR];show m0.count<m.count;omega) (by rw[hR];exact hM) (by rw[hR];exact Cj hF.k) hf (by rw[hE];exact r1.j.m) (by rw[hE];exact r1.may) (by rw[hE,r1.c,r1.k]) (by rw[hE];exact r1.v) (by rw[hE];omega);refine⟨_,htk _ hov,rfl,rfl,h.host,h.h,?_⟩;show appL (GF {b with watch:=⟨2,2,b.watch.seen⟩,gen:=2} 4000).rpl.m (GF {b with watch:=⟨2,2,b.watch.seen⟩,gen:=2} 4000).rpl.log=m;rw[hE];exact r1.a
theorem HrB.tk0{b:RepD}{m0:MchD}{Q:List SegD}{m:MchD}{j:Nat}(h:HrB b m0 Q m j)(o:Int)(ho:0<=o):AC prog 12 [.st (RepD.row {b with watch:=⟨2,2,b.watch.seen⟩}),BL AT 2 o] (.tup [.st (RepD.row {b with watch:=⟨2,2,b.watch.seen⟩,role:=0}),BL AT 2 o]):=by
 have hP:=h.p;exact QS {b with watch:=⟨2,2,b.watch.seen⟩} AT 2 o ⟨hP.c,hP.p,hP.pl,hP.g,hP.o,hP.on,hP.i,hP.en,hP.h⟩ (.inr h.role) (detT 2 _ (by omega) (by omega)) rfl (by show(0:Int)<=b.host;rw[h.host];omega) (by omega) ho bA1 bA2.1 bA2.2 (by show ¬(2:Int)=b.gen;rw[h.gen];decide)
theorem OkTk.tk{a:RepD}{m0:MchD}{i:Nat}(h:OkTk a m0 i)(hi:i<=8):AC prog 12 [.st (RepD.row {a with watch:=⟨2,2,0⟩}),BL AT 1 0] (.tup [.st (RepD.row {a with watch:=⟨2,2,0⟩,gen:=2,role:=3}),BL AT 2 0]):=by
 obtain⟨O,hb⟩:=h.b;have hP:=(h.pp hi).up (show 400<=40000 by omega);exact take1g (r:={a with watch:=⟨2,2,0⟩}) (g:=1) (host:=0) h.gn hb.host ⟨hP.c,hP.p,hP.pl,hP.g,hP.o,hP.on,hP.i,hP.en,hP.h⟩ hb.role (detT 2 _ (by omega) (by omega)) rfl (by omega) (by omega)
theorem OkTk.tk0{a:RepD}{m0:MchD}{i:Nat}(h:OkTk a m0 i)(hi:i<=8)(o:Int)(ho:0<=o):AC prog 12 [.st (RepD.row {a with watch:=⟨2,2,0⟩}),BL AT 2 o] (.tup [.st (RepD.row {a with watch:=⟨2,2,0⟩,role:=0}),BL AT 2 o]):=by
 obtain⟨O,hb⟩:=h.b;have hP:=(h.pp hi).up (show 400<=40000 by omega);exact QS {a with watch:=⟨2,2,0⟩} AT 2 o ⟨hP.c,hP.p,hP.pl,hP.g,hP.o,hP.on,hP.i,hP.en,hP.h⟩ (.inl hb.role) (detT 2 _ (by omega) (by omega)) rfl (by show(0:Int)<=a.host;rw[hb.host];omega) (by omega) ho bA1 bA2.1 bA2.2 (by show ¬(2:Int)=a.gen;rw[h.gn];decide)
end Go.Proofs.YtjkmhmepljamoaaGreat
end
