/- A part of the proof of ReplicaDisk. -/
import Derived.Test.YtjkmhmepljamoaaGreatK28
import Derived.Test.YtjkmhmepljamoaaGreatK33
import Derived.Test.YtjkmhmepljamoaaGreatK38
import Derived.Test.YtjkmhmepljamoaaGreatK40
import Derived.Test.YtjkmhmepljamoaaGreatK44
import Derived.Test.YtjkmhmepljamoaaGreatK45
set_option linter.all false
set_option maxHeartbeats 16000000
set_option maxRecDepth 100000
section
namespace Go.Proofs.YtjkmhmepljamoaaGreat
open Go.Ab Go.RowKit Tryz
theorem M9(l:List EntD)(n:Nat):(ents l).take n=ents (l.take n):=by simp[ents,List.map_take]
theorem M7(l:List EntD)(n:Nat):(ents l).drop n=ents (l.drop n):=by simp[ents,List.map_drop]
abbrev Spr(l:List EntD):Prop:=∀k a b,l[k]? =some a->l[k+400]? =some b->a.at_<b.at_
theorem Spr.drop{l:List EntD}(h:Spr l)(n:Nat):Spr (l.drop n):=by
 intro k a b ha hb;rw[iP]at ha hb;exact h (n+k) a b ha (by rwa[Nat.add_assoc])
abbrev barT(l:List EntD)(u:Int):List (Nat×V):=[(1,Bo l),(2,lv u),(3,.ptr 0 49 0 0),(6,.ptr 1 49 0 0),(9,.own 2)]
abbrev barO(x:MchD)(acc:List OutD):List (Nat×Option Ob):=[(0,some ⟨42,49,true,false,[x.row]⟩),(1,some ⟨42,49,true,false,[zMR0]⟩),(2,some ⟨124,4,false,false,outs acc⟩)]
theorem Xl(m m1:MchD)(H rest:List EntD)(O:List OutD)(u:Int)(hM:OkM m)(hmay:mayD m=true)(hT:Tr u m H O m1 rest)(hu:u<=1152921504606846976)(hO:O.length<=10000)(hH:H.length<=20000)(hord:ordD H=true)(hD:Spr H)
  (hE:∀e∈H,W32 e.ev.n/\e.ev.data.length<=100000) :
  AC prog 13 [.st m.row,Bo H,lv u] (.tup [.st (rest.foldl (fun x e=>(applyD x e.ev).1) m1).row,.sl 4 false (outs O),.bool true]):=by
 have hc0:=DZ hM;have hle:=hT.le;refine sX func13 ntmps13 ?_;(repeat intro K hK);apply wr;refine AT 9 124 4 (by decide) rfl ?_;simp;obtain⟨I,hI⟩:∃I:Nat->St->Prop,I=(fun kk ss=>∃(i:Nat)(x:MchD)(L:List EntD)(acc:List OutD),i<=(u-m.count).toNat/\kk=(u-m.count).toNat-i/\((∃O',Tr u x L O' m1 rest/\acc++O'=O)/\m.count+i<=x.count/\OkM x/\mayD x=true/\ordD L=true/\Spr L/\(∀e∈L,W32 e.ev.n/\e.ev.data.length<=100000)/\L.length<=20000)/\ss=⟨113,barT L u,3,barO x acc,0⟩):=⟨_,rfl⟩;refine lX I (id) (by rw[hI];exact⟨0,m,H,[],by simp,rfl,⟨⟨O,hT,rfl⟩,by simp,hM,hmay,hord,hD,hE,hH⟩,rfl⟩) ?_;intro kk ss hIk _;rw[hI]at hIk;obtain⟨i,x,L,acc,hi,rfl,hx,rfl⟩:=hIk;obtain⟨⟨O',hx1,hx2⟩,hx3,hx4,hx5,hx6,hx7,hx8,hx9⟩:=hx;rename_i hnn;clear hnn;have hxle:=hx1.le;have hl:=Ay L;refine au ?_;(repeat intro K hK);apply wr;by_cases hlt:x.count<u
 ·refine DI @hlt @hl ?_;(repeat intro K hK);apply wr;have hfi:=hx1.first;refine Cc (α:=Nat) (fun n=>(⟨113,(10,.int .i64 n)::barT L u,3,barO x acc,0⟩:St)) (fun n=>n<=L.length/\n<=400/\(n<L.length->∃a b,0<n/\L[n-1]? =some a/\L[n]? =some b/\a.at_<b.at_)) hK (fun n hxhG=>?_) (fun hG=>?_);all_goals clear hK
  ·obtain⟨hn1,hn2,hn3⟩:=hxhG;have w1:IntKind.u64.wrap (x.count+4000)=x.count+4000:=u64_in;refine au1 (kX2 @w1 @hl) ?_;(repeat intro K hK);apply wr;have hnl:(decide ((n:Int)<L.length))=decide (n<L.length):=by simp
   by_cases hn:n<L.length
   ·obtain⟨a,b,b0,ba,bb,bl⟩:=hn3 hn;have hgb:=B7 bb;have hn':(n:Int)<L.length:=by omega
    refine DI (kX2 @hn @hn') (kX5 @hl @hn @hn' @hgb (Nn hgb)) ?_;(repeat intro K hK);apply wr;obtain⟨t,hte⟩:∃t,t=(if b.at_<(if x.count+4000<u then x.count+4000 else u)then b.at_ else(if x.count+4000<u then x.count+4000 else u)):=⟨_,rfl⟩;have hca:x.count<=a.at_:=by
     cases hq:L with
     | nil=>rw[hq]at bb;simp at bb
     | cons e0 l0 =>
      rw[hq]at hfi;have h1:x.count<=e0.at_:=by simpa[firstOk]using hfi
      exact Int.le_trans h1 (Hv L 0 (n-1) e0 a hx6 (by rw[hq];rfl) ba (by omega))
    have htb:x.count<t/\t<=u/\t<=x.count+4000/\t<=b.at_:=by rw[hte];(repeat' split)<;>omega
    have hn4:∀k e,n<=k->L[k]? =some e->t<=e.at_:=fun k e hk he=>by have:=Hv L n k b e hx6 bb he hk;omega
    rw[<- hte];clear hte;clear hn3;have ht1:x.count<t:=by omega
    have ht2:t<=u:=by omega
    have ht3:t<=x.count+4000:=by omega
    obtain⟨y,L',O1,O2,hT1,hT2,hO12,hyc⟩:=hx1.split t (by omega) ht2;obtain⟨us,hL',hus,hus2,hT3⟩:=hT1.pre n hn4;have hyok:=hT1.ok (fun e he=>(hx8 e he).1) hx4 hx5;have hrun:=Oq x y (L.take n) ((L.take n).drop us) O1 t hx4 hx5 hT3 (by omega) (by omega) (by rw[iD];omega) (L9 L n hx6) hT3.first (fun e he=>hx8 e (i5 he));have hlen:(((L.take n).length:Int)-(((L.take n).drop us).length:Int))=us:=by rw[iE,iD];omega
    rw[hlen]at hrun;have htk:=M9 L n;have hdr:=M7 L us;rw[hL']at hT2;have htl:(ents L).take L.length=ents L:=by rw[<- hl];exact List.take_length
    have hla:=BA acc;have hlO:=BA O1;have hb1:acc.length+O1.length<=10000:=by
     have:=congrArg List.length hx2;rw[hO12]at this;simp only[gV]at this;omega
    have hne:¬y.count=x.count:=by omega
    have husi:((us:Int)).toNat=us:=by omega
    refine BH (.node 5 11 (.leaf [0,1,2,3,4,5,6,7,8,9,10,11,12,13,14,15] (bN [0,0,0,6,0,31,63,127,127,127,127,63,2303,6655,15359,32767]) [(5,([[],[],[],[1,2],[]],[])),(1,([],[])),(9,([[],[0],[0],[0],[0],[],[0,1,5],[0,1,2,5,6],[0,1,2,3,5,6,7]],[])),(1,([],[]))]) (.leaf [0,1,2,3,4,11,5,6,7,8,9,10,12,13,14,15] (bN [0,0,0,6,0,0,63,127,255,255,255,255,511,5119,14335,32767]) [(6,([[],[],[],[1,2],[],[]],[(0,5),(3,5)])),(1,([],[])),(1,([],[])),(7,([[],[],[],[],[0],[0,1,4],[0,1,2,4,5]],[])),(1,([],[]))])) (by kernel_rfl) (by kernel_rfl) ?_;simp only[PT.run]
    repeat' (with_reducible apply And.intro)
    all_goals (simp only[CE,iI,List.map_nil,iC,iK];refine af1 (kX3 @hl @htk @hn1) ?_;(repeat intro K hK);apply wr)
    all_goals ((refine cc (hrun) ?_))
    all_goals ((refine af ?_);(repeat intro K hK);(apply wr))
    all_goals ((refine cF0 rfl ?_))
    all_goals ((refine af1 (kX3 @hla @hlO @maxLen.eq_1) ?_);(repeat intro K hK);(apply wr))
    all_goals ((refine cF1 @hne rfl ?_))
    all_goals ((refine af1 (kX3 @hl @hdr @hus2) ?_);(repeat intro K hK);(apply wr))
    all_goals
     exact aX (fun x=>if x=2 then 56 else x) (by rw[hI];exact⟨i+1,y,(L.drop us),(acc++O1),by omega,rfl,⟨⟨O2,hT2,by rw[iH,<- hO12];exact hx2⟩,by omega,hyok.1,hyok.2,L8 L us hx6,hx7.drop us,fun e he=>hx8 e (List.mem_of_mem_drop he),by rw[iE];omega⟩,rfl⟩) (kX4 (AA (n:=(i:Int)+1)) @Bc @htl @hdr)
   have hn':¬(n:Int)<L.length:=by omega
   refine Ac (kX2 @hn @hn') ?_;(repeat intro K hK);apply wr;obtain⟨t,hte⟩:∃t,t=(if x.count+4000<u then x.count+4000 else u):=⟨_,rfl⟩;have htb:x.count<t/\t<=u/\t<=x.count+4000:=by rw[hte];split<;>omega
   have hn4:∀k e,n<=k->L[k]? =some e->t<=e.at_:=fun k e hk he=>by rw[iV (by omega)]at he;cases he
   rw[<- hte];clear hte;clear hn3;have ht1:x.count<t:=by omega
   have ht2:t<=u:=by omega
   have ht3:t<=x.count+4000:=by omega
   obtain⟨y,L',O1,O2,hT1,hT2,hO12,hyc⟩:=hx1.split t (by omega) ht2;obtain⟨us,hL',hus,hus2,hT3⟩:=hT1.pre n hn4;have hyok:=hT1.ok (fun e he=>(hx8 e he).1) hx4 hx5;have hrun:=Oq x y (L.take n) ((L.take n).drop us) O1 t hx4 hx5 hT3 (by omega) (by omega) (by rw[iD];omega) (L9 L n hx6) hT3.first (fun e he=>hx8 e (i5 he));have hlen:(((L.take n).length:Int)-(((L.take n).drop us).length:Int))=us:=by rw[iE,iD];omega
   rw[hlen]at hrun;have htk:=M9 L n;have hdr:=M7 L us;rw[hL']at hT2;have htl:(ents L).take L.length=ents L:=by rw[<- hl];exact List.take_length
   have hla:=BA acc;have hlO:=BA O1;have hb1:acc.length+O1.length<=10000:=by
    have:=congrArg List.length hx2;rw[hO12]at this;simp only[gV]at this;omega
   have hne:¬y.count=x.count:=by omega
   have husi:((us:Int)).toNat=us:=by omega
   refine BH (.node 5 11 (.leaf [0,1,2,3,4,5,6,7,8,9,10,11,12,13,14,15] (bN [0,0,0,6,0,31,63,127,127,127,127,63,2303,6655,15359,32767]) [(5,([[],[],[],[1,2],[]],[])),(1,([],[])),(9,([[],[0],[0],[0],[0],[],[0,1,5],[0,1,2,5,6],[0,1,2,3,5,6,7]],[])),(1,([],[]))]) (.leaf [0,1,2,3,4,11,5,6,7,8,9,10,12,13,14,15] (bN [0,0,0,6,0,0,63,127,255,255,255,255,511,5119,14335,32767]) [(6,([[],[],[],[1,2],[],[]],[(0,5),(3,5)])),(1,([],[])),(1,([],[])),(7,([[],[],[],[],[0],[0,1,4],[0,1,2,4,5]],[])),(1,([],[]))])) (by kernel_rfl) (by kernel_rfl) ?_;simp only[PT.run]
   repeat' (with_reducible apply And.intro)
   all_goals (simp only[CE,iI,List.map_nil,iC,iK];refine af1 (kX3 @hl @htk @hn1) ?_;(repeat intro K hK);apply wr)
   all_goals ((refine cc (hrun) ?_))
   all_goals ((refine af ?_);(repeat intro K hK);(apply wr))
   all_goals ((refine cF0 rfl ?_))
   all_goals ((refine af1 (kX3 @hla @hlO @maxLen.eq_1) ?_);(repeat intro K hK);(apply wr))
   all_goals ((refine cF1 @hne rfl ?_))
   all_goals ((refine af1 (kX3 @hl @hdr @hus2) ?_);(repeat intro K hK);(apply wr))
   all_goals
    exact aX (fun x=>if x=2 then 56 else x) (by rw[hI];exact⟨i+1,y,(L.drop us),(acc++O1),by omega,rfl,⟨⟨O2,hT2,by rw[iH,<- hO12];exact hx2⟩,by omega,hyok.1,hyok.2,L8 L us hx6,hx7.drop us,fun e he=>hx8 e (List.mem_of_mem_drop he),by rw[iE];omega⟩,rfl⟩) (kX4 (AA (n:=(i:Int)+1)) @Bc @htl @hdr)
  by_cases h4:400<L.length
  ·have h4':(400:Int)<L.length:=by omega
   refine Ei @h4' ?_;(repeat intro K hK);apply wr;obtain⟨Ij,hIj⟩:∃I:Nat->St->Prop,I=(fun kk ss=>∃(j:Nat)(z:Unit),j<=400/\kk=400-j/\(∀b,L[400]? =some b->∀a,L[400-j]? =some a->a.at_=b.at_)/\ss=⟨113,(10,.int .i64 ((400-j:Nat):Int))::barT L u,3,barO x acc,0⟩):=⟨_,rfl⟩;refine lX Ij (id) (by rw[hIj];exact⟨0,(),by simp,rfl,(fun b hb a ha=>by rw[hb]at ha;cases ha;rfl),rfl⟩) ?_;intro kk ss hIk _;rw[hIj]at hIk;obtain⟨j,z,hj,rfl,hxj,rfl⟩:=hIk;have hj4:j<400:=by
    rcases Nat.lt_or_ge j 400 with q|q
    ·exact q
    exfalso;obtain⟨b,hb,-,-,-⟩:=get_at h4;obtain⟨a,ha,-,-,-⟩:=get_at (show 0<L.length by omega);have h1:=hxj b hb a (by rw[show 400-j=0 by omega];exact ha);have h2:=hx7 0 a b ha hb;omega
   obtain⟨k,hk⟩:∃k,400-j=k+1:=⟨399-j,by omega⟩;rw[hk]at hxj ⊢;obtain⟨a,ha,-,-,-⟩:=get_at (show k<L.length by omega);obtain⟨b,hb,-,-,-⟩:=get_at (show k+1<L.length by omega);have hga:=B7 ha;have hgb:=B7 hb;have hwk:IntKind.i64.wrap (k:Int)=k:=AA;have hk1:k<L.length:=by omega
   have hk2:k+1<L.length:=by omega
   have hk3:(k:Int)<L.length:=by omega
   have hk4:(k:Int)+1<L.length:=by omega
   have hab2:=Hv L k (k+1) a b hx6 ha hb (by omega);refine af1 @hl ?_;(repeat intro K hK);apply wr;refine AD 16 [0,1,3,7,7,31,63,127,7,7,519,1799,3847,7943,16383,32767] [(1,([],[])),(1,([],[])),(1,([],[])),(11,([[],[],[0,1],[0,1,2],[0,1,2,3],[],[],[6],[5,6,7],[5,6,7,8],[5,6,7,8,9]],[])),(1,([],[])),(1,([],[]))] ?_;refine af1 (RQ @hl @hga @hgb @hwk @hk1 @hk2 @hk3 @hk4 (Nn hga) (Nn hgb)) ?_;(repeat intro K hK);apply wr;by_cases hab:b.at_=a.at_
   ·refine Cg @hab @hwk ?_;(repeat intro K hK);apply wr;exact aX (id) (by rw[hIj];exact⟨j+1,(),by omega,rfl,(fun b' hb' a' ha'=>by rw[show 400-(j+1)=k by omega,ha]at ha';cases ha';rw[<- hab];exact hxj b' hb' b hb),rfl⟩) (kX3 (AA (n:=(j:Int)+1)) @hwk ((show 400-(j+1)=k by omega)))
   refine Ac @hab ?_;(repeat intro K hK);apply wr;refine hG (k+1) _ (id) (⟨by omega,by omega,fun _=>⟨a,b,by omega,ha,hb,by omega⟩⟩) ⟨rfl,?_,?_,?_,by simp⟩
   ·simp[leT,ltV,lt1,ren,BE]
   ·simp[leO,lt1,BE]
   (simp;try omega)
  have h4':¬(400:Int)<L.length:=by omega
  refine Ac @h4' ?_;(repeat intro K hK);apply wr;refine hG L.length _ (id) (⟨by omega,by omega,fun q=>by omega⟩) ⟨rfl,?_,?_,?_,by simp⟩
  ·simp[leT,ltV,lt1,ren,BE]
  ·simp[leO,lt1,BE]
  (simp;try omega)
 have hxu:x.count=u:=by omega
 obtain⟨e1,e2,e3⟩:=hx1.fin hxu;rw[e2,iU]at hx2;subst e1 e3 hx2;refine Ac @hlt ?_;(repeat intro K hK);apply wr;obtain⟨Ip,hIp⟩:∃I:Nat->St->Prop,I=(fun kk ss=>∃(p:Nat)(z:MchD),p<=rest.length/\kk=rest.length-p/\(z=(rest.take p).foldl (fun x e=>(applyD x e.ev).1) m1/\OkM z/\mayD z=true)/\ss=⟨113,(16,.int .i64 p)::barT rest u,3,barO z acc,0⟩):=⟨_,rfl⟩;refine lX Ip (id) (by rw[hIp];exact⟨0,m1,by simp,rfl,⟨rfl,hx4,hx5⟩,rfl⟩) ?_;intro kk ss hIk _;rw[hIp]at hIk;obtain⟨p,z,hp,rfl,hxp,rfl⟩:=hIk;obtain⟨hz1,hz2,hz3⟩:=hxp;refine af1 @hl ?_;(repeat intro K hK);apply wr;refine AB rfl (fun hh=>?_) (fun hh=>?_)
 ·simp at hh;obtain⟨e,he,hde,htk,hmem⟩:=get_at hh;have hge:=B7 he;have hap:=dP z e.ev hz2 hz3 (hx8 e hmem).1 (hx8 e hmem).2;have ham:=DX hz2 (e:=e.ev) (hx8 e hmem).1;refine af ?_;(repeat intro K hK);apply wr;refine BH (.node 6 10 (.leaf [0,1,2,3,4,5,6,7,8,9,10,11,12] (bN [0,0,0,6,14,30,63,127,255,255,127,1535,4095]) [(6,([[],[],[],[1,2],[1,2,3],[1,2,3,4]],[])),(1,([],[])),(5,([[],[0],[0],[],[0,1,3]],[])),(1,([],[]))]) (.leaf [0,1,2,3,4,5,10,6,7,8,9,11,12] (bN [0,0,0,6,14,30,0,127,255,511,511,1023,4095]) [(7,([[],[],[],[1,2],[1,2,3],[1,2,3,4],[]],[(0,6),(3,6),(5,6)])),(1,([],[])),(1,([],[])),(3,([[],[],[0]],[])),(1,([],[]))])) (by kernel_rfl) (by kernel_rfl) ?_;simp only[PT.run]
  repeat' (with_reducible apply And.intro)
  all_goals (simp only[CE,iI,List.map_nil,iC,iK];refine af1 (kX4 @hl @hge (Nn hge) @hh) ?_;(repeat intro K hK);apply wr)
  all_goals ((refine cc (hap) ?_))
  all_goals ((refine af ?_);(repeat intro K hK);(apply wr))
  all_goals
   exact aX (id) (by rw[hIp];exact⟨p+1,((applyD z e.ev).1),by omega,rfl,⟨by rw[htk,List.foldl_append,<- hz1];rfl,ham.1,CQ hz2 hz3 e.ev⟩,rfl⟩) (AA (n:=(p:Int)+1))
 simp at hh;rw[HD hh]at hz1;refine af ?_;refine aw ?_;simp[hz1]
def rqD(d:DskD):OutD:=(Ag d 0).1
def foldW(bs:List (List UInt8))(O:List OutD):List (List UInt8):=O.foldl wrB bs
theorem Zc(bs:List (List UInt8))(d:DskD)(t:Int):wrB bs (Ag d t).1=wrB bs (rqD d):=by
 unfold rqD Ag
 (repeat' split)<;>rfl
theorem Li{d:DskD}(h:d.state≠1)(bs:List (List UInt8)):wrB bs (rqD d)=bs:=by
 unfold rqD Ag;rw[if_neg fun q=>h q.1,if_neg fun q=>h q.1];rfl
theorem Vj(bs:List (List UInt8))(x:OutD):wrB (wrB bs x) x=wrB bs x:=by
 by_cases c:x.kind=4/\x.block<bs.length
 ·have e:wrB bs x=bs.set x.block.toNat x.data:=if_pos c;rw[e];unfold wrB;rw[List.length_set,if_pos c,List.set_set]
 have e:wrB bs x=bs:=if_neg c;rw[e,e]
theorem Mj:∀(O:List OutD)(bs:List (List UInt8)),(foldW bs O).length=bs.length
 | [],_=>rfl
 | x::O,bs=>by show(foldW (wrB bs x) O).length=_;rw[Mj O,PK]
theorem Mi(bs:List (List UInt8))(A B:List OutD):foldW bs (A++B)=foldW (foldW bs A) B:=List.foldl_append ..
abbrev aP(x:OutD):Prop:=x.kind=3\/x.kind=4
def DkT(d d':DskD)(o:List OutD):Prop :=
 (rqD d'=rqD d/\(d'.state=1->d.state=1)/\∀x∈o,¬aP x)\/(d.state≠1/\∃x,o=[x]/\aP x/\∀bs,wrB bs x=wrB bs (rqD d'))
structure InvD(d:DskD)(c:Int)(bs B:List (List UInt8)):Prop where
 w:wrB bs (rqD d)=B
 x:d.state=1->c≠0->wrB bs (rqD d)=bs
theorem InvD.step{d d':DskD}{c:Int×Int}{bs B:List (List UInt8)}{o:List OutD}(h:InvD d c.1 bs B)(hT:DkT d d' o):InvD d' (Kw c o).1 bs (foldW B o):=by
 rcases hT with⟨h1,h2,h3⟩|⟨h1,x,rfl,h2,h3⟩
 ·have e1:∀(o:List OutD)(c:Int×Int),(∀x∈o,¬aP x)->Kw c o=c:=by
   intro o;induction o with
   | nil=>intros;rfl
   | cons y o ih =>
    intro c hh;show Kw (SJ c y) o=c;rw[show SJ c y=c from if_neg (hh y (g7 ..))];exact ih c fun x hx=>hh x (gW _ hx)
  have e2:∀(o:List OutD)(B:List (List UInt8)),(∀x∈o,¬aP x)->foldW B o=B:=by
   intro o;induction o with
   | nil=>intros;rfl
   | cons y o ih =>
    intro B hh;show foldW (wrB B y) o=B;rw[show wrB B y=B from if_neg fun q=>hh y (g7 ..) (.inr q.1)];exact ih B fun x hx=>hh x (gW _ hx)
  rw[e1 o c h3,e2 o B h3];exact⟨by rw[h1];exact h.w,fun q=>by rw[h1];exact h.x (h2 q)⟩
 have hB:=h.w;rw[Li h1]at hB;subst hB;exact⟨(h3 _).symm,fun _ q=>absurd (by show(SJ c x).1=0;unfold SJ;rw[if_pos h2]) q⟩
theorem DkT.same(d:DskD){o:List OutD}(h:∀x∈o,¬aP x):DkT d d o:=.inl ⟨rfl,id,h⟩
theorem W9(d:DskD)(l:List Int)(p v t:Int):DkT d (Ak d l p v t).1 (Ak d l p v t).2:=by
 have h0:∀d':DskD,rqD d'=rqD d->(d'.state=1->d.state=1)->DkT d d' []:=fun d' h1 h2=>.inl ⟨h1,h2,by simp⟩;have hI:v=1\/v=2->DkT d (Am d l v t).1 (Am d l v t).2:=fun hv=>by
  unfold Am;by_cases h1:d.state≠0
  ·rw[if_pos h1];exact h0 _ rfl id
  rw[if_neg h1];have h1':d.state=0:=by omega
  split
  ·refine h0 _ ?_ (by simp);unfold rqD Ag;simp[h1']
  refine .inr ⟨by omega,_,rfl,?_,fun bs=>Zc bs _ t⟩;rcases hv with rfl|rfl
  ·exact .inl rfl
  exact .inr rfl
 unfold Ak;by_cases h4:p=4
 ·rw[if_pos h4];exact h0 _ rfl id
 rw[if_neg h4];by_cases h5:p=5
 ·rw[if_pos h5];exact h0 _ rfl id
 rw[if_neg h5];by_cases h6:p=6
 ·rw[if_pos h6];by_cases hv:v=1\/v=2
  ·rw[if_pos hv];exact hI hv
  rw[if_neg hv];split
  ·rename_i q;have hq:=q.2;unfold CL at hq;simp only[Bool.or_eq_true,decide_eq_true_eq]at hq;refine h0 _ ?_ (by simp);unfold rqD Ag;have h2:¬d.state=1:=by omega
   simp[h2]
  exact h0 _ rfl id
 rw[if_neg h6];exact h0 _ rfl id
theorem beginV_dk(m:MchD):(AL m).dk=m.dk:=by unfold AL;split;rfl;split<;>rfl
theorem step_t(m:MchD)(k:Int):DkT m.dk (stepD m k).1.dk (stepD m k).2:=by
 unfold stepD;split
 case isFalse=>exact .same _ (by simp)
 unfold goD;have hE:(CM m).dk=m.dk:=beginV_dk m;show DkT m.dk (BZ (CM m) (GB m) k m.count).1.dk _;rw[<- hE];generalize CM m=a;unfold BZ;split
 ·have:(AO a (GB m).port k).1.dk=a.dk:=by unfold AO;(repeat' split)<;>rfl
  show DkT a.dk (AO a (GB m).port k).1.dk [];rw[this];exact .same _ (by simp)
 split
 ·unfold AH;split
  ·exact .same _ (by simp[aP])
  split
  ·exact .same _ (by simp)
  split
  ·exact W9 ..
  split
  ·refine .same _ fun x hx=>?_;have:x.kind=2:=by
    revert hx;show x∈(AZ _ _ _ _ _).2->_;unfold AZ
    (repeat' split)<;>simp +contextual
   unfold aP;omega
  split
  ·exact .same _ (by simp)
  exact .same _ (by simp)
 split
 ·exact .same _ (by simp)
 split
 ·exact .same _ (by simp)
 exact .same _ (by simp)
theorem VY(r:RecD):(BF r).m.dk=r.m.dk:=by
 unfold BF;split
 ·unfold AW;split
  ·unfold applyD
   (repeat' split)<;>first|rfl|(rename_i h;exact absurd h (by decide))
  rfl
 rfl
theorem VD{c:Int×Int}{bs B:List (List UInt8)}:∀(n:Nat)(r:RecD)(o:List OutD),InvD r.m.dk (Kw c o).1 bs (foldW B o)->InvD (DW n r o).1.m.dk (Kw c (DW n r o).2).1 bs (foldW B (DW n r o).2)
 | 0,r,o,h=>h
 | n+1,r,o,h=>by
  unfold DW;split
  ·show InvD (BF r).m.dk _ _ _;rw[VY];exact h
  refine VD n _ _ ?_;have hT:=step_t (BF r).m (BF r).clock;rw[VY]at hT;have h2:=h.step hT;rw[<- Mi]at h2;have e:Kw (Kw c o) (stepD (BF r).m (BF r).clock).2=Kw c (o++(stepD (BF r).m (BF r).clock).2):=(List.foldl_append ..).symm;rw[e]at h2;exact h2
theorem UW{r:RecD}{c:Int}{bs B:List (List UInt8)}(h:InvD r.m.dk c bs B)(hq:r.queue=[]\/∃e,r.queue=[e]/\e.kind=4/\c≠0)(k:Int):InvD (CX r k).m.dk c bs B:=by
 unfold CX;rcases hq with hq|⟨e,hq,he,hc⟩
 ·rw[hq];exact h
 rw[hq];show InvD (AW {r with clock:=max r.clock k,queue:=[e]} e).m.dk c bs B;unfold AW;split
 case isFalse=>exact h
 rename_i ha;revert ha;show(applyD r.m e).2=true->InvD (applyD r.m e).1.dk c bs B;unfold applyD;split
 ·intro q;cases q
 rw[nG,nG];try rw[if_pos he]
 show(AI r.m.dk r.m.mem e).2.2=true->InvD (AI r.m.dk r.m.mem e).1 c bs B;unfold AI;split
 ·intro q;cases q
 rename_i hs;have hs1:r.m.dk.state=1:=by
  rcases Decidable.em (r.m.dk.state=1)with q|q
  ·exact q
  exact absurd (.inl q) hs
 have hfin:InvD (doneD r.m.dk e.n) c bs B:=by
  have hne:(doneD r.m.dk e.n).state≠1:=by
   show(if e.n=1 then(2:Int)else 3)≠1;split<;>decide
  exact⟨by rw[Li hne,<- h.w,h.x hs1 hc],fun q=>absurd q hne⟩
 (repeat' split)<;>first|(intro _;exact hfin)|(intro q;cases q)
theorem Zl{r:RecD}{c:Int×Int}{bs B:List (List UInt8)}(h:InvD r.m.dk c.1 bs B)(hq:r.queue=[]\/∃e,r.queue=[e]/\e.kind=4/\c.1≠0)(steps clock:Int):InvD (Cv r steps clock).1.m.dk (Kw c (Cv r steps clock).2).1 bs (foldW B (Cv r steps clock).2):=by
 unfold Cv;split
 ·exact VD _ _ [] (UW h hq clock)
 exact h
theorem Iv{r:RepD}(hM:OkM r.rec_.m)(hm:mayD r.rec_.m=true)(hb:EE r=true):OkX (Ao r).1/\∀bs,wrB bs (Ao r).1=wrB bs (rqD r.rec_.m.dk):=by
 have hs:r.rec_.m.dk.state=1:=by
  have:=hb;unfold EE at this;simp at this;exact this.2
 have hd:=((Bz _).1 hm).d;have hE:Ao r=Ag r.rec_.m.dk r.cmdAt:=if_pos hb;rw[hE];refine⟨?_,fun bs=>Zc bs _ _⟩;have hO:=hM.d;unfold dskMay at hd;split at hd
 ·cases hd
 simp[hs]at hd;have hc:=hd.1.1;unfold It at hc;split at hc
 ·rename_i q;have e:Ag r.rec_.m.dk r.cmdAt=(⟨3,r.cmdAt,r.rec_.m.dk.opBlock,[]⟩,true):=if_pos ⟨hs,q⟩;rw[e];exact⟨.inl rfl,fun z=>absurd z (by show ¬(3:Int)=4;decide),hO.e⟩
 rename_i q;split at hc
 ·rename_i q2;have e:Ag r.rec_.m.dk r.cmdAt=(⟨4,r.cmdAt,r.rec_.m.dk.opBlock,r.rec_.m.dk.opData⟩,true):=by unfold Ag;rw[if_neg fun z=>q z.2,if_pos ⟨hs,q2⟩]
  rw[e];exact⟨.inr rfl,fun _=>by simpa using hc,hO.e⟩
 cases hc
theorem evB_v{bs:List (List UInt8)}(hS:OkS bs){x:OutD}(hx:OkX x):OkW1 (evB bs x):=by
 unfold evB;split
 ·exact⟨⟨Ax,by simp⟩,rfl,by decide⟩
 rename_i h1;split
 ·have hz:(bs.getD x.block.toNat []).length=128:=by
   have hb:=hx.b.1;rw[gP,gR (show x.block.toNat<bs.length by omega)];exact hS.b _ (List.getElem_mem _)
  refine⟨⟨⟨by show(0:Int)<=1;omega,by show(1:Int)<_;omega⟩,by show(bs.getD x.block.toNat []).length<=_;omega⟩,?_,by show ¬(4:Int)=1;decide⟩;unfold evVal;simp;exact .inr (by rw[<- gP];exact hz)
 exact⟨⟨⟨by show(0:Int)<=1;omega,by show(1:Int)<_;omega⟩,by simp⟩,rfl,by decide⟩
def OutQ(x:OutD):Prop:=W32 x.block/\x.data.length<=128
theorem QB(l:List Int)(f:Int):(Bh l f).length<=128:=by
 have h4:∀z:List Int,(z.flatMap B1).length=4*z.length:=by
  intro z;induction z with
  | nil=>rfl
  | cons a z ih=>rw[List.flatMap_cons,gV,ih];simp[B1];omega
 unfold Bh;rw[h4,iE,iD];omega
theorem YS{m:MchD}(hM:OkM m)(k:Int):∀x∈(stepD m k).2,OutQ x:=by
 have hi:∀(d:DskD)(l:List Int)(c t:Int),W32 d.block->∀x∈(Am d l c t).2,OutQ x:=fun d l c t hd=>by
  unfold Am;split
  ·simp
  split
  ·simp
  intro x hx;rw[List.mem_singleton.1 hx];unfold Ag;have hp:=QB l d.frame
  (repeat' split)<;>first|exact⟨hd,hp⟩|exact⟨hd,by simp⟩|exact⟨Ax,by simp⟩
 have hd:∀(d:DskD)(l:List Int)(p v t:Int),W32 d.block->∀x∈(Ak d l p v t).2,OutQ x:=fun d l p v t hd=>by
  unfold Ak
  (repeat' split)<;>first|exact hi _ _ _ _ hd|simp
 have hn:∀(n:NicD)(l:List Int)(p v t:Int),∀x∈(AZ n l p v t).2,OutQ x:=fun n l p v t=>by
  unfold AZ;have hp:=QB l n.frame
  (repeat' split)<;>(intro x hx;simp at hx)<;>(rw[hx];exact⟨Ax,by show(List.take _ _).length<=_;rw[iD];omega⟩)
 unfold stepD;split
 case isFalse=>simp
 unfold goD;show ∀x∈(BZ (CM m) (GB m) k m.count).2,OutQ x;have hE:(CM m).dk=m.dk:=beginV_dk m;have hb:W32 (CM m).dk.block:=by rw[hE];exact hM.d.b
 unfold BZ AH
 (repeat' split)<;>first|exact hd _ _ _ _ _ hb|exact hn _ _ _ _ _|simp
 exact⟨Ax,by show(1:Nat)<=128;decide⟩
theorem VH:∀(n:Nat){r:RecD}{k:Nat}(o:List OutD),OkR r k->(∀x∈o,OutQ x)->∀x∈(DW n r o).2,OutQ x
 | 0,r,k,o,h,ho=>ho
 | n+1,r,k,o,h,ho=>by
  obtain⟨h1,-⟩:=h.tick;unfold DW;split
  ·exact ho
  refine VH n _ h1.go fun x hx=>?_;rcases List.mem_append.1 hx with q|q
  ·exact ho x q
  exact YS h1.m _ x q
theorem Zo{r:RecD}(hR:OkR r 0){clock:Int}(hc:W32 clock)(steps:Int):∀x∈(Cv r steps clock).2,OutQ x:=by
 unfold Cv;split
 ·exact VH _ [] (hR.queue hc) (by simp)
 simp
theorem OkF.rel{a:RepD}{i:Nat}(h:OkF a i)(c:Int):OkF {a with gate:=(GL a.gate a.out.known).1,cmd:=c} i:=by
 have hl:=Ol a.gate a.out.known;have hg:=h.g;refine⟨h.role,h.host,h.gen,h.m,h.may,h.c,h.l,h.q,h.p,h.pl,h.oq,h.b1,h.b2,h.ot,h.ok,h.e,h.h,h.hv,by show(GL a.gate a.out.known).1.held.length<=_;omega,h.bt,h.wd,h.ws,?_⟩;show L64 (GL a.gate a.out.known).1.acked;unfold GL;split
 ·show L64 a.out.known;rw[h.ok];exact DZ h.m
 exact h.ga
theorem OkF.cmdf{a:RepD}{i:Nat}(h:OkF a i)(c:Int):OkF {a with cmd:=c} i:=⟨h.role,h.host,h.gen,h.m,h.may,h.c,h.l,h.q,h.p,h.pl,h.oq,h.b1,h.b2,h.ot,h.ok,h.e,h.h,h.hv,h.g,h.bt,h.wd,h.ws,h.ga⟩
theorem OkF.q0{a:RepD}{i:Nat}(h:OkF a i):F5 a []=a:=by
 have:=h.q;obtain⟨x1,x2,x3,⟨m,k,g,q⟩,d⟩:=a;simp only at this;subst this;rfl
theorem OkF.pp{a:RepD}{i:Nat}(h:OkF a i)(hi:i<=100):OkP a 40000:=by
 have:=(h.okP (q:=[]) hi (by simp) (by simp)).up (show 400<=40000 by omega);rw[h.q0]at this;exact this
structure OkDk(M:MchD)(a b:RepD)(bs:List (List UInt8))(q:List EvD)(i:Nat):Prop where
 fa:OkF a i
 fb:OkBk b a.out.base a.rec_.m a.hist i
 bt:b.beats=i
 bh:b.host=1/\b.gen=1/\b.watch=⟨1,0,i⟩/\W32 b.rpl.clock
 rb:∃O,Rb M a.hist O a.rec_.m/\O.length<=64*i/\InvD a.rec_.m.dk a.cmd bs (foldW blocksA O)/\∀x∈O,OutQ x
 c:∀p,cntP p a.hist<=3*i
 s:OkS bs
 q:q=[]\/∃e,q=[e]/\OkW1 e/\e.kind=4/\a.cmd≠0
theorem disk0{M:MchD}(hM:OkM M)(hm:mayD M=true)(hs:M.dk.state=0):OkDk M (Dz 0 M 1 1) (GP 1 M 1 1) blocksA [] 0:=by
 refine⟨ZU hM hm (by decide),Yl hM hm (by decide),rfl,⟨rfl,rfl,rfl,Ax⟩,⟨[],Rb.nil M,by simp,⟨?_,fun q=>?_⟩,by simp⟩,fun p=>by simp[Dz,FK,cntP],⟨GR,by simp[blocksA],by simp[blocksA]⟩,.inl rfl⟩
 ·exact Li (by rw[show(Dz 0 M 1 1).rec_.m.dk=M.dk from rfl,hs];decide) _
 rw[show(Dz 0 M 1 1).rec_.m.dk=M.dk from rfl,hs]at q;cases q
theorem OkDk.round{M:MchD}{a b:RepD}{bs:List (List UInt8)}{q:List EvD}{i:Nat}(h:OkDk M a b bs q i)(hi:i<40)(steps:Int)(hs:DC (stp steps)<=30){clock:Int}(hc:W32 clock):
  ∃a1 a2 L bs' b3 b4 M' sa,AC prog 7 [.st (F5 a q).row,iv steps,uv clock] (.st (RepD.row a1))/\AC prog 9 [.st a1.row] (.tup [.st (RepD.row a2),.sl 1 false (strs L)])/\L.length<=2/\bs' 0=b/\Yi L bs' /\
   AC prog 7 [.st (bs' L.length).row,iv 64,uv 0] (.st (RepD.row b3))/\AC prog 9 [.st b3.row] (.tup [.st (RepD.row b4),.sl 1 false (strs M')])/\M'.length=2/\sa 0=a2/\Yi M' sa /\
   OkDk M (sa 2) b4 bs [] (i+1):=by
 have hA:=h.fa;have hql:q.length<=1:=by rcases h.q with z|⟨e,z,-⟩<;>rw[z]<;>simp
 have hqv:∀e∈q,OkW1 e:=by
  rcases h.q with z|⟨e,z,he,-⟩<;>rw[z]
  ·simp
  intro x hx;rw[List.mem_singleton.1 hx];exact he
 obtain⟨a1,a2,L,bs',b3,b4,M',sa,r,o,hadv,m1,m2,m3,m4,m5,m6,m7,m8,m9,m10,kA,kB,kt,⟨kh1,kh2,kh3,kh4⟩,k1,k2,k3⟩:=eA hA h.fb h.bt (by omega) hql hqv steps hs hc;obtain⟨O,rb1,rb2,rb3,rb4⟩:=h.rb;have hR:OkR {a.rec_ with queue:=q} 0:=⟨hA.m,hA.c,by show a.rec_.log.length<=0;rw[hA.l];simp,by show q.length<=_;omega,fun e he=>(hqv e he).v,by show ∀e∈a.rec_.log,_;rw[hA.l];simp⟩;have hB:=Zk (r:={a.rec_ with queue:=q}) rb1 hA.l hR hA.may (fun e he=>(hqv e he).k) hc (stp steps);have hN:=fun p=>SZ hR hA.may hA.l hc (stp steps) p;have hU:=Zo hR hc (stp steps);have hO:=F8 {a.rec_ with queue:=q} (stp steps) clock;have hst:0<=stp steps/\stp steps<=64:=by unfold stp;omega
 have hlim:DC (stp steps)<=64:=by unfold DC;omega
 have hI:=Zl (r:={a.rec_ with queue:=q}) (c:=(a.cmd,a.cmdAt)) rb3 (by rcases h.q with z|⟨e,z,-,z2,z3⟩;exact .inl z;exact .inr ⟨e,z,z2,z3⟩) (stp steps) clock;rw[hadv]at hB hN hO hI hU;simp only at hB hN hO hI hU;refine⟨a1,a2,L,bs',b3,b4,M',sa,m1,m2,m3,m4,m5,m6,m7,m8,m9,m10,kA,kB,kt,⟨by rw[kh1];exact h.bh.1,by rw[kh2];exact h.bh.2.1,by rw[kh3,h.bh.2.2.1];rfl,kh4 h.bh.2.2.2⟩,⟨O++o,?_,by rw[gV];omega,?_,fun x hx=>?_⟩,fun p=>?_,h.s,.inl rfl⟩
 ·rw[k1,k2];exact hB
 ·rw[k1,k3,Mi];refine⟨hI.w,fun z1 z2=>?_⟩;rw[if_pos z1]at z2;exact hI.x z1 z2
 ·rcases List.mem_append.1 hx with z|z
  ·exact rb4 x z
  exact hU x z
 rw[k2,G8];have:=h.c p;have:=hN p;omega
theorem OkDk.rel{M:MchD}{a b:RepD}{bs:List (List UInt8)}{i:Nat}(h:OkDk M a b bs [] i)(hi:i<=40):
  ∃a' bs' R,AC prog 17 [.st a.row,BR bs 1 0] (.tup [.st (RepD.row a'),BR bs' 1 0,.sl 5 false R])/\OkDk M a' b bs' [] i:=by
 have hA:=h.fa;have hP:=hA.pp (by omega);obtain⟨O,rb1,rb2,rb3,rb4⟩:=h.rb;by_cases hd:dueR a=true
 ·have hd':=hd;unfold dueR at hd';simp only[gX,decide_eq_true_eq]at hd';obtain⟨⟨hb,hcm⟩,hx⟩:=hd';obtain⟨x1,x2⟩:=Iv hA.m hA.may hb;have hr:=Uj a bs 0 a.out.known 1 h.s hA.gen ⟨by decide,by decide⟩ (by decide) x1 hP hb hcm (.inr ⟨hA.role,rfl,hx⟩);refine⟨_,_,_,hr,hA.rel 1,h.fb,h.bt,h.bh,⟨O,rb1,rb2,⟨?_,fun _ _=>?_⟩,rb4⟩,h.c,h.s.wr x1.d,.inl rfl⟩
  ·show wrB (wrB bs (Ao a).1) (rqD a.rec_.m.dk)=_;rw[x2,Vj];exact rb3.w
  show wrB (wrB bs (Ao a).1) (rqD a.rec_.m.dk)=wrB bs (Ao a).1;rw[x2,Vj]
 have hr:=dW a bs 1 0 (by have:=h.s.h2;omega) hP hA.role (by simpa using hd);exact⟨_,_,_,hr,hA.rel a.cmd,h.fb,h.bt,h.bh,⟨O,rb1,rb2,rb3,rb4⟩,h.c,h.s,.inl rfl⟩
theorem OkDk.comp{M:MchD}{a b:RepD}{bs:List (List UInt8)}{i:Nat}(h:OkDk M a b bs [] i)(hi:i<=40):
  ∃a' q c,AC prog 18 [.st a.row,BR bs 1 0] (.tup [.st (RepD.row (F5 a' q)),.bool c])/\OkDk M a' b bs q i:=by
 have hA:=h.fa;have hP:=hA.pp (by omega);obtain⟨O,rb1,rb2,rb3,rb4⟩:=h.rb;by_cases hd:EE a=true/\a.cmd=1
 ·obtain⟨hb,hcm⟩:=hd;obtain⟨x1,x2⟩:=Iv hA.m hA.may hb;have hv:=evB_v h.s x1;have hr:=W5 a bs 0 1 h.s hA.gen ⟨by decide,by decide⟩ (by decide) x1 hP hb hcm hA.q hv.ok;have hk:(evB bs (Ao a).1).kind=4:=by unfold evB;(repeat' split)<;>rfl
  have hx:=rb3.x;exact⟨{a with cmd:=2},_,_,hr,hA.cmdf 2,h.fb,h.bt,h.bh,⟨O,rb1,rb2,⟨rb3.w,fun z _=>hx z (by rw[hcm];decide)⟩,rb4⟩,h.c,h.s,.inr ⟨_,rfl,hv,hk,by show(2:Int)≠0;decide⟩⟩
 have hr:=W4 a bs 1 0 hP hd;refine⟨a,[],false,?_,h⟩;rw[hA.q0];exact hr
theorem XC{x:RepD}{bs:List (List UInt8)}{O:List OutD}(hro:x.role=3)(hgen:x.gen=2)(hc0:x.cmd=0)(hP:OkP x 40000)(hM:OkM x.rec_.m)(hm:mayD x.rec_.m=true)(hS:OkS bs)(hw:wrB bs (rqD x.rec_.m.dk)=foldW blocksA O):
  ∃x' R,AC prog 17 [.st x.row,BR bs 2 1] (.tup [.st (RepD.row x'),BR (foldW blocksA O) 2 1,.sl 5 false R])/\x'.role=3/\x'.rec_=x.rec_/\x'.hist=x.hist:=by
 by_cases hb:EE x=true
 ·obtain⟨x1,x2⟩:=Iv hM hm hb;have hr:=Uj x bs 1 x.rec_.m.count 2 hS hgen ⟨by decide,by decide⟩ (by decide) x1 hP hb hc0 (.inl ⟨hro,rfl⟩);rw[x2,hw]at hr;exact⟨_,_,hr,hro,rfl,rfl⟩
 have hr:=dU x bs 2 1 (by have:=hS.h2;omega) hP hro (by simpa using hb);have hn:x.rec_.m.dk.state≠1:=fun z=>hb (by unfold EE GF;rw[hro,z];rfl);rw[Li hn]at hw;rw[<- hw];exact⟨_,_,hr,hro,rfl,rfl⟩
theorem WR{m0 m:MchD}{H:List EntD}{O:List OutD}(hM:OkM m0)(hm:mayD m0=true)(hR:Rb m0 H O m)(hmm:mayD m=true)(hO:O.length<=10000)(hH:H.length<=20000)(hc:∀p,cntP p H<=400)(hv:∀e∈H,OkV e.ev):
  AC prog 13 [.st m0.row,Bo H,lv m.count] (.tup [.st m.row,.sl 4 false (outs O),.bool true]):=by
 have hu:=((Bz _).1 hmm).n;have ho:=hR.ord;obtain⟨m1,rest,h1,h2,-⟩:=hR;have:=Xl m0 m1 H rest O m.count hM hm h1 hu hO hH ho (spr_of ho hc) (fun e he=>⟨(hv e he).n,(hv e he).d⟩);rwa[show rest.foldl (fun x e=>(applyD x e.ev).1) m1=m from h2]at this
theorem take2d{r r':RepD}{bs:List (List UInt8)}(hgen:r.gen=1)(hho:r.host=1)(h:OkP r 40000)(hro:r.role=2)(hd:detD r.watch)(hs:r.watch.silent=r.watch.limit)(hS:OkS bs)
  (hov:AC prog 40 [.st (RepD.row {r with gen:=2})] (.st r'.row)):AC prog 12 [.st r.row,BR bs 1 0] (.tup [.st r'.row,BR bs 2 1]):=by
 have:=YW r r' bs 0 h hro hd hs (by rw[hho];decide) (by rw[hgen];exact⟨by decide,by decide⟩) (by decide) hS.b hS.h1 hS.h2 (by rw[hgen];exact hov);rw[hgen,hho]at this;exact this
theorem OkDk.fin{M:MchD}{a b:RepD}{bs:List (List UInt8)}{q:List EvD}{k:Nat}(h:OkDk M a b bs q k)(hk:k<=40)(hM:OkM M)(hm:mayD M=true):
  ∃b1 b2 x R O,AC prog 11 [.st b.row] (.st (RepD.row b1))/\AC prog 12 [.st b1.row,BR bs 1 0] (.tup [.st (RepD.row b2),BR bs 2 1]) /\
   AC prog 17 [.st b2.row,BR bs 2 1] (.tup [.st (RepD.row x),BR (foldW blocksA O) 2 1,.sl 5 false R])/\x.role=3 /\
   AC prog 13 [.st M.row,Bo x.hist,lv x.rec_.m.count] (.tup [.st x.rec_.m.row,.sl 4 false (outs O),.bool true])/\O.length<=10000/\(∀y∈O,OutQ y)/\x.rec_.m.mem.length<=100000:=by
 have hA:=h.fa;have hB:=h.fb;obtain⟨O,rb1,rb2,rb3,rb4⟩:=h.rb;obtain⟨w1,w2,w3,w4⟩:=h.bh;have hPb:=hB.okP (by omega) hA.h;have ht:=Y1 b hPb (.inr hB.role) hB.wd;have e1:Hz b.watch=⟨1,1,k⟩:=by rw[w3];exact if_pos (by show(0:Int)<1;decide)
 rw[e1]at ht;have hP1:OkP {b with watch:=⟨1,1,k⟩} 40000:=⟨hPb.c,hPb.p,hPb.pl,hPb.g,hPb.o,hPb.on,hPb.i,hPb.en,hPb.h⟩;have hj:=hB.j;have hll:=hB.ll;have hov:=XT {b with watch:=⟨1,1,k⟩,gen:=2} hj.j.m hj.may (by show b.rpl.m.count=b.rpl.known;rw[hj.c,hj.k]) hj.v (by show b.rpl.log.length<=_;omega);have htk:=take2d (r:={b with watch:=⟨1,1,k⟩}) w2 w1 hP1 hB.role ⟨by show(1:Int)<=1;decide,by show(1:Int)<=20;decide,by show(0:Int)<=1;decide,by show(1:Int)<=1;decide⟩ rfl h.s hov;have em:(RS {b with watch:=⟨1,1,k⟩,gen:=2}).rec_.m=a.rec_.m:=hj.a;have hP2:OkP (RS {b with watch:=⟨1,1,k⟩,gen:=2}) 40000:=⟨⟨by rw[em];exact hA.m,w4,by show([]:List EntD).length<=_;simp,by show([]:List EvD).length<=_;simp,by show ∀e∈([]:List EvD),_;simp,by show ∀e∈([]:List EntD),_;simp⟩,Vm,by show([]:List EntD).length<=_;simp,hPb.g,hPb.o,hPb.on,hPb.i,hPb.en,hPb.h⟩;have eh:(RS {b with watch:=⟨1,1,k⟩,gen:=2}).hist=a.hist:=hB.h;obtain⟨x,R,hr,x1,x2,x3⟩:=XC (x:=RS {b with watch:=⟨1,1,k⟩,gen:=2}) (bs:=bs) (O:=O) rfl rfl rfl hP2 (by rw[em];exact hA.m) (by rw[em];exact hA.may) h.s (by rw[em];exact rb3.w);have hh:=hA.h;have hba:=WR hM hm rb1 hA.may (by omega) (by omega) (fun p=>by have:=h.c p;omega) hA.hv;refine⟨_,_,x,R,O,ht,htk,hr,x1,?_,by omega,rb4,?_⟩
 ·rw[x2,x3,em,eh];exact hba
 rw[x2,em];have:=hA.m.n;omega
def QZ(s:List UInt8×List (List UInt8)×List (List UInt8))(x:OutD):List UInt8×List (List UInt8)×List (List UInt8) :=
 if x.kind=1 then(s.1++x.data,s.2.1,s.2.2)else if x.kind=2 then(s.1,s.2.1++[x.data],s.2.2)else(s.1,s.2.1,wrB s.2.2 x)
theorem Q0:∀(O:List OutD)(s:List UInt8×List (List UInt8)×List (List UInt8)),(O.foldl QZ s).2.2=foldW s.2.2 O
 | [],_=>rfl
 | x::O,s=>by
  show(O.foldl QZ (QZ s x)).2.2=foldW (wrB s.2.2 x) O;rw[Q0 O];congr 1;unfold QZ;split
  ·rename_i h;exact(if_neg fun q=>by have:=q.1;omega).symm
  split
  ·rename_i h;exact(if_neg fun q=>by have:=q.1;omega).symm
  rfl
theorem see_ok(bs:List (List UInt8))(O:List OutD)(hb:bs.length<=64)(hO:O.length<=10000)(hq:∀x∈O,OutQ x)(R:List UInt8×List (List UInt8)×List (List UInt8))(hR:O.foldl QZ ([],[],bs)=R):
  AC prog 19 [.sl 1 false (strs bs),.sl 4 false (outs O)] (.st [.str R.1,.sl 1 false (strs R.2.1),.sl 1 false (strs R.2.2)]):=by
 have hl:=BV bs;have hlo:=BA O;have hm:(strs bs).length<=maxLen:=by rw[hl];simp[maxLen];omega
 refine sY func19 ntmps19 (kX2 @hl @hm) ?_;refine au ?_;intros;apply wr;refine AT 6 5 1 (by decide) rfl ?_;refine Im 3 1 9 1 (by decide) rfl rfl rfl rfl ?_;simp;obtain⟨I,hI⟩:∃I:Nat->St->Prop,I=(fun kk ss=>∃(i:Nat)(c:List UInt8)(fr:List (List UInt8))(B:List (List UInt8)),i<=O.length/\kk=O.length-i/\((O.take i).foldl QZ ([],[],bs)=(c,fr,B)/\c.length<=128*i/\fr.length<=i/\B.length=bs.length)/\ss=⟨74,[(7,.int .i64 i),(6,.own 4),(5,.ptr 3 3 0 0),(4,.ptr 0 3 0 0),(1,.sl 4 false (outs O))],6,[(0,some ⟨89,3,true,false,[[.str [],.sl 0 true [],.sl 0 true []]]⟩),(2,some ⟨9,1,false,false,strs B⟩),(3,some ⟨89,3,true,false,[[.str [],.own 5,.own 2]]⟩),(4,some ⟨5,1,false,false,AM c⟩),(5,some ⟨9,1,false,false,strs fr⟩)],0⟩):=⟨_,rfl⟩;refine lX I (id) (by rw[hI];exact⟨0,[],[],bs,by simp,rfl,⟨rfl,by simp,by simp,rfl⟩,rfl⟩) ?_;intro kk ss hIk _;rw[hI]at hIk;obtain⟨i,c,fr,B,hi,rfl,hx,rfl⟩:=hIk;obtain⟨hx1,hx2,hx3,hx4⟩:=hx;have hw:IntKind.i64.wrap ((i:Int)+1)=((i+1:Nat):Int):=by rw[AA];omega
 have hBl:=BV B;have hfl:=BV fr;have hcl:(AM c).length=c.length:=by simp[AM]
 refine au1 @hlo ?_;intros;apply wr;refine AB rfl (fun hh=>?_) (fun hh=>?_)
 ·simp at hh;obtain⟨x,hx,-,htk,hmem⟩:=get_at (show i<O.length by omega);have hgo:=Em hx;obtain⟨hxb,hxd⟩:=hq x hmem;have hfold:(O.take (i+1)).foldl QZ ([],[],bs)=QZ (c,fr,B) x:=by rw[htk,List.foldl_append,hx1];rfl
  have hca:(AM c).length+x.data.length<=maxLen:=by rw[hcl];simp[maxLen];omega
  have hcap:AM c++AM x.data=AM (c++x.data):=by simp[AM]
  have hfm:(strs fr).length+1<=maxLen:=by rw[hfl];simp[maxLen];omega
  have hf16:(fr.length+1)*16<=140737488355328:=by omega
  have hone:=Q8 fr x.data;have e1:IntKind.u64.wrap x.block=x.block:=by have:=hxb.2;have:=hxb.1;rw[IntKind.wrap_u64];omega
  have e2:IntKind.u64.wrap (B.length:Int)=B.length:=by rw[IntKind.wrap_u64];omega
  have hge:∀c' fr' B',QZ (c,fr,B) x=(c',fr',B')->(O.take (i+1)).foldl QZ ([],[],bs)=(c',fr',B'):=fun _ _ _ h=>hfold.trans h;refine au1 (kX2 @hlo @hgo) ?_;intros;apply wr;by_cases k1:x.kind=1
  ·refine DI @k1 (kX5 @hlo @hgo @hca @hcap @hw) ?_;intros;apply wr;exact aX (fun z=>if z=4 then 6 else z) (by rw[hI];exact⟨i+1,(c++x.data),fr,B,by omega,rfl,⟨hge _ _ _ (if_pos k1),by rw[gV];omega,by omega,hx4⟩,rfl⟩) (kX3 (AA (n:=(i:Int)+1)) @hw @hcap)
  refine BU @k1 ?_;intros;apply wr;by_cases k2:x.kind=2
  ·refine ED @k2 ?_;intros;apply wr;refine AD 11 [0,1,0,0,12,28,60,124,255,511,1023] [(8,([[],[0],[],[],[2,3],[2,3,4],[2,3,4,5],[2,3,4,5,6]],[(1,7)])),(1,([],[])),(1,([],[])),(1,([],[]))] ?_;refine af1 (kX6 @hlo @hgo @hfm @hf16 @hone @hfl) ?_;refine af1 (kX3 @hlo @hgo @hw) ?_;intros;apply wr;exact aX (fun z=>if z=5 then 7 else z) (by rw[hI];exact⟨i+1,c,(fr++[x.data]),B,by omega,rfl,⟨hge _ _ _ (by unfold QZ;rw[if_neg k1,if_pos k2]),by omega,by rw[gV];simp;omega,hx4⟩,rfl⟩) (kX3 (AA (n:=(i:Int)+1)) @hw @hone)
  have hS3:QZ (c,fr,B) x=(c,fr,wrB B x):=by unfold QZ;rw[if_neg k1,if_neg k2]
  refine Ac @k2 ?_;intros;apply wr;by_cases k4:x.kind=4
  ·refine Ei @k4 ?_;intros;apply wr;refine AD 11 [0,0,3,7,15,31,0,64,192,448,1023] [(10,([[],[],[0,1],[0,1,2],[0,1,2,3],[0,1,2,3,4],[],[6],[6,7],[6,7,8]],[])),(1,([],[]))] ?_;refine af1 (kX5 @hlo @hgo @hBl @e1 @e2) ?_;intros;apply wr;by_cases k5:x.block<(B.length:Int)
   ·obtain⟨n,hn⟩:∃n:Nat,x.block=n:=⟨x.block.toNat,by have:=hxb.1;omega⟩;have hnl:n<B.length:=by omega
    obtain⟨y,hy,-,-,-⟩:=get_at hnl;have hgy:=E5 hy;have hst:=Q9 B n x.data;have hW:wrB B x=B.set n x.data:=by unfold wrB;rw[if_pos ⟨k4,k5⟩,hn];rfl
    refine cT1 @k5 rfl ?_;refine AD 14 [0,1,0,0,12,28,60,0,0,384,896,1920,4095,8191] [(12,([[],[0],[],[],[2,3],[2,3,4],[2,3,4,5],[],[],[7,8],[7,8,9],[7,8,9,10]],[])),(1,([],[])),(1,([],[]))] ?_;refine af1 (kX8 @hlo @hgo @hBl @hn @hnl @fL @hst @hw) ?_;intros;apply wr;exact aX (id) (by rw[hI];exact⟨i+1,c,fr,(B.set n x.data),by omega,rfl,⟨hge _ _ _ (by rw[hS3,hW]),by omega,by omega,by rw[List.length_set];exact hx4⟩,rfl⟩) (kX3 (AA (n:=(i:Int)+1)) @hw @hst)
   have hW:wrB B x=B:=if_neg fun q=>k5 q.2;refine Cw @k5 @hw ?_;intros;apply wr;exact aX (id) (by rw[hI];exact⟨i+1,c,fr,B,by omega,rfl,⟨hge _ _ _ (by rw[hS3,hW]),by omega,by omega,hx4⟩,rfl⟩) (kX2 (AA (n:=(i:Int)+1)) @hw)
  have hW:wrB B x=B:=if_neg fun q=>k4 q.1;refine Cw @k4 @hw ?_;intros;apply wr;exact aX (id) (by rw[hI];exact⟨i+1,c,fr,B,by omega,rfl,⟨hge _ _ _ (by rw[hS3,hW]),by omega,by omega,hx4⟩,rfl⟩) (kX2 (AA (n:=(i:Int)+1)) @hw)
 simp at hh;rw[iZ (by omega),hR]at hx1;subst hx1;refine af1 (kX2 (Dk c) (Dl c)) ?_;refine aw ?_;simp
end Go.Proofs.YtjkmhmepljamoaaGreat
end
