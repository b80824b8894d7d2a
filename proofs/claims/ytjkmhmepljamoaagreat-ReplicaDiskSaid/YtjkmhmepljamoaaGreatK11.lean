/- A part of the proof of ReplicaDisk. -/
import Derived.Test.YtjkmhmepljamoaaGreatK10
set_option linter.all false
set_option maxHeartbeats 16000000
set_option maxRecDepth 100000
section
namespace Go.Proofs.YtjkmhmepljamoaaGreat.As
open Go.Ab Go.RowKit Tryz
abbrev Tok:=Int×Str×Bool
def Di(c:UInt8):Bool:=SN c||RD c||decide (c.toNat=95)
def VO(c:UInt8):Bool:=decide (c.toNat=44)||decide (c.toNat=58)||decide (c.toNat=40)||decide (c.toNat=41)||decide (c.toNat=46)
def Oz(g:Bool):Str->Option (List Tok)
 | []=>some []
 | c::s =>
  if c.toNat=32 then Oz true s
  else if SN c=true then(Oz false (s.dropWhile Di)).map ((1,c::s.takeWhile Di,g)::·)
  else if RD c=true\/c.toNat=45 then(Oz false (s.dropWhile Di)).map ((2,c::s.takeWhile Di,g)::·)
  else if VO c=true then(Oz false s).map ((3,[c],g)::·)
  else none
termination_by s=>s.length
decreasing_by
 all_goals simp
 all_goals (have:=(List.dropWhile_suffix (l:=s) Di).length_le;omega)
theorem fQ(g:Bool):Oz g []=some []:=by rw[Oz]
theorem Y5(g:Bool)(c:UInt8)(s:Str):Oz g (c::s)=if c.toNat=32 then Oz true s
  else if SN c=true then(Oz false (s.dropWhile Di)).map ((1,c::s.takeWhile Di,g)::·)
  else if RD c=true\/c.toNat=45 then(Oz false (s.dropWhile Di)).map ((2,c::s.takeWhile Di,g)::·)
  else if VO c=true then(Oz false s).map ((3,[c],g)::·)
  else none:=by rw[Oz]
abbrev tokV(t:Tok):List V:=[.int .i64 t.1,.str t.2.1,.bool t.2.2]
def Ct(l:List Tok):List (List V):=l.map tokV
@[simp] theorem toksV_nil:Ct []=[]:=rfl
theorem N4(l:List Tok):(Ct l).length=l.length:=by simp[Ct]
theorem Jf(l:List Tok)(k:Int)(t:Str)(g:Bool):Ct l++[[.int .i64 k,.str t,.bool g]]=Ct (l++[(k,t,g)]):=by simp[Ct]
theorem Lq(P:UInt8->Bool):∀x:Str,x.take (x.takeWhile P).length=x.takeWhile P/\x.drop (x.takeWhile P).length=x.dropWhile P/\(x.takeWhile P).length<=x.length/\(∀j,j<(x.takeWhile P).length->P (x.getD j 0)=true)/\((x.takeWhile P).length<x.length->P (x.getD (x.takeWhile P).length 0)=false)
 | []=>by simp
 | c::x=>by
  obtain⟨h1,h2,h3,h4,h5⟩:=Lq P x;by_cases hc:P c=true
  ·simp only[List.takeWhile_cons,List.dropWhile_cons,hc,if_true,iO,List.take_succ_cons,List.drop_succ_cons,h1,h2,true_and];refine⟨by omega,fun j hj=>?_,fun h=>?_⟩
   ·cases j with
    | zero=>simpa using hc
    | succ j=>simpa using h4 j (by omega)
   simpa using h5 (by omega)
  simp[List.takeWhile_cons,List.dropWhile_cons,hc]
theorem OT{l:List Tok}{t:Tok}{o:Option (List Tok)}:(o.map (t::·)).map (l++·)=o.map ((l++[t])++·):=by
 cases o<;>simp
set_option maxHeartbeats 32000000 in
theorem V1(s:Str)(L:List Tok)(hsl:s.length<=1000000)(h0:Oz true s=some L):AC prog 217 [.str s] (.tup [.sl 3 false (Ct L),.bool true]):=by
 refine sX func217 ntmps217 ?_;intros;apply wr;refine AT 4 345 3 (by decide) rfl ?_;obtain⟨I,hI⟩:∃I:Nat->St->Prop,I=(fun kk ss=>∃(i:Nat)(p:Nat)(g:Bool)(l:List Tok),i<=s.length/\kk=s.length-i/\(i<=p/\p<=s.length/\some L=(Oz g (s.drop p)).map (l++·)/\l.length<=p)/\ss=⟨131,[(6,.int .i64 p),(5,.bool g),(4,.own 0),(0,.str s)],1,[(0,some ⟨345,3,false,false,Ct l⟩)],0⟩):=⟨_,rfl⟩;refine lX I (id) (by rw[hI];exact⟨0,0,true,[],by simp,rfl,⟨g8 _,Nat.zero_le _,by simp[h0],g8 _⟩,rfl⟩) ?_;intro kk ss hIk _;rw[hI]at hIk;obtain⟨i,p,g,l,hi,rfl,hx,rfl⟩:=hIk;obtain⟨hip,hpl,hx,hll⟩:=hx;have htl:=N4 l;have hmx:(Ct l).length+1<=maxLen:=by rw[htl];simp[maxLen];omega
 have hm3:(l.length+1)*40<=140737488355328:=by omega
 have hw:IntKind.i64.wrap ((p:Int)+1)=(p:Int)+1:=AA;refine au ?_;intros;apply wr;by_cases hp:p<s.length
 ·obtain⟨c,hc⟩:∃c,c=s.getD p 0:=⟨_,rfl⟩;have hcc:s[p]?.getD 0=c:=by rw[hc,gP]
  have hdr:s.drop p=c::s.drop (p+1):=by rw[List.drop_eq_getElem_cons hp,hc,gP,gR hp];rfl
  rw[hdr,Y5]at hx;refine DI @hp @hcc ?_;intros;apply wr;by_cases h32:c.toNat=32
  ·rw[if_pos h32]at hx;refine DI @h32 @hw ?_;intros;apply wr;exact aX (id) (by rw[hI];exact⟨i+1,(p+1),true,l,by omega,rfl,⟨by omega,by omega,hx,by omega⟩,rfl⟩) (kX2 (AA (n:=(i:Int)+1)) @hw)
  rw[if_neg h32]at hx;have h32':¬((c.toNat:Int)=32):=by omega
  refine BU @h32' ?_;refine cX (Dw c) ?_;intros;apply wr;by_cases hlt1:SN c=true
  ·rw[if_pos hlt1]at hx;refine ED @hlt1 ?_;intros;apply wr;obtain⟨h1,h2,h3,h4,h5⟩:=Lq Di (s.drop p);obtain⟨k,hk⟩:∃k,k=((s.drop p).takeWhile Di).length:=⟨_,rfl⟩;rw[<- hk]at h1 h2 h3 h4 h5;have hds:(s.drop p).length=s.length-p:=by simp
   have hwc:Di c=true:=by unfold Di;rw[hlt1];rfl
   have hk1:k=((s.drop (p+1)).takeWhile Di).length+1:=by rw[hk,hdr,List.takeWhile_cons,if_pos hwc,iO]
   obtain⟨T,hTd⟩:∃T,T=c::(s.drop (p+1)).takeWhile Di:=⟨_,rfl⟩;have hT:(s.take (p+k)).drop p=T:=by rw[hTd,List.drop_take,show p+k-p=k by omega,h1,hdr,List.takeWhile_cons,if_pos hwc]
   have hD:(s.drop (p+1)).dropWhile Di=s.drop (p+k):=by rw[show s.drop (p+k)=(s.drop p).drop k from(List.drop_drop ..).symm,h2,hdr,List.dropWhile_cons,if_pos hwc]
   have hte:((p:Int)+(k:Int)).toNat=p+k:=by omega
   rw[OT,<- hTd,hD]at hx;obtain⟨Ij,hIj⟩:∃I:Nat->St->Prop,I=(fun kk ss=>∃(j:Nat),j<=k/\kk=k-j/\(True)/\ss=⟨131,[(6,.int .i64 ((p:Int)+j)),(8,.int .i64 p),(5,.bool g),(4,.own 0),(0,.str s)],1,[(0,some ⟨345,3,false,false,Ct l⟩)],0⟩):=⟨_,rfl⟩;refine lX Ij (id) (by rw[hIj];exact⟨0,by simp,rfl,trivial,rfl⟩) ?_;intro kk ss hIk _;rw[hIj]at hIk;obtain⟨j,hj,rfl,hxj,rfl⟩:=hIk;have hwj:IntKind.i64.wrap ((p:Int)+j+1)=(p:Int)+(j+1:Nat):=by rw[AA];omega
   obtain⟨d,hd⟩:∃d,d=s.getD (p+j) 0:=⟨_,rfl⟩;have hdd:s[p+j]?.getD 0=d:=by rw[hd,gP]
   have htj:((p:Int)+(j:Int)).toNat=p+j:=by omega
   have hgd:(s.drop (p)).getD j 0=d:=by rw[hd,gP,gP,iP]
   have hQ:(decide ((p:Int)+(j:Int)<(s.length:Int))&&(SN d||RD d||((d.toNat:Int)==95)))=decide (j<k):=by
    have e:(SN d||RD d||((d.toNat:Int)==95))=Di d:=by
     rw[Di];congr 1;rw[Bool.eq_iff_iff];simp;omega
    rw[e,<- hgd];by_cases hjk:j<k
    ·rw[h4 j hjk,decide_eq_true hjk,decide_eq_true (by omega)];rfl
    have hjk':j=k:=by omega
    rw[decide_eq_false hjk];by_cases hlt:(p:Int)+(j:Int)<(s.length:Int)
    ·rw[hjk',h5 (by simp;omega),Bool.and_false]
    rw[decide_eq_false hlt,Bool.false_and]
   refine au ?_;intros;apply wr;first|refine B0 (Dw d) rfl (fun hgd=>?_) (by simp[BY]) ?_|refine BI (Dw d) rfl (by simp) (fun hgd=>?_) (by simp[BY]) ?_
   all_goals simp
   all_goals (try (first|exact hgd|(simp at hgd;first|done|assumption|grind)))
   refine au ?_;intros;apply wr;first|refine B0 (digit_ok d) rfl (fun hgd=>?_) (by simp[BY]) ?_|refine BI (digit_ok d) rfl (by simp) (fun hgd=>?_) (by simp[BY]) ?_
   all_goals simp
   all_goals (try (first|exact hgd|(simp at hgd;first|done|assumption|grind)))
   refine au ?_;intros;apply wr;simp only[htj,hdd,hQ];by_cases hjk:j<k
   ·refine DI @hjk @hwj ?_;intros;apply wr;exact aX (id) (by rw[hIj];exact⟨j+1,by omega,rfl,trivial,rfl⟩) (kX2 (AA (n:=(j:Int)+1)) @hwj)
   refine BU @hjk ?_;have hjk':k=j:=by omega
   subst hjk';have hap:=Jf l 1 T g;refine au1 (kX6 @hte @hT @htl @hmx @hm3 @hap) ?_;intros;apply wr;exact aX (fun x=>if x=0 then 4 else x) (by rw[hI];exact⟨i+1,(p+k),false,(l++[(1,T,g)]),by omega,rfl,⟨by omega,by omega,hx,by simp;omega⟩,rfl⟩) (kX4 (AA (n:=(i:Int)+1)) @hte @hT @hap)
  have hlf:SN c=false:=by simpa using hlt1
  rw[if_neg hlt1]at hx;refine BU @hlf ?_;refine cX (digit_ok c) ?_;intros;apply wr;by_cases hnu:RD c=true\/c.toNat=45
  ·rw[if_pos hnu]at hx;have hnq:(RD c||((c.toNat:Int)==45))=true:=by
    rcases hnu with e|e
    ·rw[e];rfl
    rw[e];simp
   simp only[hnq];refine IZ @hw ?_;intros;apply wr;obtain⟨h1,h2,h3,h4,h5⟩:=Lq Di (s.drop (p+1));obtain⟨k,hk⟩:∃k,k=((s.drop (p+1)).takeWhile Di).length:=⟨_,rfl⟩;rw[<- hk]at h1 h2 h3 h4 h5;have hds:(s.drop (p+1)).length=s.length-(p+1):=by simp
   obtain⟨T,hTd⟩:∃T,T=c::(s.drop (p+1)).takeWhile Di:=⟨_,rfl⟩;have hT:(s.take (p+1+k)).drop p=T:=by rw[hTd,List.drop_take,show p+1+k-p=k+1 by omega,hdr,List.take_succ_cons,h1]
   have hD:(s.drop (p+1)).dropWhile Di=s.drop (p+1+k):=by rw[show s.drop (p+1+k)=(s.drop (p+1)).drop k from(List.drop_drop ..).symm,h2]
   have hte:((p:Int)+1+(k:Int)).toNat=p+1+k:=by omega
   rw[OT,<- hTd,hD]at hx;obtain⟨Ij,hIj⟩:∃I:Nat->St->Prop,I=(fun kk ss=>∃(j:Nat),j<=k/\kk=k-j/\(True)/\ss=⟨131,[(6,.int .i64 ((p:Int)+1+j)),(8,.int .i64 p),(5,.bool g),(4,.own 0),(0,.str s)],1,[(0,some ⟨345,3,false,false,Ct l⟩)],0⟩):=⟨_,rfl⟩;refine lX Ij (id) (by rw[hIj];exact⟨0,by simp,rfl,trivial,rfl⟩) ?_;intro kk ss hIk _;rw[hIj]at hIk;obtain⟨j,hj,rfl,hxj,rfl⟩:=hIk;have hwj:IntKind.i64.wrap ((p:Int)+1+j+1)=(p:Int)+1+(j+1:Nat):=by rw[AA];omega
   obtain⟨d,hd⟩:∃d,d=s.getD (p+1+j) 0:=⟨_,rfl⟩;have hdd:s[p+1+j]?.getD 0=d:=by rw[hd,gP]
   have htj:((p:Int)+1+(j:Int)).toNat=p+1+j:=by omega
   have hgd:(s.drop (p+1)).getD j 0=d:=by rw[hd,gP,gP,iP]
   have hQ:(decide ((p:Int)+1+(j:Int)<(s.length:Int))&&(SN d||RD d||((d.toNat:Int)==95)))=decide (j<k):=by
    have e:(SN d||RD d||((d.toNat:Int)==95))=Di d:=by
     rw[Di];congr 1;rw[Bool.eq_iff_iff];simp;omega
    rw[e,<- hgd];by_cases hjk:j<k
    ·rw[h4 j hjk,decide_eq_true hjk,decide_eq_true (by omega)];rfl
    have hjk':j=k:=by omega
    rw[decide_eq_false hjk];by_cases hlt:(p:Int)+1+(j:Int)<(s.length:Int)
    ·rw[hjk',h5 (by simp;omega),Bool.and_false]
    rw[decide_eq_false hlt,Bool.false_and]
   refine au ?_;intros;apply wr;first|refine B0 (Dw d) rfl (fun hgd=>?_) (by simp[BY]) ?_|refine BI (Dw d) rfl (by simp) (fun hgd=>?_) (by simp[BY]) ?_
   all_goals simp
   all_goals (try (first|exact hgd|(simp at hgd;first|done|assumption|grind)))
   refine au ?_;intros;apply wr;first|refine B0 (digit_ok d) rfl (fun hgd=>?_) (by simp[BY]) ?_|refine BI (digit_ok d) rfl (by simp) (fun hgd=>?_) (by simp[BY]) ?_
   all_goals simp
   all_goals (try (first|exact hgd|(simp at hgd;first|done|assumption|grind)))
   refine au ?_;intros;apply wr;simp only[htj,hdd,hQ];by_cases hjk:j<k
   ·refine DI @hjk @hwj ?_;intros;apply wr;exact aX (id) (by rw[hIj];exact⟨j+1,by omega,rfl,trivial,rfl⟩) (kX2 (AA (n:=(j:Int)+1)) @hwj)
   refine BU @hjk ?_;have hjk':k=j:=by omega
   subst hjk';have hap:=Jf l 2 T g;refine au1 (kX6 @hte @hT @htl @hmx @hm3 @hap) ?_;intros;apply wr;exact aX (fun x=>if x=0 then 4 else x) (by rw[hI];exact⟨i+1,(p+1+k),false,(l++[(2,T,g)]),by omega,rfl,⟨by omega,by omega,hx,by simp;omega⟩,rfl⟩) (kX4 (AA (n:=(i:Int)+1)) @hte @hT @hap)
  rw[if_neg hnu]at hx;have hnq:(RD c||((c.toNat:Int)==45))=false:=by
   have e1:RD c=false:=by simpa using fun e=>hnu (.inl e)
   rw[e1];simp;omega
  simp only[hnq];refine C3 ?_;intros;apply wr;have hsq:((c.toNat:Int)==44||(c.toNat:Int)==58||(c.toNat:Int)==40||(c.toNat:Int)==41||(c.toNat:Int)==46)=VO c:=by
   rw[Bool.eq_iff_iff];simp[VO];omega
  simp only[hsq];by_cases hsg:VO c=true
  ·rw[if_pos hsg]at hx;refine DI @hsg @hw ?_;have hT:(s.take (p+1)).drop p=[c]:=by rw[List.drop_take,show p+1-p=1 by omega,hdr];rfl
   have hte:((p:Int)+1).toNat=p+1:=by omega
   have hap:=Jf l 3 [c] g;rw[OT]at hx;refine au1 (kX6 @hte @hT @htl @hmx @hm3 @hap) ?_;intros;apply wr;exact aX (fun x=>if x=0 then 4 else x) (by rw[hI];exact⟨i+1,(p+1),false,(l++[(3,[c],g)]),by omega,rfl,⟨by omega,by omega,hx,by simp;omega⟩,rfl⟩) (kX4 (AA (n:=(i:Int)+1)) @hte @hT @hap)
  rw[if_neg hsg]at hx;simp at hx
 have hpe:p=s.length:=by omega
 subst hpe;rw[List.drop_length,fQ]at hx;simp only[Option.map_some,iU,gQ]at hx;subst hx;refine C3 ?_;refine aw ?_;simp
abbrev ArgD:=Int×Int×Str
abbrev argV(a:ArgD):List V:=[.int .i64 a.1,.int .i64 a.2.1,.str a.2.2]
def HO(l:List ArgD):List (List V):=l.map argV
@[simp] theorem argsV_nil:HO []=[]:=rfl
theorem MC(l:List ArgD):(HO l).length=l.length:=by simp[HO]
theorem G3(l:List ArgD)(r n:Int)(t:Str):HO l++[[.int .i64 r,.int .i64 n,.str t]]=HO (l++[(r,n,t)]):=by simp[HO]
def SR:List Tok->Str->Option (List ArgD)
 | [],[]=>some []
 | t::l,c::p =>
  if c=114 then(if t.1=1 then(ZZ t.2.1).bind fun q=>(SR l p).map (((q:Int),0,[])::·)else none)
  else if c=110\/c=120 then
   (if c=120/\t.1=1/\UC t.2.1=true then(SR l p).map ((0,0,t.2.1)::·)
   else if t.1=2 then(numX t.2.1).bind fun n=>(SR l p).map ((0,n,[])::·)else none)
  else if t.1=3/\t.2.1=[c]then SR l p else none
 | _,_=>none
theorem Pn:∀{l:List Tok}{p:Str}{a:List ArgD},SR l p=some a->l.length=p.length
 | [],[],_,_=>rfl
 | t::l,c::p,a,h=>by
  cases e:SR l p with
  | none=>simp only[SR,e,Option.map_none]at h;(repeat' split at h)<;>simp at h
  | some b=>simp[Pn e]
theorem I1{l:List ArgD}{t:ArgD}{o:Option (List ArgD)}:(o.map (t::·)).map (l++·)=o.map ((l++[t])++·):=by
 cases o<;>simp
theorem Y6(l:List Tok)(i:Nat)(h:i<l.length):(Ct l)[i]? =some (tokV l[i]):=by simp[Ct,h]
set_option maxHeartbeats 32000000 in
theorem RY(l:List Tok)(p:Str)(A:List ArgD)(hl:l.length<=1000000)(h0:SR l p=some A):AC prog 220 [.sl 3 false (Ct l),.str p] (.tup [.sl 3 false (HO A),.bool true]):=by
 have hlp:=Pn h0;have htl:=N4 l;refine sX func220 ntmps220 ?_;have hlp':((l.length:Int)=(p.length:Int)):=by omega
 refine BU (kX2 @htl @hlp') ?_;intros;apply wr;refine AT 6 192 3 (by decide) rfl ?_;obtain⟨I,hI⟩:∃I:Nat->St->Prop,I=(fun kk ss=>∃(i:Nat)(a:List ArgD),i<=l.length/\kk=l.length-i/\(some A=(SR (l.drop i) (p.drop i)).map (a++·)/\a.length<=i)/\ss=⟨106,[(7,.int .i64 i),(6,.own 0),(0,.sl 3 false (Ct l)),(1,.str p)],1,[(0,some ⟨192,3,false,false,HO a⟩)],0⟩):=⟨_,rfl⟩;refine lX I (id) (by rw[hI];exact⟨0,[],by simp,rfl,⟨by simp[h0],g8 _⟩,rfl⟩) ?_;intro kk ss hIk _;rw[hI]at hIk;obtain⟨i,a,hi,rfl,hx,rfl⟩:=hIk;obtain⟨hx,hal⟩:=hx;have hav:=MC a;have hmx:(HO a).length+1<=maxLen:=by rw[hav];simp[maxLen];omega
 have hm3:(a.length+1)*32<=140737488355328:=by omega
 have hw:IntKind.i64.wrap ((i:Int)+1)=(i:Int)+1:=AA;by_cases hi':i<l.length
 ·obtain⟨z,hz⟩:∃z,z=l[i]:=⟨_,rfl⟩;have hget:(Ct l)[i]? =some (tokV z):=by rw[hz];exact Y6 _ i hi'
  have hdl:l.drop i=z::l.drop (i+1):=by rw[List.drop_eq_getElem_cons hi',hz]
  have hip:i<p.length:=by omega
  obtain⟨c,hc⟩:∃c,c=p.getD i 0:=⟨_,rfl⟩;have hcc:p[i]?.getD 0=c:=by rw[hc,gP]
  have hdp:p.drop i=c::p.drop (i+1):=by rw[List.drop_eq_getElem_cons hip,hc,gP,gR hip];rfl
  rw[hdl,hdp,SR]at hx;obtain⟨zk,zt,zg⟩:=z;simp only at hx hget;refine au1 @htl ?_;refine DI @hi' (kX3 @hget @hcc @htl) ?_;intros;apply wr;by_cases h1:c=114
  ·subst h1;rw[if_pos rfl]at hx;refine CV ?_;refine cX (QM zt) ?_;intros;apply wr;by_cases hk1:zk=1
   ·subst hk1;rw[if_pos rfl]at hx;cases hr:ZZ zt with
    | none=>rw[hr]at hx;simp at hx
    | some q =>
     rw[hr]at hx;simp only[Option.bind_some]at hx;refine C3 ?_;rw[I1]at hx;have hap:=G3 a ((q:Int)) (0) ([]);refine au1 (kX5 @hav @hmx @hm3 @hap @hw) ?_;intros;apply wr;exact aX (fun x=>if x=0 then 5 else x) (by rw[hI];exact⟨i+1,(a++[((q:Int),0,[])]),by omega,rfl,⟨hx,by simp;omega⟩,rfl⟩) (kX3 (AA (n:=(i:Int)+1)) @hap @hw)
   rw[if_neg hk1]at hx;simp at hx
  rw[if_neg h1]at hx;have h1':¬(c.toNat:Int)=114:=V5 114 h1 rfl (by decide);refine BU @h1' ?_;intros;apply wr;by_cases h3:c=110
  ·subst h3;rw[if_pos (.inl rfl),if_neg (fun e=>absurd e.1 (by decide))]at hx;refine CV ?_;refine CV ?_;intros;apply wr;first|refine B0 (H4 zt) rfl (fun hgd=>?_) (by simp[BY]) ?_|refine BI (H4 zt) rfl (by simp) (fun hgd=>?_) (by simp[BY]) ?_
   all_goals simp
   all_goals (try (first|exact hgd|(simp at hgd;first|done|assumption|grind)))
   refine au ?_;refine BU @hcc ?_;intros;apply wr;by_cases h7:zk=2
   ·rw[if_pos h7]at hx;cases hn:numX zt with
    | none=>rw[hn]at hx;simp at hx
    | some n =>
     rw[hn]at hx;simp only[Option.bind_some]at hx;refine cX (Mz hn) ?_;refine BU @h7 ?_;rw[I1]at hx;have hap:=G3 a (0) (n) ([]);refine au1 (kX5 @hav @hmx @hm3 @hap @hw) ?_;intros;apply wr;exact aX (fun x=>if x=0 then 6 else x) (by rw[hI];exact⟨i+1,(a++[(0,n,[])]),by omega,rfl,⟨hx,by simp;omega⟩,rfl⟩) (kX3 (AA (n:=(i:Int)+1)) @hap @hw)
   rw[if_neg h7]at hx;simp at hx
  have h3':¬(c.toNat:Int)=110:=V5 110 h3 rfl (by decide);refine BU @h3' ?_;intros;apply wr;by_cases h4:c=120
  ·subst h4;rw[if_pos (.inr rfl)]at hx;refine CV ?_;intros;apply wr;first|refine B0 (H4 zt) rfl (fun hgd=>?_) (by simp[BY]) ?_|refine BI (H4 zt) rfl (by simp) (fun hgd=>?_) (by simp[BY]) ?_
   all_goals simp
   all_goals (try (first|exact hgd|(simp at hgd;first|done|assumption|grind)))
   refine au ?_;intros;apply wr;by_cases h5:zk=1/\UC zt=true
   ·rw[if_pos ⟨rfl,h5⟩]at hx;refine ED (kX2 @hcc @h5) ?_;rw[I1]at hx;have hap:=G3 a (0) (0) (zt);refine au1 (kX5 @hav @hmx @hm3 @hap @hw) ?_;intros;apply wr;exact aX (fun x=>if x=0 then 4 else x) (by rw[hI];exact⟨i+1,(a++[(0,0,zt)]),by omega,rfl,⟨hx,by simp;omega⟩,rfl⟩) (kX3 (AA (n:=(i:Int)+1)) @hap @hw)
   rw[if_neg (fun e=>h5 e.2)]at hx;refine AB rfl (fun h=>absurd (by simpa[hcc]using h) h5) (fun _=>?_);refine au ?_;intros;apply wr;by_cases h7:zk=2
   ·rw[if_pos h7]at hx;cases hn:numX zt with
    | none=>rw[hn]at hx;simp at hx
    | some n =>
     rw[hn]at hx;simp only[Option.bind_some]at hx;refine cX (Mz hn) ?_;refine BU @h7 ?_;rw[I1]at hx;have hap:=G3 a (0) (n) ([]);refine au1 (kX5 @hav @hmx @hm3 @hap @hw) ?_;intros;apply wr;exact aX (fun x=>if x=0 then 6 else x) (by rw[hI];exact⟨i+1,(a++[(0,n,[])]),by omega,rfl,⟨hx,by simp;omega⟩,rfl⟩) (kX3 (AA (n:=(i:Int)+1)) @hap @hw)
   rw[if_neg h7]at hx;simp at hx
  rw[if_neg (fun e=>e.elim h3 h4)]at hx;have h4':¬(c.toNat:Int)=120:=V5 120 h4 rfl (by decide);have hpc:(p.take (i+1)).drop i=[c]:=by rw[List.drop_take,show i+1-i=1 by omega,hdp];rfl
  refine BU @h4' ?_;intros;apply wr;refine AD 13 [0,1,3,7,15,31,15,15,15,271,975,2047,4095] [(1,([],[])),(1,([],[])),(1,([],[])),(1,([],[])),(7,([[],[0],[],[],[],[4],[2,3,4,5]],[])),(1,([],[])),(1,([],[]))] ?_;refine af1 @hw ?_;intros;apply wr;simp only[hpc];by_cases h6:zk=3/\zt=[c]
  ·rw[if_pos h6]at hx;refine Ac @h6 ?_;intros;apply wr;exact aX (id) (by rw[hI];exact⟨i+1,a,by omega,rfl,⟨hx,by omega⟩,rfl⟩) (kX2 (AA (n:=(i:Int)+1)) @hw)
  rw[if_neg h6]at hx;simp at hx
 have:i=l.length:=by omega
 subst this;rw[List.drop_length,hlp,List.drop_length,SR]at hx;simp only[Option.map_some,iU,gQ]at hx;subst hx;refine af1 @htl ?_;refine BN ?_;refine aw ?_;simp
end Go.Proofs.YtjkmhmepljamoaaGreat.As
end
