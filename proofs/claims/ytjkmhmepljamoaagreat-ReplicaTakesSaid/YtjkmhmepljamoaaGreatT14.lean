/- A part of the proof of ReplicaTakes. -/
import Derived.Test.YtjkmhmepljamoaaGreatT13
set_option linter.all false
set_option maxHeartbeats 16000000
set_option maxRecDepth 100000
section
namespace Go.Proofs.YtjkmhmepljamoaaGreat.As
open Go.Ab Go.RowKit Tryz
abbrev Tok:=Int×Str×Bool
def De(c:UInt8):Bool:=Rm c||PG c||decide (c.toNat=95)
def Ut(c:UInt8):Bool:=decide (c.toNat=44)||decide (c.toNat=58)||decide (c.toNat=40)||decide (c.toNat=41)||decide (c.toNat=46)
def Od(g:Bool):Str->Option (List Tok)
 | []=>some []
 | c::s =>
  if c.toNat=32 then Od true s
  else if Rm c=true then(Od false (s.dropWhile De)).map ((1,c::s.takeWhile De,g)::·)
  else if PG c=true\/c.toNat=45 then(Od false (s.dropWhile De)).map ((2,c::s.takeWhile De,g)::·)
  else if Ut c=true then(Od false s).map ((3,[c],g)::·)
  else none
termination_by s=>s.length
decreasing_by
 all_goals simp
 all_goals (have:=(List.dropWhile_suffix (l:=s) De).length_le;omega)
theorem dZ(g:Bool):Od g []=some []:=by rw[Od]
theorem YF(g:Bool)(c:UInt8)(s:Str):Od g (c::s)=if c.toNat=32 then Od true s
  else if Rm c=true then(Od false (s.dropWhile De)).map ((1,c::s.takeWhile De,g)::·)
  else if PG c=true\/c.toNat=45 then(Od false (s.dropWhile De)).map ((2,c::s.takeWhile De,g)::·)
  else if Ut c=true then(Od false s).map ((3,[c],g)::·)
  else none:=by rw[Od]
abbrev tokV(t:Tok):List V:=[.int .i64 t.1,.str t.2.1,.bool t.2.2]
def D1(l:List Tok):List (List V):=l.map tokV
@[simp] theorem toksV_nil:D1 []=[]:=rfl
theorem NK(l:List Tok):(D1 l).length=l.length:=by simp[D1]
theorem JW(l:List Tok)(k:Int)(t:Str)(g:Bool):D1 l++[[.int .i64 k,.str t,.bool g]]=D1 (l++[(k,t,g)]):=by simp[D1]
theorem L8(P:UInt8->Bool):∀x:Str,x.take (x.takeWhile P).length=x.takeWhile P/\x.drop (x.takeWhile P).length=x.dropWhile P/\(x.takeWhile P).length<=x.length/\(∀j,j<(x.takeWhile P).length->P (x.getD j 0)=true)/\((x.takeWhile P).length<x.length->P (x.getD (x.takeWhile P).length 0)=false)
 | []=>by simp
 | c::x=>by
  obtain⟨h1,h2,h3,h4,h5⟩:=L8 P x;by_cases hc:P c=true
  ·simp only[List.takeWhile_cons,List.dropWhile_cons,hc,if_true,fR,List.take_succ_cons,List.drop_succ_cons,h1,h2,true_and];refine⟨by omega,fun j hj=>?_,fun h=>?_⟩
   ·cases j with
    | zero=>simpa using hc
    | succ j=>simpa using h4 j (by omega)
   simpa using h5 (by omega)
  simp[List.takeWhile_cons,List.dropWhile_cons,hc]
theorem OD{l:List Tok}{t:Tok}{o:Option (List Tok)}:(o.map (t::·)).map (l++·)=o.map ((l++[t])++·):=by
 cases o<;>simp
set_option maxHeartbeats 32000000 in
theorem VE(s:Str)(L:List Tok)(hsl:s.length<=1000000)(h0:Od true s=some L):AC prog 217 [.str s] (.tup [.sl 3 false (D1 L),.bool true]):=by
 refine sX func217 ntmps217 ?_;intros;apply wr;refine AU 4 345 3 (by decide) rfl ?_;obtain⟨I,hI⟩:∃I:Nat->St->Prop,I=(fun kk ss=>∃(i:Nat)(p:Nat)(g:Bool)(l:List Tok),i<=s.length/\kk=s.length-i/\(i<=p/\p<=s.length/\some L=(Od g (s.drop p)).map (l++·)/\l.length<=p)/\ss=⟨131,[(6,.int .i64 p),(5,.bool g),(4,.own 0),(0,.str s)],1,[(0,some ⟨345,3,false,false,D1 l⟩)],0⟩):=⟨_,rfl⟩;refine lX I (id) (by rw[hI];exact⟨0,0,true,[],by simp,rfl,⟨fA _,Nat.zero_le _,by simp[h0],fA _⟩,rfl⟩) ?_;intro kk ss hIk _;rw[hI]at hIk;obtain⟨i,p,g,l,hi,rfl,hx,rfl⟩:=hIk;obtain⟨hip,hpl,hx,hll⟩:=hx;have htl:=NK l;have hmx:(D1 l).length+1<=maxLen:=by rw[htl];simp[maxLen];omega
 have hm3:(l.length+1)*40<=140737488355328:=by omega
 have hw:IntKind.i64.wrap ((p:Int)+1)=(p:Int)+1:=AA (by omega) (by omega);refine au ?_;intros;apply wr;by_cases hp:p<s.length
 ·obtain⟨c,hc⟩:∃c,c=s.getD p 0:=⟨_,rfl⟩;have hcc:s[p]?.getD 0=c:=by rw[hc,eP]
  have hdr:s.drop p=c::s.drop (p+1):=by rw[List.drop_eq_getElem_cons hp,hc,eP,eR hp];rfl
  rw[hdr,YF]at hx;refine DT @hp @hcc ?_;intros;apply wr;by_cases h32:c.toNat=32
  ·rw[if_pos h32]at hx;refine DT @h32 @hw ?_;intros;apply wr;exact aX (id) (by rw[hI];exact⟨i+1,(p+1),true,l,by omega,rfl,⟨by omega,by omega,hx,by omega⟩,rfl⟩) (kX2 (AA (n:=(i:Int)+1) (by omega) (by omega)) @hw)
  rw[if_neg h32]at hx;have h32':¬((c.toNat:Int)=32):=by omega
  refine B1 @h32' ?_;refine cX (Ds c) ?_;intros;apply wr;by_cases hlt1:Rm c=true
  ·rw[if_pos hlt1]at hx;refine EM @hlt1 ?_;intros;apply wr;obtain⟨h1,h2,h3,h4,h5⟩:=L8 De (s.drop p);obtain⟨k,hk⟩:∃k,k=((s.drop p).takeWhile De).length:=⟨_,rfl⟩;rw[<- hk]at h1 h2 h3 h4 h5;have hds:(s.drop p).length=s.length-p:=by simp
   have hwc:De c=true:=by unfold De;rw[hlt1];rfl
   have hk1:k=((s.drop (p+1)).takeWhile De).length+1:=by rw[hk,hdr,List.takeWhile_cons,if_pos hwc,fR]
   obtain⟨T,hTd⟩:∃T,T=c::(s.drop (p+1)).takeWhile De:=⟨_,rfl⟩;have hT:(s.take (p+k)).drop p=T:=by rw[hTd,List.drop_take,show p+k-p=k by omega,h1,hdr,List.takeWhile_cons,if_pos hwc]
   have hD:(s.drop (p+1)).dropWhile De=s.drop (p+k):=by rw[show s.drop (p+k)=(s.drop p).drop k from(List.drop_drop ..).symm,h2,hdr,List.dropWhile_cons,if_pos hwc]
   have hte:((p:Int)+(k:Int)).toNat=p+k:=by omega
   rw[OD,<- hTd,hD]at hx;obtain⟨Ij,hIj⟩:∃I:Nat->St->Prop,I=(fun kk ss=>∃(j:Nat),j<=k/\kk=k-j/\(True)/\ss=⟨131,[(6,.int .i64 ((p:Int)+j)),(8,.int .i64 p),(5,.bool g),(4,.own 0),(0,.str s)],1,[(0,some ⟨345,3,false,false,D1 l⟩)],0⟩):=⟨_,rfl⟩;refine lX Ij (id) (by rw[hIj];exact⟨0,by simp,rfl,trivial,rfl⟩) ?_;intro kk ss hIk _;rw[hIj]at hIk;obtain⟨j,hj,rfl,hxj,rfl⟩:=hIk;have hwj:IntKind.i64.wrap ((p:Int)+j+1)=(p:Int)+(j+1:Nat):=by rw[AA (by omega) (by omega)];omega
   obtain⟨d,hd⟩:∃d,d=s.getD (p+j) 0:=⟨_,rfl⟩;have hdd:s[p+j]?.getD 0=d:=by rw[hd,eP]
   have htj:((p:Int)+(j:Int)).toNat=p+j:=by omega
   have hgd:(s.drop (p)).getD j 0=d:=by rw[hd,eP,eP,fS]
   have hQ:(decide ((p:Int)+(j:Int)<(s.length:Int))&&(Rm d||PG d||((d.toNat:Int)==95)))=decide (j<k):=by
    have e:(Rm d||PG d||((d.toNat:Int)==95))=De d:=by
     rw[De];congr 1;rw[Bool.eq_iff_iff];simp;omega
    rw[e,<- hgd];by_cases hjk:j<k
    ·rw[h4 j hjk,decide_eq_true hjk,decide_eq_true (by omega)];rfl
    have hjk':j=k:=by omega
    rw[decide_eq_false hjk];by_cases hlt:(p:Int)+(j:Int)<(s.length:Int)
    ·rw[hjk',h5 (by simp;omega),Bool.and_false]
    rw[decide_eq_false hlt,Bool.false_and]
   refine au ?_;intros;apply wr;first|refine BW (Ds d) rfl (fun hgd=>?_) (by simp[BV]) ?_|refine BC (Ds d) rfl (by simp) (fun hgd=>?_) (by simp[BV]) ?_
   all_goals simp
   all_goals (try (first|exact hgd|(simp at hgd;first|done|assumption|grind)))
   refine au ?_;intros;apply wr;first|refine BW (digit_ok d) rfl (fun hgd=>?_) (by simp[BV]) ?_|refine BC (digit_ok d) rfl (by simp) (fun hgd=>?_) (by simp[BV]) ?_
   all_goals simp
   all_goals (try (first|exact hgd|(simp at hgd;first|done|assumption|grind)))
   refine au ?_;intros;apply wr;simp only[htj,hdd,hQ];by_cases hjk:j<k
   ·refine DT @hjk @hwj ?_;intros;apply wr;exact aX (id) (by rw[hIj];exact⟨j+1,by omega,rfl,trivial,rfl⟩) (kX2 (AA (n:=(j:Int)+1) (by omega) (by omega)) @hwj)
   refine B1 @hjk ?_;have hjk':k=j:=by omega
   subst hjk';have hap:=JW l 1 T g;refine au1 (kX6 @hte @hT @htl @hmx @hm3 @hap) ?_;intros;apply wr;exact aX (fun x=>if x=0 then 4 else x) (by rw[hI];exact⟨i+1,(p+k),false,(l++[(1,T,g)]),by omega,rfl,⟨by omega,by omega,hx,by simp;omega⟩,rfl⟩) (kX4 (AA (n:=(i:Int)+1) (by omega) (by omega)) @hte @hT @hap)
  have hlf:Rm c=false:=by simpa using hlt1
  rw[if_neg hlt1]at hx;refine B1 @hlf ?_;refine cX (digit_ok c) ?_;intros;apply wr;by_cases hnu:PG c=true\/c.toNat=45
  ·rw[if_pos hnu]at hx;have hnq:(PG c||((c.toNat:Int)==45))=true:=by
    rcases hnu with e|e
    ·rw[e];rfl
    rw[e];simp
   simp only[hnq];refine II @hw ?_;intros;apply wr;obtain⟨h1,h2,h3,h4,h5⟩:=L8 De (s.drop (p+1));obtain⟨k,hk⟩:∃k,k=((s.drop (p+1)).takeWhile De).length:=⟨_,rfl⟩;rw[<- hk]at h1 h2 h3 h4 h5;have hds:(s.drop (p+1)).length=s.length-(p+1):=by simp
   obtain⟨T,hTd⟩:∃T,T=c::(s.drop (p+1)).takeWhile De:=⟨_,rfl⟩;have hT:(s.take (p+1+k)).drop p=T:=by rw[hTd,List.drop_take,show p+1+k-p=k+1 by omega,hdr,List.take_succ_cons,h1]
   have hD:(s.drop (p+1)).dropWhile De=s.drop (p+1+k):=by rw[show s.drop (p+1+k)=(s.drop (p+1)).drop k from(List.drop_drop ..).symm,h2]
   have hte:((p:Int)+1+(k:Int)).toNat=p+1+k:=by omega
   rw[OD,<- hTd,hD]at hx;obtain⟨Ij,hIj⟩:∃I:Nat->St->Prop,I=(fun kk ss=>∃(j:Nat),j<=k/\kk=k-j/\(True)/\ss=⟨131,[(6,.int .i64 ((p:Int)+1+j)),(8,.int .i64 p),(5,.bool g),(4,.own 0),(0,.str s)],1,[(0,some ⟨345,3,false,false,D1 l⟩)],0⟩):=⟨_,rfl⟩;refine lX Ij (id) (by rw[hIj];exact⟨0,by simp,rfl,trivial,rfl⟩) ?_;intro kk ss hIk _;rw[hIj]at hIk;obtain⟨j,hj,rfl,hxj,rfl⟩:=hIk;have hwj:IntKind.i64.wrap ((p:Int)+1+j+1)=(p:Int)+1+(j+1:Nat):=by rw[AA (by omega) (by omega)];omega
   obtain⟨d,hd⟩:∃d,d=s.getD (p+1+j) 0:=⟨_,rfl⟩;have hdd:s[p+1+j]?.getD 0=d:=by rw[hd,eP]
   have htj:((p:Int)+1+(j:Int)).toNat=p+1+j:=by omega
   have hgd:(s.drop (p+1)).getD j 0=d:=by rw[hd,eP,eP,fS]
   have hQ:(decide ((p:Int)+1+(j:Int)<(s.length:Int))&&(Rm d||PG d||((d.toNat:Int)==95)))=decide (j<k):=by
    have e:(Rm d||PG d||((d.toNat:Int)==95))=De d:=by
     rw[De];congr 1;rw[Bool.eq_iff_iff];simp;omega
    rw[e,<- hgd];by_cases hjk:j<k
    ·rw[h4 j hjk,decide_eq_true hjk,decide_eq_true (by omega)];rfl
    have hjk':j=k:=by omega
    rw[decide_eq_false hjk];by_cases hlt:(p:Int)+1+(j:Int)<(s.length:Int)
    ·rw[hjk',h5 (by simp;omega),Bool.and_false]
    rw[decide_eq_false hlt,Bool.false_and]
   refine au ?_;intros;apply wr;first|refine BW (Ds d) rfl (fun hgd=>?_) (by simp[BV]) ?_|refine BC (Ds d) rfl (by simp) (fun hgd=>?_) (by simp[BV]) ?_
   all_goals simp
   all_goals (try (first|exact hgd|(simp at hgd;first|done|assumption|grind)))
   refine au ?_;intros;apply wr;first|refine BW (digit_ok d) rfl (fun hgd=>?_) (by simp[BV]) ?_|refine BC (digit_ok d) rfl (by simp) (fun hgd=>?_) (by simp[BV]) ?_
   all_goals simp
   all_goals (try (first|exact hgd|(simp at hgd;first|done|assumption|grind)))
   refine au ?_;intros;apply wr;simp only[htj,hdd,hQ];by_cases hjk:j<k
   ·refine DT @hjk @hwj ?_;intros;apply wr;exact aX (id) (by rw[hIj];exact⟨j+1,by omega,rfl,trivial,rfl⟩) (kX2 (AA (n:=(j:Int)+1) (by omega) (by omega)) @hwj)
   refine B1 @hjk ?_;have hjk':k=j:=by omega
   subst hjk';have hap:=JW l 2 T g;refine au1 (kX6 @hte @hT @htl @hmx @hm3 @hap) ?_;intros;apply wr;exact aX (fun x=>if x=0 then 4 else x) (by rw[hI];exact⟨i+1,(p+1+k),false,(l++[(2,T,g)]),by omega,rfl,⟨by omega,by omega,hx,by simp;omega⟩,rfl⟩) (kX4 (AA (n:=(i:Int)+1) (by omega) (by omega)) @hte @hT @hap)
  rw[if_neg hnu]at hx;have hnq:(PG c||((c.toNat:Int)==45))=false:=by
   have e1:PG c=false:=by simpa using fun e=>hnu (.inl e)
   rw[e1];simp;omega
  simp only[hnq];refine CX ?_;intros;apply wr;have hsq:((c.toNat:Int)==44||(c.toNat:Int)==58||(c.toNat:Int)==40||(c.toNat:Int)==41||(c.toNat:Int)==46)=Ut c:=by
   rw[Bool.eq_iff_iff];simp[Ut];omega
  simp only[hsq];by_cases hsg:Ut c=true
  ·rw[if_pos hsg]at hx;refine DT @hsg @hw ?_;have hT:(s.take (p+1)).drop p=[c]:=by rw[List.drop_take,show p+1-p=1 by omega,hdr];rfl
   have hte:((p:Int)+1).toNat=p+1:=by omega
   have hap:=JW l 3 [c] g;rw[OD]at hx;refine au1 (kX6 @hte @hT @htl @hmx @hm3 @hap) ?_;intros;apply wr;exact aX (fun x=>if x=0 then 4 else x) (by rw[hI];exact⟨i+1,(p+1),false,(l++[(3,[c],g)]),by omega,rfl,⟨by omega,by omega,hx,by simp;omega⟩,rfl⟩) (kX4 (AA (n:=(i:Int)+1) (by omega) (by omega)) @hte @hT @hap)
  rw[if_neg hsg]at hx;simp at hx
 have hpe:p=s.length:=by omega
 subst hpe;rw[List.drop_length,dZ]at hx;simp only[Option.map_some,f7,eQ]at hx;subst hx;refine CX ?_;refine aw ?_;simp
end Go.Proofs.YtjkmhmepljamoaaGreat.As
end
