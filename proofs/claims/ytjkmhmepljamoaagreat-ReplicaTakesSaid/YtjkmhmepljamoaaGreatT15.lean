/- A part of the proof of ReplicaTakes. -/
import Derived.Test.YtjkmhmepljamoaaGreatT14
set_option linter.all false
set_option maxHeartbeats 16000000
set_option maxRecDepth 100000
section
namespace Go.Proofs.YtjkmhmepljamoaaGreat.As
open Go.Ab Go.RowKit Tryz
abbrev ArgD:=Int×Int×Str
abbrev argV(a:ArgD):List V:=[.int .i64 a.1,.int .i64 a.2.1,.str a.2.2]
def HA(l:List ArgD):List (List V):=l.map argV
@[simp] theorem argsV_nil:HA []=[]:=rfl
theorem Lm(l:List ArgD):(HA l).length=l.length:=by simp[HA]
theorem GP(l:List ArgD)(r n:Int)(t:Str):HA l++[[.int .i64 r,.int .i64 n,.str t]]=HA (l++[(r,n,t)]):=by simp[HA]
def Rq:List Tok->Str->Option (List ArgD)
 | [],[]=>some []
 | t::l,c::p =>
  if c=114 then(if t.1=1 then(Yx t.2.1).bind fun q=>(Rq l p).map (((q:Int),0,[])::·)else none)
  else if c=110\/c=120 then
   (if c=120/\t.1=1/\Ti t.2.1=true then(Rq l p).map ((0,0,t.2.1)::·)
   else if t.1=2 then(numX t.2.1).bind fun n=>(Rq l p).map ((0,n,[])::·)else none)
  else if t.1=3/\t.2.1=[c]then Rq l p else none
 | _,_=>none
theorem P6:∀{l:List Tok}{p:Str}{a:List ArgD},Rq l p=some a->l.length=p.length
 | [],[],_,_=>rfl
 | t::l,c::p,a,h=>by
  cases e:Rq l p with
  | none=>simp only[Rq,e,Option.map_none]at h;(repeat' split at h)<;>simp at h
  | some b=>simp[P6 e]
theorem IL{l:List ArgD}{t:ArgD}{o:Option (List ArgD)}:(o.map (t::·)).map (l++·)=o.map ((l++[t])++·):=by
 cases o<;>simp
theorem YG(l:List Tok)(i:Nat)(h:i<l.length):(D1 l)[i]? =some (tokV l[i]):=by simp[D1,h]
set_option maxHeartbeats 32000000 in
theorem Qw(l:List Tok)(p:Str)(A:List ArgD)(hl:l.length<=1000000)(h0:Rq l p=some A):AC prog 220 [.sl 3 false (D1 l),.str p] (.tup [.sl 3 false (HA A),.bool true]):=by
 have hlp:=P6 h0;have htl:=NK l;refine sX func220 ntmps220 ?_;have hlp':((l.length:Int)=(p.length:Int)):=by omega
 refine B1 (kX2 @htl @hlp') ?_;intros;apply wr;refine AU 6 192 3 (by decide) rfl ?_;obtain⟨I,hI⟩:∃I:Nat->St->Prop,I=(fun kk ss=>∃(i:Nat)(a:List ArgD),i<=l.length/\kk=l.length-i/\(some A=(Rq (l.drop i) (p.drop i)).map (a++·)/\a.length<=i)/\ss=⟨106,[(7,.int .i64 i),(6,.own 0),(0,.sl 3 false (D1 l)),(1,.str p)],1,[(0,some ⟨192,3,false,false,HA a⟩)],0⟩):=⟨_,rfl⟩;refine lX I (id) (by rw[hI];exact⟨0,[],by simp,rfl,⟨by simp[h0],fA _⟩,rfl⟩) ?_;intro kk ss hIk _;rw[hI]at hIk;obtain⟨i,a,hi,rfl,hx,rfl⟩:=hIk;obtain⟨hx,hal⟩:=hx;have hav:=Lm a;have hmx:(HA a).length+1<=maxLen:=by rw[hav];simp[maxLen];omega
 have hm3:(a.length+1)*32<=140737488355328:=by omega
 have hw:IntKind.i64.wrap ((i:Int)+1)=(i:Int)+1:=AA (by omega) (by omega);by_cases hi':i<l.length
 ·obtain⟨z,hz⟩:∃z,z=l[i]:=⟨_,rfl⟩;have hget:(D1 l)[i]? =some (tokV z):=by rw[hz];exact YG _ i hi'
  have hdl:l.drop i=z::l.drop (i+1):=by rw[List.drop_eq_getElem_cons hi',hz]
  have hip:i<p.length:=by omega
  obtain⟨c,hc⟩:∃c,c=p.getD i 0:=⟨_,rfl⟩;have hcc:p[i]?.getD 0=c:=by rw[hc,eP]
  have hdp:p.drop i=c::p.drop (i+1):=by rw[List.drop_eq_getElem_cons hip,hc,eP,eR hip];rfl
  rw[hdl,hdp,Rq]at hx;obtain⟨zk,zt,zg⟩:=z;simp only at hx hget;refine au1 @htl ?_;refine DT @hi' (kX3 @hget @hcc @htl) ?_;intros;apply wr;by_cases h1:c=114
  ·subst h1;rw[if_pos rfl]at hx;refine CU ?_;refine cX (Pt zt) ?_;intros;apply wr;by_cases hk1:zk=1
   ·subst hk1;rw[if_pos rfl]at hx;cases hr:Yx zt with
    | none=>rw[hr]at hx;simp at hx
    | some q =>
     rw[hr]at hx;simp only[Option.bind_some]at hx;refine CX ?_;rw[IL]at hx;have hap:=GP a ((q:Int)) (0) ([]);refine au1 (kX5 @hav @hmx @hm3 @hap @hw) ?_;intros;apply wr;exact aX (fun x=>if x=0 then 5 else x) (by rw[hI];exact⟨i+1,(a++[((q:Int),0,[])]),by omega,rfl,⟨hx,by simp;omega⟩,rfl⟩) (kX3 (AA (n:=(i:Int)+1) (by omega) (by omega)) @hap @hw)
   rw[if_neg hk1]at hx;simp at hx
  rw[if_neg h1]at hx;have h1':¬(c.toNat:Int)=114:=VI 114 h1 rfl (by decide);refine B1 @h1' ?_;intros;apply wr;by_cases h3:c=110
  ·subst h3;rw[if_pos (.inl rfl),if_neg (fun e=>absurd e.1 (by decide))]at hx;refine CU ?_;refine CU ?_;intros;apply wr;first|refine BW (HL zt) rfl (fun hgd=>?_) (by simp[BV]) ?_|refine BC (HL zt) rfl (by simp) (fun hgd=>?_) (by simp[BV]) ?_
   all_goals simp
   all_goals (try (first|exact hgd|(simp at hgd;first|done|assumption|grind)))
   refine au ?_;refine B1 @hcc ?_;intros;apply wr;by_cases h7:zk=2
   ·rw[if_pos h7]at hx;cases hn:numX zt with
    | none=>rw[hn]at hx;simp at hx
    | some n =>
     rw[hn]at hx;simp only[Option.bind_some]at hx;refine cX (Mh hn) ?_;refine B1 @h7 ?_;rw[IL]at hx;have hap:=GP a (0) (n) ([]);refine au1 (kX5 @hav @hmx @hm3 @hap @hw) ?_;intros;apply wr;exact aX (fun x=>if x=0 then 6 else x) (by rw[hI];exact⟨i+1,(a++[(0,n,[])]),by omega,rfl,⟨hx,by simp;omega⟩,rfl⟩) (kX3 (AA (n:=(i:Int)+1) (by omega) (by omega)) @hap @hw)
   rw[if_neg h7]at hx;simp at hx
  have h3':¬(c.toNat:Int)=110:=VI 110 h3 rfl (by decide);refine B1 @h3' ?_;intros;apply wr;by_cases h4:c=120
  ·subst h4;rw[if_pos (.inr rfl)]at hx;refine CU ?_;intros;apply wr;first|refine BW (HL zt) rfl (fun hgd=>?_) (by simp[BV]) ?_|refine BC (HL zt) rfl (by simp) (fun hgd=>?_) (by simp[BV]) ?_
   all_goals simp
   all_goals (try (first|exact hgd|(simp at hgd;first|done|assumption|grind)))
   refine au ?_;intros;apply wr;by_cases h5:zk=1/\Ti zt=true
   ·rw[if_pos ⟨rfl,h5⟩]at hx;refine EM (kX2 @hcc @h5) ?_;rw[IL]at hx;have hap:=GP a (0) (0) (zt);refine au1 (kX5 @hav @hmx @hm3 @hap @hw) ?_;intros;apply wr;exact aX (fun x=>if x=0 then 4 else x) (by rw[hI];exact⟨i+1,(a++[(0,0,zt)]),by omega,rfl,⟨hx,by simp;omega⟩,rfl⟩) (kX3 (AA (n:=(i:Int)+1) (by omega) (by omega)) @hap @hw)
   rw[if_neg (fun e=>h5 e.2)]at hx;refine AB rfl (fun h=>absurd (by simpa[hcc]using h) h5) (fun _=>?_);refine au ?_;intros;apply wr;by_cases h7:zk=2
   ·rw[if_pos h7]at hx;cases hn:numX zt with
    | none=>rw[hn]at hx;simp at hx
    | some n =>
     rw[hn]at hx;simp only[Option.bind_some]at hx;refine cX (Mh hn) ?_;refine B1 @h7 ?_;rw[IL]at hx;have hap:=GP a (0) (n) ([]);refine au1 (kX5 @hav @hmx @hm3 @hap @hw) ?_;intros;apply wr;exact aX (fun x=>if x=0 then 6 else x) (by rw[hI];exact⟨i+1,(a++[(0,n,[])]),by omega,rfl,⟨hx,by simp;omega⟩,rfl⟩) (kX3 (AA (n:=(i:Int)+1) (by omega) (by omega)) @hap @hw)
   rw[if_neg h7]at hx;simp at hx
  rw[if_neg (fun e=>e.elim h3 h4)]at hx;have h4':¬(c.toNat:Int)=120:=VI 120 h4 rfl (by decide);have hpc:(p.take (i+1)).drop i=[c]:=by rw[List.drop_take,show i+1-i=1 by omega,hdp];rfl
  refine B1 @h4' ?_;intros;apply wr;refine AG 13 [0,1,3,7,15,31,15,15,15,271,975,2047,4095] [(1,([],[])),(1,([],[])),(1,([],[])),(1,([],[])),(7,([[],[0],[],[],[],[4],[2,3,4,5]],[])),(1,([],[])),(1,([],[]))] ?_;refine af1 @hw ?_;intros;apply wr;simp only[hpc];by_cases h6:zk=3/\zt=[c]
  ·rw[if_pos h6]at hx;refine Ae @h6 ?_;intros;apply wr;exact aX (id) (by rw[hI];exact⟨i+1,a,by omega,rfl,⟨hx,by omega⟩,rfl⟩) (kX2 (AA (n:=(i:Int)+1) (by omega) (by omega)) @hw)
  rw[if_neg h6]at hx;simp at hx
 have:i=l.length:=by omega
 subst this;rw[List.drop_length,hlp,List.drop_length,Rq]at hx;simp only[Option.map_some,f7,eQ]at hx;subst hx;refine af1 @htl ?_;refine BU ?_;refine aw ?_;simp
end Go.Proofs.YtjkmhmepljamoaaGreat.As
end
