/- A part of the proof of ReplicaDisk. -/
import Derived.Test.YtjkmhmepljamoaaGreatK11
set_option linter.all false
set_option maxHeartbeats 16000000
set_option maxRecDepth 100000
section
namespace Go.Proofs.YtjkmhmepljamoaaGreat.As
open Go.Ab Go.RowKit Tryz
structure StD where
 what:Str
 op:Int
 l:List ArgD
 line:Int
 at':Int
 size:Int
abbrev StD.row(s:StD):List V:=[.str s.what,.int .i64 s.op,.sl 3 false (HO s.l),.int .i64 s.line,.int .i64 s.at',.int .i64 s.size]
theorem Ap(t:Tok)(l:List Tok):Ct (t::l)=[.int .i64 t.1,.str t.2.1,.bool t.2.2]::Ct l:=rfl
def labR:List Tok->Option (Str×Tok×List Tok)
 | [t]=>some ([],t,[])
 | t::u::r=>if u.2.1=[58]then(match r with
   | w::r=>if t.1=1/\UC t.2.1=true then some (t.2.1,w,r)else none
   | []=>none)else some ([],t,u::r)
 | []=>none
def gapR:List Tok->Bool
 | []=>true
 | t::_=>t.2.2
def parR(s:Str):Option (Str×StD) :=
 if s.any (·==59)=true\/1000<s.length then none else(Oz true s).bind fun l=>if 100<l.length then none else(labR l).bind fun x =>
  if gapR x.2.2=false then none else(patR x.2.1.2.1).bind fun p=>(SR x.2.2 p).map fun a =>
   (x.1,⟨x.2.1.2.1,opD x.2.1.2.1,a,0,0,if x.2.1.2.1=[108,105]then 2 else 1⟩)
theorem XB{l:List Tok}{lb:Str}{w:Tok}{r:List Tok}(h:labR l=some (lb,w,r)):r.length<=l.length:=by
 unfold labR at h
 (repeat' split at h)<;>simp at h<;>(obtain⟨_,_,rfl⟩:=h;simp only[iO,List.length_nil];omega)
theorem XZ{w p:Str}(h:patR w=some p):(w==[46])=false/\w≠[46,115,112,97,99,101]:=by
 have e:(patR [46]).isSome=false/\(patR [46,115,112,97,99,101]).isSome=false:=by decide +kernel
 exact⟨beq_eq_false_iff_ne.2 fun q=>by rw[<- q,h]at e;simp at e,fun q=>by rw[<- q,h]at e;simp at e⟩
set_option maxHeartbeats 32000000 in
theorem US(s lb:Str)(st:StD)(h0:parR s=some (lb,st)):AC prog 163 [.str s] (.tup [.str lb,.st st.row,.bool true]):=by
 unfold parR at h0;split at h0
 ·cases h0
 rename_i h59;obtain⟨h59,hsl⟩:=not_or.1 h59;obtain⟨l,ht,h0⟩:=Option.bind_eq_some_iff.1 h0;split at h0
 ·cases h0
 rename_i hl1;obtain⟨⟨lb',⟨wk,ww,wg⟩,r⟩,hlr,h0⟩:=Option.bind_eq_some_iff.1 h0;simp only at h0;split at h0
 ·cases h0
 rename_i hg;obtain⟨p,hp,h0⟩:=Option.bind_eq_some_iff.1 h0;obtain⟨a,hm,h0⟩:=Option.map_eq_some_iff.1 h0;cases h0;have hno:∀k,k<s.length->s[k]?.getD 0≠59:=fun k hk e=>h59 (List.any_eq_true.2 ⟨_,List.getElem_mem hk,by rw[gR hk]at e;simpa using e⟩);obtain⟨hpd,hps⟩:=XZ hp;refine sX func163 ntmps163 ?_;(repeat intro K hK);apply wr;obtain⟨I,hI⟩:∃I:Nat->St->Prop,I=(fun kk ss=>∃(i:Nat),i<=s.length/\kk=s.length-i/\(True)/\ss=⟨154,[(5,.int .i64 i),(3,.ptr 0 6 0 0),(0,.str s)],1,[(0,some ⟨190,6,true,false,[[.str [],.int .i64 0,.sl 0 true [],.int .i64 0,.int .i64 0,.int .i64 0]]⟩)],0⟩):=⟨_,rfl⟩;refine lX I (id) (by rw[hI];exact⟨0,by simp,rfl,trivial,rfl⟩) ?_;intro kk ss hIk _;rw[hI]at hIk;obtain⟨i,hi,rfl,hx,rfl⟩:=hIk;have hw:IntKind.i64.wrap ((i:Int)+1)=(i:Int)+1:=AA;refine au ?_;(repeat intro K hK);apply wr;by_cases hi':i<s.length
 ·have h59':¬(((s[i]?.getD 0).toNat):Int)=59:=V5 59 (hno i hi') rfl (by decide);refine ED @hi' ?_;refine EP @h59' @hw ?_;(repeat intro K hK);apply wr;exact aX (id) (by rw[hI];exact⟨i+1,by omega,rfl,trivial,rfl⟩) (kX2 (AA (n:=(i:Int)+1)) @hw)
 refine BU @hi' ?_;refine cX (V1 s l (by omega) ht) ?_;(repeat intro K hK);apply wr;refine cF0 rfl ?_
 iterate 6 (first|(with_reducible first|refine B5 fun K hK=>?_|refine BK ?_)|((with_reducible first|refine Au (by kernel_rfl) ?_|refine Bb ?_|refine B8 ?_|refine Ba ?_|refine B9 ?_|refine B6 ?_|refine B2 ?_);simp)|((repeat ((fail_if_success ((with_reducible refine hK _ ?_)));clear hK));(with_reducible refine hK _ ?_);clear hK)|refine And.intro (by first|omega|assumption|grind) ?_)
 have hrl:=XB hlr;refine Cc (α:=Nat) (fun n=>(⟨154,[(8,.str lb),(6,.sl 3 false (Ct ((wk,ww,wg)::r))),(3,.ptr 0 6 0 0)],1,[(0,some ⟨190,6,true,false,[[.str [],.int .i64 0,.sl 0 true [],.int .i64 0,.int .i64 0,.int .i64 0]]⟩)],0⟩:St)) (fun n=>True) hK (fun n hxhA=>?_) (fun hA=>?_);all_goals clear hK
 ·have hne:¬((Ct r).length:Int)+1=0:=by omega
  refine au1 @Ap ?_;(repeat intro K hK);apply wr;refine cF1 @hne rfl ?_
  iterate 10 (first|(with_reducible first|refine B5 fun K hK=>?_|refine BK ?_)|((with_reducible first|refine Au (by kernel_rfl) ?_|refine Bb ?_|refine B8 ?_|refine Ba ?_|refine B9 ?_|refine B6 ?_|refine B2 ?_);simp)|((repeat ((fail_if_success ((with_reducible refine hK _ ?_)));clear hK));(with_reducible refine hK _ ?_);clear hK)|refine And.intro (by first|omega|assumption|grind) ?_)
  refine Cc (α:=Nat) (fun n=>(⟨154,[(9,.str ww),(10,.sl 3 false (Ct r)),(8,.str lb),(3,.ptr 0 6 0 0)],1,[(0,some ⟨190,6,true,false,[[.str [],.int .i64 0,.sl 0 true [],.int .i64 0,.int .i64 0,.int .i64 0]]⟩)],0⟩:St)) (fun n=>True) hK (fun n hxhB=>?_) (fun hB=>?_);all_goals clear hK
  ·refine au ?_;refine cc (Re hp) ?_;(repeat intro K hK)
   iterate 2 (first|(with_reducible first|refine B5 fun K hK=>?_|refine BK ?_)|((with_reducible first|refine Au (by kernel_rfl) ?_|refine Bb ?_|refine B8 ?_|refine Ba ?_|refine B9 ?_|refine B6 ?_|refine B2 ?_);simp)|((repeat ((fail_if_success ((with_reducible refine hK _ ?_)));clear hK));(with_reducible refine hK _ ?_);clear hK)|refine And.intro (by first|omega|assumption|grind) ?_)
   refine Cc (α:=Nat) (fun n=>(⟨154,[(11,.str p),(9,.str ww),(10,.sl 3 false (Ct r)),(8,.str lb),(3,.ptr 0 6 0 0)],1,[(0,some ⟨190,6,true,false,[[.str [],.int .i64 0,.sl 0 true [],.int .i64 0,.int .i64 0,.int .i64 0]]⟩)],0⟩:St)) (fun n=>True) hK (fun n hxhC=>?_) (fun hC=>?_);all_goals clear hK
   ·refine au ?_;refine cX (RY r p a (by omega) hm) ?_;refine C3 ?_;refine cX (Hu ww) ?_;(repeat intro K hK);apply wr;by_cases h1:ww=[108,105]
    ·refine ED @h1 ?_;(repeat intro K hK);apply wr;refine AD 5 [0,0,1,7,15] [(3,([[],[],[0]],[])),(1,([],[])),(1,([],[]))] ?_;refine af ?_;refine aw ?_;simp[h1]
    refine Ac @h1 ?_;refine Ac @hps ?_;(repeat intro K hK);apply wr;refine AD 5 [0,0,1,7,15] [(3,([[],[],[0]],[])),(1,([],[])),(1,([],[]))] ?_;refine af ?_;refine aw ?_;simp[h1]
   cases r with
   | nil =>
    refine af ?_;refine BN ?_;(repeat intro K hK);apply wr;refine hC 0 _ (id) (trivial) ⟨rfl,?_,?_,?_,by simp⟩
    ·simp[leT,ltV,lt1,ren,BE]
    ·simp[leO,lt1,BE]
    (simp;try omega)
   | cons u q =>
    have hu:u.2.2=true:=by simpa[gapR]using hg
    have hlt1:(0:Int)<((Ct q).length:Int)+1:=by omega
    refine af1 (kX2 @Ap @hlt1) ?_;refine Ac @hu ?_;(repeat intro K hK);apply wr;refine hC 0 _ (id) (trivial) ⟨rfl,?_,?_,?_,by simp⟩
    ·simp[leT,ltV,lt1,ren,BE,Ap]
    ·simp[leO,lt1,BE,Ap]
    (simp;try omega)
  cases r with
  | nil =>
   refine af1 (kX2 @Ap @hpd) ?_;refine Ac @hpd ?_;(repeat intro K hK);apply wr;refine hB 0 _ (id) (trivial) ⟨rfl,?_,?_,?_,by simp⟩
   ·simp[leT,ltV,lt1,ren,BE,Ap]
   ·simp[leO,lt1,BE,Ap]
   (simp;try omega)
  | cons u q =>
   have hle2:(2:Int)<=((Ct q).length:Int)+1+1:=by omega
   have htn:(((Ct q).length:Int)+1+1).toNat=(Ct q).length+1+1:=by omega
   refine af1 (kX3 @Ap @hle2 @htn) ?_;refine Ac @hpd ?_;(repeat intro K hK);apply wr;refine hB 0 _ (id) (trivial) ⟨rfl,?_,?_,?_,by simp⟩
   ·simp[leT,ltV,lt1,ren,BE,Ap,htn]
   ·simp[leO,lt1,BE,Ap,htn]
   (simp;try omega)
 match l,hlr with
 | [t],hlr =>
  cases hlr;refine af1 @Ap ?_;refine BN ?_;(repeat intro K hK);apply wr;refine hA 0 _ (id) (trivial) ⟨rfl,?_,?_,?_,by simp⟩
  ·simp[leT,ltV,lt1,ren,BE,Ap]
  ·simp[leO,lt1,BE,Ap]
  (simp;try omega)
 | t::u::r',hlr =>
  have hle2:(2:Int)<=((Ct r').length:Int)+1+1:=by omega
  refine af1 (kX2 @Ap @hle2) ?_;(repeat intro K hK);apply wr;unfold labR at hlr;simp only at hlr;by_cases h1:u.2.1=[58]
  ·rw[if_pos h1]at hlr;refine Cg @h1 @Ap ?_;(repeat intro K hK);apply wr;first|refine B0 (H4 t.2.1) rfl (fun hgd=>?_) (by simp[BY]) ?_|refine BI (H4 t.2.1) rfl (by simp) (fun hgd=>?_) (by simp[BY]) ?_
   all_goals simp
   all_goals (try (first|exact hgd|(simp at hgd;first|done|assumption|grind)))
   refine af ?_;(repeat intro K hK);apply wr;split at hlr
   ·split at hlr
    ·rename_i h2;cases hlr;have htn:(((Ct r).length:Int)+1+1+1).toNat=(Ct r).length+1+1+1:=by omega
     refine Cw @h2 @hle2 ?_;(repeat intro K hK);apply wr;refine hA 0 _ (id) (trivial) ⟨rfl,?_,?_,?_,by simp⟩
     ·simp[leT,ltV,lt1,ren,BE,Ap,htn]
     ·simp[leO,lt1,BE,Ap,htn]
     (simp;try omega)
    cases hlr
   cases hlr
  rw[if_neg h1]at hlr;cases hlr;refine Ac @h1 ?_;(repeat intro K hK);apply wr;refine hA 0 _ (id) (trivial) ⟨rfl,?_,?_,?_,by simp⟩
  ·simp[leT,ltV,lt1,ren,BE,Ap]
  ·simp[leO,lt1,BE,Ap]
  (simp;try omega)
@[simp] theorem symsV_nil:FY []=[]:=rfl
structure PrR where
 syms:List (Str×Int)
 sts:List StD
 at':Int
abbrev prR0:PrR:=⟨[],[],0⟩
def Ox(l:List StD):List (List V):=l.map StD.row
@[simp] theorem stsV_nil:Ox []=[]:=rfl
theorem Qa(l:List StD):(Ox l).length=l.length:=by simp[Ox]
theorem YU(l:List StD)(s:StD)(n a:Int):Ox l++[[.str s.what,.int .i64 s.op,.sl 3 false (HO s.l),.int .i64 n,.int .i64 a,.int .i64 s.size]]=Ox (l++[{s with line:=n,at':=a}]):=by simp[Ox]
def labS(lb:Str)(S:List (Str×Int))(a:Int):Option (List (Str×Int)) :=
 if lb=[]then some S else if(Js lb S).isSome=true then none else some (S++[(lb,4*a)])
def ZY:List Str->Int->PrR->Option PrR
 | [],_,p=>some p
 | t::ts,n,p=>(parR t).bind fun x=>(labS x.1 p.syms p.at').bind fun S =>
  if x.2.what≠[]/\(0<=p.at'/\p.at'<=1000)/\0<=x.2.size/\x.2.size<=2 then ZY ts (n+1) ⟨S,p.sts++[{x.2 with line:=n,at':=p.at'}],p.at'+x.2.size⟩else none
set_option maxHeartbeats 32000000 in
theorem dT(s:Str)(L:List Str)(P:PrR)(hsl:s.length<=8192)(hL:lnF s [] []=some L)(hLl:L.length<=1000)(h0:ZY L 1 prR0=some P):AC prog 96 [.str s] (.tup [.sl 2 false (FY P.syms),.sl 6 false (Ox P.sts),.st [.int .i64 0,.int .i64 0]]):=by
 refine sX func96 ntmps96 ?_;have h:¬(8192:Int)<s.length:=by omega
 refine BU @h ?_;refine cX (LO s L (by omega) hL) ?_;(repeat intro K hK);apply wr;refine AT 5 277 2 (by decide) rfl ?_;refine AT 6 190 6 (by decide) rfl ?_;simp;obtain⟨I,hI⟩:∃I:Nat->St->Prop,I=(fun kk ss=>∃(i:Nat)(p:PrR),i<=L.length/\kk=L.length-i/\(ZY (L.drop i) ((i:Int)+1) p=some P/\p.sts.length<=i/\p.syms.length<=i)/\ss=⟨85,[(9,.int .i64 i),(5,.own 2),(7,.int .i64 p.at'),(6,.own 3),(8,.own 1),(4,.ptr 0 2 0 0)],4,[(0,some ⟨115,2,true,false,[[.int .i64 0,.int .i64 0]]⟩),(1,some ⟨9,1,false,false,strs L⟩),(2,some ⟨277,2,false,false,FY p.syms⟩),(3,some ⟨190,6,false,false,Ox p.sts⟩)],0⟩):=⟨_,rfl⟩;refine lX I (id) (by rw[hI];exact⟨0,prR0,by simp,rfl,⟨h0,by simp⟩,rfl⟩) ?_;intro kk ss hIk _;rw[hI]at hIk;obtain⟨i,p,hi,rfl,hx,rfl⟩:=hIk;obtain⟨hx,hx4,hx5⟩:=hx;obtain⟨S,T,w⟩:=p;simp only at hx hx4 hx5 ⊢;have hsl:=BV L;have hSl:=N2 S;have hTl:=Qa T;have hw:IntKind.i64.wrap ((i:Int)+1)=(i:Int)+1:=AA;refine au1 @hsl ?_;(repeat intro K hK);apply wr;by_cases hi':i<L.length
 ·obtain⟨t,ht⟩:∃t,t=L[i]:=⟨_,rfl⟩;have hgs:(strs L)[i]? =some [.str t]:=by rw[ht];exact fK L i hi'
  rw[List.drop_eq_getElem_cons hi',<- ht,ZY]at hx;obtain⟨⟨lb,st⟩,hpr,hx⟩:=Option.bind_eq_some_iff.1 hx;obtain⟨q,hq,hx⟩:=Option.bind_eq_some_iff.1 hx;simp only at hq hx;split at hx
  ·rename_i hz;obtain⟨hz1,⟨hx2,hx3⟩,hz2,hz3⟩:=hz;refine DI @hi' (kX2 @hgs @hsl) ?_;refine cX (US t lb st hpr) ?_;(repeat intro K hK);apply wr;refine cF0 rfl ?_
   iterate 3 (first|(with_reducible first|refine B5 fun K hK=>?_|refine BK ?_)|((with_reducible first|refine Au (by kernel_rfl) ?_|refine Bb ?_|refine B8 ?_|refine Ba ?_|refine B9 ?_|refine B6 ?_|refine B2 ?_);simp)|((repeat ((fail_if_success ((with_reducible refine hK _ ?_)));clear hK));(with_reducible refine hK _ ?_);clear hK)|refine And.intro (by first|omega|assumption|grind) ?_)
   refine Cc (α:=Nat) (fun n=>(⟨85,[(5,.own 2),(11,.ptr 4 6 0 0),(9,.int .i64 i),(7,.int .i64 w),(6,.own 3),(8,.own 1),(4,.ptr 0 2 0 0)],5,[(0,some ⟨115,2,true,false,[[.int .i64 0,.int .i64 0]]⟩),(1,some ⟨9,1,false,false,strs L⟩),(2,some ⟨277,2,false,false,FY q⟩),(3,some ⟨190,6,false,false,Ox T⟩),(4,some ⟨190,6,true,false,[st.row]⟩)],0⟩:St)) (fun n=>q.length<=i+1) hK (fun n hxhA=>?_) (fun hA=>?_);all_goals clear hK
   ·have hone2:=YU T st ((i:Int)+1) w;have hmx2:(Ox T).length+1<=maxLen:=by rw[hTl];simp[maxLen];omega
    have hm6:(T.length+1)*80<=140737488355328:=by omega
    have hws:IntKind.i64.wrap (w+st.size)=w+st.size:=AA;have hgt:¬1024<w+st.size:=by omega
    refine au ?_;refine DI @hz1 (kX6 @hw @hws @hone2 @hmx2 @hm6 @hTl) ?_;refine EP @hgt @hw ?_;(repeat intro K hK);apply wr;exact aX (fun x=>if x=3 then 6 else x) (by rw[hI];exact⟨i+1,(PrR.mk q (T++[{st with line:=(i:Int)+1,at':=w}]) (w+st.size)),by omega,rfl,⟨by push_cast;exact hx,by simp;omega,hxhA⟩,rfl⟩) (kX4 (AA (n:=(i:Int)+1)) @hw @hone2 @hws)
   refine au ?_;(repeat intro K hK);apply wr;unfold labS at hq;split at hq
   ·rename_i hlb;cases hq;refine BU @hlb ?_;(repeat intro K hK);apply wr;refine hA 0 _ (fun x=>if x=4 then 12 else x) (by omega) ⟨rfl,?_,?_,?_,by simp⟩
    ·simp[leT,ltV,lt1,ren,BE]
    ·simp[leO,lt1,BE]
    (simp;try omega)
   rename_i hlb;split at hq
   ·cases hq
   rename_i hfd;cases hq;refine ED @hlb ?_;refine cn (KC S lb (by omega)) ?_;refine au ?_;have hone:=VW S lb (4*w);have hmx:(FY S).length+1<=maxLen:=by rw[hSl];simp[maxLen];omega
   have hm2:(S.length+1)*24<=140737488355328:=by omega
   have hw4:IntKind.i64.wrap (4*w)=4*w:=AA;have hu4:IntKind.u32.wrap (4*w)=4*w:=by rw[IntKind.wrap_u32];omega
   refine EP @hfd (kX6 @hw4 @hu4 @hone @hmx @hm2 @hSl) ?_;(repeat intro K hK);apply wr;refine hA 0 _ (fun x=>if x=4 then 12 else if x=2 then 16 else x) (by simp;omega) ⟨rfl,?_,?_,?_,by simp⟩
   ·simp[leT,ltV,lt1,ren,BE,hone,hw4,hu4]
   ·simp[leO,lt1,BE,hone,hw4,hu4]
   (simp;try omega)
  cases hx
 rw[List.drop_eq_nil_of_le (by omega),ZY]at hx;cases hx;refine BU @hi' ?_;refine aw ?_;simp
abbrev arg0:ArgD:=(0,0,[])
abbrev ZR(op:Int)(a:List ArgD):Prop:=(AK op=2->3<=a.length)/\(32<=op/\op<=36->3<=a.length)/\(6<=AK op->1<=a.length)/\(AK op≠1->AK op<6->2<=a.length)
def Mr(op:Int)(a:List ArgD)(x:Int):InstD :=
 if AK op=2 then⟨op,(a.getD 0 arg0).1,(a.getD 1 arg0).1,(a.getD 2 arg0).1,x⟩
 else if 32<=op/\op<=36 then⟨op,(a.getD 0 arg0).1,(a.getD 2 arg0).1,0,x⟩
 else if 6<=AK op then⟨op,(a.getD 0 arg0).1,0,0,x⟩
 else if AK op≠1 then⟨op,(a.getD 0 arg0).1,(a.getD 1 arg0).1,0,x⟩
 else⟨op,0,0,0,x⟩
def Ju(op:Int)(a:List ArgD)(v:Int):Int :=
 if AK op=2\/AK op=1 then 0 else if 32<=op/\op<=36 then(a.getD 1 arg0).2.1 else v
def RP(op:Int)(a:List ArgD)(v:Int):Option Int :=
 if Ju op a v<By (AK op)\/Al (AK op)<Ju op a v then none
 else if validD (Mr op a (Ju op a v))=true then some (Wb (Mr op a (Ju op a v)))else none
theorem Cm(l:List ArgD)(i:Nat)(h:i<l.length):(HO l)[i]? =some [.int .i64 (l.getD i arg0).1,.int .i64 (l.getD i arg0).2.1,.str (l.getD i arg0).2.2]:=by
 simp[HO,h,gP]
theorem low_ge(f:Int):-2147483648<=By f:=by unfold By;split<;>decide
theorem bZ(f:Int):Al f<=2147483647:=by unfold Al;(repeat' split)<;>decide
set_option maxHeartbeats 32000000 in
theorem ON(st:StD)(v u:Int)(ho:ZR st.op st.l)(h0:RP st.op st.l v=some u):AC prog 99 [.st st.row,.int .i64 v] (.tup [.int .u32 u,.bool true]):=by
 obtain⟨o1,o2,o3,o4⟩:=ho;obtain⟨w,op,a,ln,at',sz⟩:=st;simp only at o1 o2 o3 o4 h0 ⊢;refine sX func99 ntmps99 ?_;refine cX (JH op) ?_;refine cc (ML (AK op)) ?_;(repeat intro K hK)
 iterate 5 (first|(with_reducible first|refine B5 fun K hK=>?_|refine BK ?_)|((with_reducible first|refine Au (by kernel_rfl) ?_|refine Bb ?_|refine B8 ?_|refine Ba ?_|refine B9 ?_|refine B6 ?_|refine B2 ?_);simp)|((repeat ((fail_if_success ((with_reducible refine hK _ ?_)));clear hK));(with_reducible refine hK _ ?_);clear hK)|refine And.intro (by first|omega|assumption|grind) ?_)
 have hf:=Eh op;refine Cc (α:=Int×Int×Int×Int) (fun⟨x,A,B,C⟩=>(⟨107,[(9,.int .i64 (Al (AK op))),(8,.int .i64 (By (AK op))),(7,.int .i64 (AK op)),(6,.ptr 1 5 0 0),(1,.int .i64 x)],2,[(1,some ⟨198,5,true,false,[[.int .i64 op,.int .i64 A,.int .i64 B,.int .i64 C,.int .i32 0]]⟩)],0⟩:St)) (fun⟨x,A,B,C⟩=>(∀y,Mr op a y=⟨op,A,B,C,y⟩)/\Ju op a v=(if AK op=2\/AK op=1 then 0 else x)) hK (fun⟨x,A,B,C⟩ hxhJ=>?_) (fun hJ=>?_);all_goals clear hK
 ·obtain⟨hj1,hj2⟩:=hxhJ;have hlo:=low_ge (AK op);have hhi:=bZ (AK op);refine au ?_;(repeat intro K hK);apply wr;by_cases c0:AK op=2\/AK op=1
  ·rw[if_pos c0]at hj2;refine AB rfl (fun _=>?_) (fun h=>absurd c0 (by simpa using h));refine au ?_;(repeat intro K hK);apply wr;by_cases c9:0<By (AK op)\/Al (AK op)<0
   ·unfold RP at h0;rw[hj2,if_pos c9]at h0;cases h0
   unfold RP at h0;rw[hj2,if_neg c9,hj1]at h0;split at h0
   ·rename_i hvd;cases h0;have hw:IntKind.i32.wrap (0)=0:=by rw[IntKind.wrap_i32];omega
    refine AB rfl (fun h=>absurd (by simpa using h) c9) (fun _=>?_);refine au1 @hw ?_;refine cX (Fg ⟨op,A,B,C,0⟩ ⟨by simp only;omega,by simp only;omega⟩) ?_;refine ar ?_;simp[hvd]
   cases h0
  rw[if_neg c0]at hj2;refine AB rfl (fun h=>absurd (by simpa using h) c0) (fun _=>?_);refine au ?_;(repeat intro K hK);apply wr;by_cases c9:x<By (AK op)\/Al (AK op)<x
  ·unfold RP at h0;rw[hj2,if_pos c9]at h0;cases h0
  unfold RP at h0;rw[hj2,if_neg c9,hj1]at h0;split at h0
  ·rename_i hvd;cases h0;have hw:IntKind.i32.wrap (x)=x:=by rw[IntKind.wrap_i32];omega
   refine AB rfl (fun h=>absurd (by simpa using h) c9) (fun _=>?_);refine au1 @hw ?_;refine cX (Fg ⟨op,A,B,C,x⟩ ⟨by simp only;omega,by simp only;omega⟩) ?_;refine ar ?_;simp[hvd]
  cases h0
 by_cases c1:AK op=2
 ·have g0:=Cm a 0 (by have:=o1 c1;omega);have g1:=Cm a 1 (by have:=o1 c1;omega);have g2:=Cm a 2 (by have:=o1 c1;omega);refine au ?_;refine ED @c1 ?_;(repeat intro K hK);apply wr;refine AD 18 [0,1,3,7,0,16,48,112,0,256,768,1792,15,4111,12543,28927,65535,131071] [(16,([[],[0],[0,1],[0,1,2],[],[4],[4,5],[4,5,6],[],[8],[8,9],[8,9,10],[0,1,2,3],[0,1,2,3,12],[0,1,2,3,4,5,6,7,12,13],[0,1,2,3,4,5,6,7,12,13,14]],[(5,13),(7,13),(9,13),(9,15),(11,13),(11,15)])),(1,([],[])),(1,([],[]))] ?_;refine af1 (kX3 @g0 @g1 @g2) ?_;refine af ?_;(repeat intro K hK);apply wr;refine hJ ⟨v,(a.getD 0 arg0).1,(a.getD 1 arg0).1,(a.getD 2 arg0).1⟩ _ (id) (⟨fun y=>by simp only[Mr,if_pos c1],by simp[Ju,c1]⟩) ⟨rfl,?_,?_,?_,by simp⟩
  ·simp[leT,ltV,lt1,ren,BE]
  ·simp[leO,lt1,BE]
  (simp;try omega)
 refine af ?_;refine Ac @c1 ?_;(repeat intro K hK);apply wr;by_cases c2:32<=op/\op<=36
 ·have g0:=Cm a 0 (by have:=o2 c2;omega);have g1:=Cm a 1 (by have:=o2 c2;omega);have g2:=Cm a 2 (by have:=o2 c2;omega);have hf3:AK op=3:=by unfold AK;rw[nG,nH]
  refine Ei @c2 ?_;(repeat intro K hK);apply wr;refine AD 12 [0,1,3,7,0,16,48,112,15,271,1023,2047] [(10,([[],[0],[0,1],[0,1,2],[],[4],[4,5],[4,5,6],[0,1,2,3],[0,1,2,3,8]],[(5,9),(7,9)])),(1,([],[])),(1,([],[]))] ?_;refine af1 (kX3 @g0 @g1 @g2) ?_;refine af1 (kX3 @g0 @g1 @g2) ?_;(repeat intro K hK);apply wr;refine hJ ⟨(a.getD 1 arg0).2.1,(a.getD 0 arg0).1,(a.getD 2 arg0).1,0⟩ _ (id) (⟨fun y=>by simp only[Mr,if_neg c1,if_pos c2],by simp[Ju,hf3,c2]⟩) ⟨rfl,?_,?_,?_,by simp⟩
  ·simp[leT,ltV,lt1,ren,BE]
  ·simp[leO,lt1,BE]
  (simp;try omega)
 refine AB rfl (fun h=>absurd (by simpa using h) c2) (fun _=>?_);refine af ?_;(repeat intro K hK);apply wr;by_cases c3:6<=AK op
 ·have g0:=Cm a 0 (by have:=o3 c3;omega);refine Cg @c3 @g0 ?_;(repeat intro K hK);apply wr;refine hJ ⟨v,(a.getD 0 arg0).1,0,0⟩ _ (id) (⟨fun y=>by simp only[Mr,if_neg c1,if_neg c2,if_pos c3],by simp only[Ju,if_neg c2]⟩) ⟨rfl,?_,?_,?_,by simp⟩
  ·simp[leT,ltV,lt1,ren,BE]
  ·simp[leO,lt1,BE]
  (simp;try omega)
 refine Ac @c3 ?_;(repeat intro K hK);apply wr;by_cases c4:AK op=1
 ·refine Ac @c4 ?_;(repeat intro K hK);apply wr;refine hJ ⟨v,0,0,0⟩ _ (id) (⟨fun y=>by simp only[Mr,if_neg c1,if_neg c2,if_neg c3,c4];rfl,by simp only[Ju,if_neg c2]⟩) ⟨rfl,?_,?_,?_,by simp⟩
  ·simp[leT,ltV,lt1,ren,BE]
  ·simp[leO,lt1,BE]
  (simp;try omega)
 have g0:=Cm a 0 (by have:=o4 c4 (by omega);omega);have g1:=Cm a 1 (by have:=o4 c4 (by omega);omega);refine Ei @c4 ?_;(repeat intro K hK);apply wr;refine AD 12 [0,1,3,7,0,16,48,112,15,271,1023,2047] [(10,([[],[0],[0,1],[0,1,2],[],[4],[4,5],[4,5,6],[0,1,2,3],[0,1,2,3,8]],[(5,9),(7,9)])),(1,([],[])),(1,([],[]))] ?_;refine af1 (kX2 @g0 @g1) ?_;refine af ?_;(repeat intro K hK);apply wr;refine hJ ⟨v,(a.getD 0 arg0).1,(a.getD 1 arg0).1,0⟩ _ (id) (⟨fun y=>by simp only[Mr,if_neg c1,if_neg c2,if_neg c3,if_pos c4],by simp only[Ju,if_neg c2]⟩) ⟨rfl,?_,?_,?_,by simp⟩
 ·simp[leT,ltV,lt1,ren,BE]
 ·simp[leO,lt1,BE]
 (simp;try omega)
end Go.Proofs.YtjkmhmepljamoaaGreat.As
end
