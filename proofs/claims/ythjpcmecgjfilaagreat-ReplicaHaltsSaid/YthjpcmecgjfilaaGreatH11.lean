/- A part of the proof of ReplicaHalts. -/
import Derived.Test.YthjpcmecgjfilaaGreatH10
set_option linter.unusedSimpArgs false
set_option linter.unusedVariables false
set_option maxHeartbeats 16000000
set_option maxRecDepth 100000
section
namespace Go.Proofs.YthjpcmecgjfilaaGreat.As
open Go.Ab Go.RowKit Tryz
abbrev ArgD:=Int × Int × Str
abbrev argV (a:ArgD):List V:=[.int .i64 a.1,.int .i64 a.2.1,.str a.2.2]
def zDV (l:List ArgD):List (List V):=l.map argV
@[simp] theorem argsV_nil:zDV []=[]:=rfl
theorem zJJ (l:List ArgD):(zDV l).length=l.length:=by simp [zDV]
theorem zEW (l:List ArgD) (r n:Int) (t:Str):zDV l++[[.int .i64 r,.int .i64 n,.str t]]=zDV (l++[(r,n,t)]):=by simp [zDV]
def matF:List Tok->Str->Option (List ArgD)
 | [],[]=>some []
 | t::l,c::p =>
  if c=114 then (if t.1=1 then (match regN t.2.1 with
   | some q=>(matF l p).map (((q:Int),0,[])::·)
   | none=>none) else none)
  else if c=110\/c=120 then
   (if c=120/\t.1=1/\zNY t.2.1=true then (matF l p).map ((0,0,t.2.1)::·)
   else if t.1=2/\(numX t.2.1).2=true then (matF l p).map ((0,(numX t.2.1).1,[])::·) else none)
  else if t.1=3/\t.2.1=[c] then matF l p else none
 | _,_=>none
theorem zIn:∀ (l:List Tok) (p:Str),l.length≠p.length->matF l p=none
 | [],[],h=>absurd rfl h
 | [],_::_,_=>rfl
 | _::_,[],_=>rfl
 | t::l,c::p,h=>by
  have e:=zIn l p (by simpa using h)
  simp only [matF,e,Option.map_none]
  (repeat' split)<;>rfl
def matV (l:List Tok) (p:Str):V:=match matF l p with
 | some a=>.tup [.sl 3 false (zDV a),.bool true]
 | none=>.tup [.sl 3 true [],.bool false]
theorem zGA {l:List ArgD} {t:ArgD} {o:Option (List ArgD)}:(o.map (t::·)).map (l++·)=o.map ((l++[t])++·):=by
 cases o<;>simp
theorem zSp (l:List Tok) (i:Nat) (h:i<l.length):(zBg l)[i]? =some (tokV l[i]):=by simp [zBg,h]
set_option maxHeartbeats 32000000 in
theorem zNV (l:List Tok) (p:Str) (hl:l.length<=1000000) (ht:∀ t∈l,t.2.1.length<=1000000):zAD prog 207 [.sl 3 false (zBg l),.str p] (matV l p):=by
 have htl:=zKT l;refine sX func207 ntmps207 ?_;intros;apply wr;by_cases hlp:l.length=p.length
 ·have hlp':((l.length:Int)=(p.length:Int)):=by omega
  refine gF10 (kX2 @htl @hlp') rfl ?_;intros;apply wr;refine zAT 6 218 3 (by decide) rfl ?_
  obtain ⟨I,hI⟩:∃ I:Nat->St->Prop,I=(fun kk ss=>∃ (i:Nat) (a:List ArgD),i<=l.length/\kk=l.length-i/\(matF l p=(matF (l.drop i) (p.drop i)).map (a++·)/\a.length<=i)/\ss=⟨106,[(7,.int .i64 i),(6,.own 0),(0,.sl 3 false (zBg l)),(1,.str p)],1,[(0,some ⟨218,3,false,false,zDV a⟩)],0⟩):=⟨_,rfl⟩
  refine lX I (id) (by rw [hI];exact ⟨0,[],by simp,rfl,⟨by simp,zV9 _⟩,rfl⟩) ?_
  intro kk ss hIk _
  rw [hI] at hIk;obtain ⟨i,a,hi,rfl,hx,rfl⟩:=hIk;obtain ⟨hx,hal⟩:=hx;have hav:=zJJ a;have hmx:(zDV a).length+1<=maxLen:=by rw [hav];simp [maxLen];omega
  have hm3:(a.length+1)*32<=140737488355328:=by omega
  have hw:IntKind.i64.wrap ((i:Int)+1)=(i:Int)+1:=zAA (by omega) (by omega)
  by_cases hi':i<l.length
  ·obtain ⟨z,hz⟩:∃ z,z=l[i]:=⟨_,rfl⟩;have hzm:z.2.1.length<=1000000:=ht z (by rw [hz];exact zWU hi')
   have hget:(zBg l)[i]? =some (tokV z):=by rw [hz];exact zSp _ i hi'
   have hdl:l.drop i=z::l.drop (i+1):=by rw [zWZ hi',hz]
   have hip:i<p.length:=by omega
   obtain ⟨c,hc⟩:∃ c,c=p.getD i 0:=⟨_,rfl⟩;have hcc:p[i]?.getD 0=c:=by rw [hc,zV1]
   have hdp:p.drop i=c::p.drop (i+1):=by rw [zWZ hip,hc,zV1,zV3 hip];rfl
   rw [hdl,hdp,matF] at hx;obtain ⟨zk,zt,zg⟩:=z;simp only at hx hget hzm;refine au1 @htl ?_;intros;apply wr;refine gT11 @hi' rfl (kX3 @hget @hcc @htl) ?_;intros;apply wr;by_cases h1:c=114
   ·subst h1;rw [if_pos rfl] at hx;refine gT00 rfl ?_;intros;apply wr;refine cX (zMb zt) ?_;intros;apply wr;by_cases hk1:zk=1
    ·subst hk1;rw [if_pos rfl] at hx;cases hr:regN zt with
     | none =>
      simp only [hr] at hx;have hv:matV l p=.tup [.sl 3 true [],.bool false]:=by unfold matV;rw [hx];rfl
      refine gT00 rfl ?_;intros;apply wr;refine zAB ?_;simp [hv]
     | some q =>
      simp only [hr] at hx;refine gF00 rfl ?_;intros;apply wr;rw [zGA] at hx;have hap:=zEW a ((q:Int)) (0) ([]);refine au1 (kX5 @hav @hmx @hm3 @hap @hw) ?_;intros;apply wr;exact aX (fun x=>if x=0 then 5 else x) (by rw [hI];exact ⟨i+1,(a++[((q:Int),0,[])]),by omega,rfl,⟨hx,by simp;omega⟩,rfl⟩) (kX3 (zAA (n:=(i:Int)+1) (by omega) (by omega)) @hap @hw)
    rw [if_neg hk1] at hx;have hv:matV l p=.tup [.sl 3 true [],.bool false]:=by unfold matV;rw [hx];rfl
    refine gT10 @hk1 rfl ?_;intros;apply wr;refine zAB ?_;simp [hv]
   rw [if_neg h1] at hx;have h1':¬ ((c.toNat:Int)=114):=fun e=>h1 (UInt8.toNat_inj.1 (by simp;omega))
   refine gF10 @h1' rfl ?_;intros;apply wr;by_cases h2:c=110\/c=120
   ·rw [if_pos h2] at hx;by_cases h3:c=110
    ·rw [if_neg (fun e=>by have:=e.1;rw [h3] at this;revert this;decide)] at hx
     have hc1:(c.toNat:Int)=110:=by rw [h3];rfl
     have hc2:¬ (c.toNat:Int)=120:=by omega
     refine gT10 @hc1 rfl ?_;intros;apply wr;refine gT10 @hc1 rfl ?_;intros;apply wr
     first|refine zA9 (zFL zt) rfl (fun hgd=>?_) (by simp [obsL]) ?_|refine zAq (zFL zt) rfl (by simp) (fun hgd=>?_) (by simp [obsL]) ?_
     all_goals simp
     all_goals (try (first|exact hgd|(simp at hgd;first|done|assumption|grind)))
     refine au ?_;intros;apply wr;refine gF10 (kX2 @hcc @hc2) rfl ?_;intros;apply wr;refine cX (zJ5 zt hzm) ?_;intros;apply wr;by_cases h7:zk=2/\(numX zt).2=true
     ·rw [if_pos h7] at hx;refine gF10 @h7 rfl ?_;intros;apply wr;rw [zGA] at hx;have hap:=zEW a (0) ((numX zt).1) ([]);refine au1 (kX5 @hav @hmx @hm3 @hap @hw) ?_;intros;apply wr;exact aX (fun x=>if x=0 then 6 else x) (by rw [hI];exact ⟨i+1,(a++[(0,(numX zt).1,[])]),by omega,rfl,⟨hx,by simp;omega⟩,rfl⟩) (kX3 (zAA (n:=(i:Int)+1) (by omega) (by omega)) @hap @hw)
     rw [if_neg h7] at hx;have hv:matV l p=.tup [.sl 3 true [],.bool false]:=by unfold matV;rw [hx];rfl
     refine zAC rfl (fun _=>?_) (fun h=>absurd (by simpa using h) h7)
     refine au ?_;intros;apply wr;refine zAB ?_;simp [hv]
    have h4:c=120:=h2.resolve_left h3;have hc1:(c.toNat:Int)=120:=by rw [h4];rfl
    refine gF10 @hc1 rfl ?_;intros;apply wr;refine gT10 @hc1 rfl ?_;intros;apply wr
    first|refine zA9 (zFL zt) rfl (fun hgd=>?_) (by simp [obsL]) ?_|refine zAq (zFL zt) rfl (by simp) (fun hgd=>?_) (by simp [obsL]) ?_
    all_goals simp
    all_goals (try (first|exact hgd|(simp at hgd;first|done|assumption|grind)))
    refine au ?_;intros;apply wr;by_cases h5:zk=1/\zNY zt=true
    ·rw [if_pos ⟨h4,h5⟩] at hx;refine gT10 (kX3 @hcc @hc1 @h5) rfl ?_;intros;apply wr;rw [zGA] at hx;have hap:=zEW a (0) (0) (zt);refine au1 (kX5 @hav @hmx @hm3 @hap @hw) ?_;intros;apply wr;exact aX (fun x=>if x=0 then 4 else x) (by rw [hI];exact ⟨i+1,(a++[(0,0,zt)]),by omega,rfl,⟨hx,by simp;omega⟩,rfl⟩) (kX3 (zAA (n:=(i:Int)+1) (by omega) (by omega)) @hap @hw)
    rw [if_neg (fun e=>h5 e.2)] at hx
    refine zAC rfl (fun h=>absurd (by simpa [hcc,hc1] using h) h5) (fun _=>?_)
    refine au ?_;intros;apply wr;refine cX (zJ5 zt hzm) ?_;intros;apply wr;by_cases h7:zk=2/\(numX zt).2=true
    ·rw [if_pos h7] at hx;refine gF10 @h7 rfl ?_;intros;apply wr;rw [zGA] at hx;have hap:=zEW a (0) ((numX zt).1) ([]);refine au1 (kX5 @hav @hmx @hm3 @hap @hw) ?_;intros;apply wr;exact aX (fun x=>if x=0 then 6 else x) (by rw [hI];exact ⟨i+1,(a++[(0,(numX zt).1,[])]),by omega,rfl,⟨hx,by simp;omega⟩,rfl⟩) (kX3 (zAA (n:=(i:Int)+1) (by omega) (by omega)) @hap @hw)
    rw [if_neg h7] at hx;have hv:matV l p=.tup [.sl 3 true [],.bool false]:=by unfold matV;rw [hx];rfl
    refine zAC rfl (fun _=>?_) (fun h=>absurd (by simpa using h) h7)
    refine au ?_;intros;apply wr;refine zAB ?_;simp [hv]
   rw [if_neg h2] at hx;have hpc:(p.take (i+1)).drop i=[c]:=by rw [List.drop_take,show i+1-i=1 by omega,hdp];rfl
   have h3':¬ ((c.toNat:Int)=110):=fun e=>h2 (.inl (UInt8.toNat_inj.1 (by simp;omega)))
   have h4':¬ ((c.toNat:Int)=120):=fun e=>h2 (.inr (UInt8.toNat_inj.1 (by simp;omega)))
   refine gF10 @h3' rfl ?_;intros;apply wr;refine gF10 @h4' rfl ?_;intros;apply wr;refine zAE 13 [0,1,3,7,15,31,15,15,15,271,975,2047,4095] [(1,([],[])),(1,([],[])),(1,([],[])),(1,([],[])),(7,([[],[0],[],[],[],[4],[2,3,4,5]],[])),(1,([],[])),(1,([],[]))] ?_;refine af1 @hw ?_;intros;apply wr;simp only [hpc];by_cases h6:zk=3/\zt=[c]
   ·rw [if_pos h6] at hx;refine zBO @h6 rfl ?_;intros;apply wr;exact aX (id) (by rw [hI];exact ⟨i+1,a,by omega,rfl,⟨hx,by omega⟩,rfl⟩) (kX2 (zAA (n:=(i:Int)+1) (by omega) (by omega)) @hw)
   rw [if_neg h6] at hx;have hv:matV l p=.tup [.sl 3 true [],.bool false]:=by unfold matV;rw [hx];rfl
   refine zAC rfl (fun _=>?_) (fun h=>absurd (by simpa using h) h6)
   refine af ?_;intros;apply wr;refine zAB ?_;simp [hv]
  have:i=l.length:=by omega
  subst this;rw [List.drop_length,hlp,List.drop_length,matF] at hx;have hv:matV l p=.tup [.sl 3 false (zDV a),.bool true]:=by unfold matV;rw [hx];simp
  refine af1 @htl ?_;intros;apply wr;refine zBy rfl ?_;intros;apply wr;refine zAI ?_;refine zAB ?_;simp [hv]
 have hlp':¬ ((l.length:Int)=(p.length:Int)):=by omega
 have hv:matV l p=.tup [.sl 3 true [],.bool false]:=by unfold matV;rw [zIn l p hlp]
 refine zDe (kX2 @htl @hlp') rfl ?_;intros;apply wr;refine zAB ?_;simp [hv]
structure StD where
 what:Str
 op:Int
 l:List ArgD
 line:Int
 at':Int
 size:Int
abbrev StD.row (s:StD):List V:=[.str s.what,.int .i64 s.op,.sl 3 false (zDV s.l),.int .i64 s.line,.int .i64 s.at',.int .i64 s.size]
abbrev zst:V:=.st [.str [],.int .i64 0,.sl 0 true [],.int .i64 0,.int .i64 0,.int .i64 0]
theorem zAZ (t:Tok) (l:List Tok):zBg (t::l)=[.int .i64 t.1,.str t.2.1,.bool t.2.2]::zBg l:=rfl
def labR:List Tok->Option (Str × List Tok)
 | t::u::r=>if u.2.1=[58] then (if t.1=1/\zNY t.2.1=true then some (t.2.1,r) else none) else some ([],t::u::r)
 | l=>some ([],l)
def dotR:List Tok->Str × List Tok
 | t::u::r=>if t.2.1=[46]/\u.2.2=false then (46::u.2.1,r) else (t.2.1,u::r)
 | [t]=>(t.2.1,[])
 | []=>([],[])
theorem mat_n {l:List Tok} {a:List ArgD} (h:matF l [110]=some a):∃ x,a=[x]:=by
 match l,h with
 | [],h=>simp [matF] at h
 | [t],h =>
  rw [matF,if_neg (by decide),if_pos (.inl rfl),if_neg (fun e=>absurd e.1 (by decide))] at h
  split at h
  ·simp only [matF,Option.map_some,zV2] at h;exact ⟨_,h.symm⟩
  simp at h
 | t::u::r,h=>rw [zIn _ _ (by simp)] at h;simp at h
theorem zRn:∀ {l:List Tok} {lb:Str} {r:List Tok},labR l=some (lb,r)->r.length<=l.length/\∀ t∈r,t∈l
 | [],lb,r,h=>by simp only [labR,zV2,Prod.mk.injEq] at h;obtain ⟨_,rfl⟩:=h;simp
 | [t],lb,r,h=>by simp only [labR,zV2,Prod.mk.injEq] at h;obtain ⟨_,rfl⟩:=h;simp
 | t::u::r',lb,r,h=>by
  simp only [labR] at h;split at h
  ·split at h
   ·simp only [zV2,Prod.mk.injEq] at h;obtain ⟨_,rfl⟩:=h;exact ⟨by simp;omega,fun t q=>by simp [q]⟩
   simp at h
  simp only [zV2,Prod.mk.injEq] at h;obtain ⟨_,rfl⟩:=h;exact ⟨zV9 _,fun t q=>q⟩
theorem zRG:∀ {l:List Tok} {w:Str} {r:List Tok},dotR l=(w,r)->r.length<=l.length/\∀ t∈r,t∈l
 | [],w,r,h=>by simp only [dotR,Prod.mk.injEq] at h;obtain ⟨_,rfl⟩:=h;simp
 | [t],w,r,h=>by simp only [dotR,Prod.mk.injEq] at h;obtain ⟨_,rfl⟩:=h;simp
 | t::u::r',w,r,h=>by
  simp only [dotR] at h;split at h
  ·simp only [Prod.mk.injEq] at h;obtain ⟨_,rfl⟩:=h;exact ⟨by simp;omega,fun t q=>by simp [q]⟩
  simp only [Prod.mk.injEq] at h;obtain ⟨_,rfl⟩:=h;exact ⟨by simp,fun t q=>zV4 _ q⟩
def gapR:List Tok->Bool
 | []=>true
 | t::_=>t.2.2
def finR (w:Str) (a:List ArgD):Option StD :=
 if w=[108,105] then some ⟨w,opD w,a,0,0,2⟩
 else if w=[46,115,112,97,99,101] then (if (a.getD 0 (0,0,[])).2.1<0\/1024<(a.getD 0 (0,0,[])).2.1 then none else some ⟨w,opD w,a,0,0,(a.getD 0 (0,0,[])).2.1⟩)
 else some ⟨w,opD w,a,0,0,1⟩
def bodR (w:Str) (r:List Tok):Option StD:=match patR w with
 | none=>none
 | some p=>if gapR r=true then (match matF r p with
  | none=>none
  | some a=>finR w a) else none
def parR (s:Str):Option (Str × Option StD):=match tokR true (befD s 59) with
 | none=>none
 | some l=>match labR l with
  | none=>none
  | some (lb,r)=>if r=[] then some (lb,none) else (bodR (dotR r).1 (dotR r).2).map fun st=>(lb,some st)
def parV (s:Str):V:=match parR s with
 | none=>.tup [.str [],zst,.bool false]
 | some (lb,none)=>.tup [.str lb,zst,.bool true]
 | some (lb,some st)=>.tup [.str lb,.st st.row,.bool true]
theorem zHG:∀ (n:Nat) (g:Bool) (s:Str) (l:List Tok),s.length<=n->tokR g s=some l->l.length<=s.length/\∀ t∈l,t.2.1.length<=s.length
 | _,g,[],l,_,h=>by rw [zQT] at h;simp only [zV2] at h;subst h;simp
 | 0,_,_::_,_,hn,_=>by simp at hn
 | n+1,g,c::s,l,hn,h=>by
  have hn':s.length<=n:=by simpa using hn
  have hd:(s.dropWhile zBt).length<=s.length:=(List.dropWhile_suffix zBt).length_le;have ht:(s.takeWhile zBt).length<=s.length:=(List.takeWhile_prefix zBt).length_le;rw [zMr] at h;split at h
  ·obtain ⟨h1,h2⟩:=zHG n _ _ _ hn' h;exact ⟨by simp;omega,fun t q=>by have:=h2 t q;simp;omega⟩
  split at h
  ·obtain ⟨l',e,rfl⟩:=Option.map_eq_some_iff.1 h;obtain ⟨h1,h2⟩:=zHG n _ _ _ (by omega) e
   refine ⟨by simp;omega,fun t q=>?_⟩
   rcases List.mem_cons.1 q with rfl|q
   ·simp;omega
   have:=h2 t q;simp;omega
  split at h
  ·obtain ⟨l',e,rfl⟩:=Option.map_eq_some_iff.1 h;obtain ⟨h1,h2⟩:=zHG n _ _ _ (by omega) e
   refine ⟨by simp;omega,fun t q=>?_⟩
   rcases List.mem_cons.1 q with rfl|q
   ·simp;omega
   have:=h2 t q;simp;omega
  split at h
  ·obtain ⟨l',e,rfl⟩:=Option.map_eq_some_iff.1 h;obtain ⟨h1,h2⟩:=zHG n _ _ _ hn' e;refine ⟨by simp;omega,fun t q=>?_⟩
   rcases List.mem_cons.1 q with rfl|q
   ·simp
   have:=h2 t q;simp;omega
  simp at h
theorem zT3 {x:Str} {i:Nat} (hi:i<x.length) (h:∀ k,k<i->x.getD k 0≠59) (hc:x.getD i 0=59):befD x 59=x.take i:=by
 unfold befD;induction x generalizing i with
 | nil=>simp at hi
 | cons b x ih =>
  cases i with
  | zero=>simp at hc;simp [hc]
  | succ i =>
   have h0:=h 0 (by omega)
   simp at h0;have:=ih (i:=i) (by simpa using hi) (fun k hk=>by have:=h (k+1) (by omega);simpa using this) (by simpa using hc)
   simp [h0,this]
theorem zOB {x:Str} (h:∀ k,k<x.length->x.getD k 0≠59):befD x 59=x:=by
 unfold befD;induction x with
 | nil=>rfl
 | cons b x ih =>
  have h0:=h 0 (by simp)
  simp at h0;have:=ih fun k hk=>by have:=h (k+1) (by simpa using hk);simpa using this
  simp [h0,this]
set_option maxHeartbeats 32000000 in
theorem zPh (s:Str) (hsl:s.length<=1000000):zAD prog 160 [.str s] (parV s):=by
 refine sX func160 ntmps160 ?_;(repeat intro K hK);apply wr
 obtain ⟨I,hI⟩:∃ I:Nat->St->Prop,I=(fun kk ss=>∃ (i:Nat) (x:Str),i<=s.length/\kk=s.length-i/\(befD x 59=befD s 59/\x.length<=s.length/\(∀ k,k<i->k<x.length->x.getD k 0≠59))/\ss=⟨154,[(5,.int .i64 i),(3,.ptr 0 6 0 0),(0,.str x)],1,[(0,some ⟨216,6,true,false,[[.str [],.int .i64 0,.sl 0 true [],.int .i64 0,.int .i64 0,.int .i64 0]]⟩)],0⟩):=⟨_,rfl⟩
 refine lX I (id) (by rw [hI];exact ⟨0,s,by simp,rfl,⟨rfl,zV9 _,fun k hk=>by omega⟩,rfl⟩) ?_
 intro kk ss hIk _
 rw [hI] at hIk;obtain ⟨i,x,hi,rfl,hx,rfl⟩:=hIk;obtain ⟨hb,hxl,hno⟩:=hx;have hw:IntKind.i64.wrap ((i:Int)+1)=(i:Int)+1:=zAA (by omega) (by omega)
 by_cases hi':i<x.length
 ·obtain ⟨c,hc⟩:∃ c,c=x.getD i 0:=⟨_,rfl⟩;have hcc:x[i]?.getD 0=c:=by rw [hc,zV1]
  refine au ?_;(repeat intro K hK);apply wr
  refine gT11 @hi' rfl @hcc ?_;(repeat intro K hK);apply wr
  by_cases h59:c=59
  ·have h59':(c.toNat:Int)=59:=by rw [h59];rfl
   have hbc:befD x 59=x.take i:=zT3 hi' (fun k hk=>hno k hk (by omega)) (by rw [<- hc,h59])
   have hnt:∀ k,k<(x.take i).length->(x.take i).getD k 0≠59:=fun k hk=>by
    have hk':k<i:=by simp at hk;omega
    have:=hno k hk' (by omega)
    rwa [zV1,List.getElem?_take_of_lt hk',<- zV1]
   refine gT11 @h59' rfl @hw ?_;(repeat intro K hK);apply wr
   exact aX (id) (by rw [hI];exact ⟨i+1,(x.take i),by omega,rfl,⟨by rw [zOB hnt,<- hbc,hb],by simp;omega,fun k _ hk=>hnt k hk⟩,rfl⟩) (kX2 (zAA (n:=(i:Int)+1) (by omega) (by omega)) @hw)
  have h59':¬ (c.toNat:Int)=59:=fun e=>h59 (UInt8.toNat_inj.1 (by simp;omega))
  refine gF11 @h59' rfl @hw ?_;(repeat intro K hK);apply wr
  have hnn:∀ k,k<i+1->k<x.length->x.getD k 0≠59:=fun k hk hk'=>by
   by_cases e:k=i
   ·subst e;rw [<- hc];exact h59
   exact hno k (by omega) hk'
  exact aX (id) (by rw [hI];exact ⟨i+1,x,by omega,rfl,⟨hb,hxl,hnn⟩,rfl⟩) (kX2 (zAA (n:=(i:Int)+1) (by omega) (by omega)) @hw)
 have hbx:befD s 59=x:=by rw [<- hb];exact zOB fun k hk=>hno k (by omega) hk
 refine au ?_;(repeat intro K hK);apply wr
 refine gF10 @hi' rfl ?_;(repeat intro K hK);apply wr
 have htk:=zQU x (by omega)
 unfold zFZ at htk;cases ht:tokR true x with
 | none =>
  rw [ht] at htk;have hv:parV s=.tup [.str [],zst,.bool false]:=by unfold parV parR;rw [hbx,ht]
  refine cX (htk) ?_;(repeat intro K hK);apply wr
  refine gT00 rfl ?_;(repeat intro K hK);apply wr
  refine zAI ?_;refine zAB ?_;simp [hv]
 | some l =>
  rw [ht] at htk;obtain ⟨hl1,hl2⟩:=zHG _ _ _ _ (zV9 _) ht;refine cX (htk) ?_;(repeat intro K hK);apply wr
  refine cF0 rfl ?_;have hp0:parR s=match labR l with
    | none=>none
    | some (lb,r)=>if r=[] then some (lb,none) else (bodR (dotR r).1 (dotR r).2).map fun st=>(lb,some st):=by unfold parR;rw [hbx,ht]
  iterate 6 (first|(with_reducible first|refine zAw fun K hK=>?_|refine zAl ?_)|((with_reducible first|refine zAe (by kernel_rfl) ?_|refine zA1 ?_|refine zAy ?_|refine zA0 ?_|refine zAz ?_|refine zAx ?_|refine zAv ?_);simp)|((repeat ((fail_if_success ((with_reducible refine hK _ ?_)));clear hK));(with_reducible refine hK _ ?_);clear hK)|refine And.intro (by first|omega|assumption|grind) ?_)
  refine zB1 (α:=Str × List Tok) (fun ⟨lb,r⟩=>(⟨154,[(8,.str lb),(6,.sl 3 false (zBg r)),(3,.ptr 0 6 0 0)],1,[(0,some ⟨216,6,true,false,[[.str [],.int .i64 0,.sl 0 true [],.int .i64 0,.int .i64 0,.int .i64 0]]⟩)],0⟩:St)) (fun ⟨lb,r⟩=>labR l=some (lb,r)) hK (fun ⟨lb,r⟩ hxhA=>?_) (fun hA=>?_)
  all_goals clear hK
  ·have hrl:=zRn hxhA;rw [hxhA] at hp0;cases r with
   | nil =>
    have hv:parV s=.tup [.str lb,zst,.bool true]:=by unfold parV;rw [hp0];simp
    refine au ?_;(repeat intro K hK);apply wr
    refine gT00 rfl ?_;(repeat intro K hK);apply wr
    refine zAI ?_;refine zAB ?_;simp [hv]
   | cons t r =>
    have hp1:parR s=(bodR (dotR (t::r)).1 (dotR (t::r)).2).map fun st=>(lb,some st):=by rw [hp0];simp
    have hne:¬ ((zBg r).length:Int)+1=0:=by omega
    refine au1 @zAZ ?_;(repeat intro K hK);apply wr
    refine cF1 @hne rfl ?_
    iterate 10 (first|(with_reducible first|refine zAw fun K hK=>?_|refine zAl ?_)|((with_reducible first|refine zAe (by kernel_rfl) ?_|refine zA1 ?_|refine zAy ?_|refine zA0 ?_|refine zAz ?_|refine zAx ?_|refine zAv ?_);simp)|((repeat ((fail_if_success ((with_reducible refine hK _ ?_)));clear hK));(with_reducible refine hK _ ?_);clear hK)|refine And.intro (by first|omega|assumption|grind) ?_)
    refine zB1 (α:=Str × List Tok) (fun ⟨w,q⟩=>(⟨154,[(9,.str w),(10,.sl 3 false (zBg q)),(8,.str lb),(3,.ptr 0 6 0 0)],1,[(0,some ⟨216,6,true,false,[[.str [],.int .i64 0,.sl 0 true [],.int .i64 0,.int .i64 0,.int .i64 0]]⟩)],0⟩:St)) (fun ⟨w,q⟩=>dotR (t::r)=(w,q)) hK (fun ⟨w,q⟩ hxhB=>?_) (fun hB=>?_)
    all_goals clear hK
    ·have hsub:=zRG hxhB;rw [hxhB] at hp1;simp only at hp1;refine au ?_;(repeat intro K hK);apply wr
     refine cc (zNf w) ?_
     iterate 2 (first|(with_reducible first|refine zAw fun K hK=>?_|refine zAl ?_)|((with_reducible first|refine zAe (by kernel_rfl) ?_|refine zA1 ?_|refine zAy ?_|refine zA0 ?_|refine zAz ?_|refine zAx ?_|refine zAv ?_);simp)|((repeat ((fail_if_success ((with_reducible refine hK _ ?_)));clear hK));(with_reducible refine hK _ ?_);clear hK)|refine And.intro (by first|omega|assumption|grind) ?_)
     refine zB1 (α:=Str) (fun p=>(⟨154,[(11,.str p),(9,.str w),(10,.sl 3 false (zBg q)),(8,.str lb),(3,.ptr 0 6 0 0)],1,[(0,some ⟨216,6,true,false,[[.str [],.int .i64 0,.sl 0 true [],.int .i64 0,.int .i64 0,.int .i64 0]]⟩)],0⟩:St)) (fun p=>patR w=some p/\gapR q=true) hK (fun p hxhC=>?_) (fun hC=>?_)
     all_goals clear hK
     ·have hp2:parR s=(match matF q p with
        | none=>none
        | some a=>finR w a).map fun st=>(lb,some st):=by rw [hp1];simp only [bodR,hxhC.1,hxhC.2,if_true]
      have hmt:=zNV q p (by omega) fun t ht=>zWR (hl2 t (hrl.2 t (hsub.2 t ht))) (by omega)
      unfold matV at hmt;refine au ?_;(repeat intro K hK);apply wr
      cases hm:matF q p with
      | none =>
       rw [hm] at hmt hp2;have hv:parV s=.tup [.str [],zst,.bool false]:=by unfold parV;rw [hp2];rfl
       refine cX (hmt) ?_;(repeat intro K hK);apply wr
       refine gT00 rfl ?_;(repeat intro K hK);apply wr
       refine zAI ?_;refine zAB ?_;simp [hv]
      | some a =>
       rw [hm] at hmt hp2;simp only at hp2;refine cX (hmt) ?_;(repeat intro K hK);apply wr
       refine gF00 rfl ?_;(repeat intro K hK);apply wr
       refine cX (zFm w) ?_;(repeat intro K hK);apply wr
       by_cases h1:w=[108,105]
       ·have hv:parV s=.tup [.str lb,.st (⟨w,opD w,a,0,0,2⟩:StD).row,.bool true]:=by unfold parV;rw [hp2,finR,if_pos h1];rfl
        refine gT10 @h1 rfl ?_;(repeat intro K hK);apply wr
        refine zAE 5 [0,0,1,7,15] [(3,([[],[],[0]],[])),(1,([],[])),(1,([],[]))] ?_;refine af ?_;(repeat intro K hK);apply wr
        refine zAI ?_;refine zAB ?_;simp [hv]
       have h1':¬ (w==[108,105])=true:=by simpa using h1
       refine zBO @h1 rfl ?_;(repeat intro K hK);apply wr
       by_cases h2:w=[46,115,112,97,99,101]
       ·have hpn:p=[110]:=by have e:=hxhC.1;rw [h2,show patR [46,115,112,97,99,101]=some [110] from rfl] at e;exact (Option.some.inj e).symm
        rw [hpn] at hm;obtain ⟨⟨x1,x2,x3⟩,rfl⟩:=mat_n hm;have hg0:([(x1,x2,x3)]:List ArgD).getD 0 (0,0,[])=(x1,x2,x3):=rfl;have hat:zDV [(x1,x2,x3)]=[[.int .i64 x1,.int .i64 x2,.str x3]]:=rfl;refine zCw @h2 rfl @hat ?_;(repeat intro K hK);apply wr
        by_cases h3:x2<0\/1024<x2
        ·have hv:parV s=.tup [.str [],zst,.bool false]:=by unfold parV;rw [hp2,finR,if_neg h1,if_pos h2,hg0];simp only [if_pos h3];rfl
         refine zAC rfl (fun _=>?_) (fun h=>absurd h3 (by simpa using h))
         refine af ?_;(repeat intro K hK);apply wr
         refine zAI ?_;refine zAB ?_;simp [hv]
        have hv:parV s=.tup [.str lb,.st (⟨w,opD w,[(x1,x2,x3)],0,0,x2⟩:StD).row,.bool true]:=by unfold parV;rw [hp2,finR,if_neg h1,if_pos h2,hg0];simp only [if_neg h3];rfl
        refine zAC rfl (fun h=>absurd (by simpa using h) h3) (fun _=>?_)
        refine af1 @hat ?_;(repeat intro K hK);apply wr
        refine zAE 5 [0,0,1,7,15] [(3,([[],[],[0]],[])),(1,([],[])),(1,([],[]))] ?_;refine af ?_;(repeat intro K hK);apply wr
        refine zAI ?_;refine zAB ?_;simp [hv,hat]
       have hv:parV s=.tup [.str lb,.st (⟨w,opD w,a,0,0,1⟩:StD).row,.bool true]:=by unfold parV;rw [hp2,finR,if_neg h1,if_neg h2];rfl
       refine zBO @h2 rfl ?_;(repeat intro K hK);apply wr
       refine zAE 5 [0,0,1,7,15] [(3,([[],[],[0]],[])),(1,([],[])),(1,([],[]))] ?_;refine af ?_;(repeat intro K hK);apply wr
       refine zAI ?_;refine zAB ?_;simp [hv]
     cases q with
     | nil =>
      refine af ?_;(repeat intro K hK);apply wr
      cases hpt:patR w with
      | none =>
       have hv:parV s=.tup [.str [],zst,.bool false]:=by unfold parV;rw [hp1];simp only [bodR,hpt];rfl
       refine zDe @hpt rfl ?_;(repeat intro K hK);apply wr
       refine zAI ?_;refine zAB ?_;simp [hv]
      | some p =>
       refine zBO @hpt rfl ?_;(repeat intro K hK);apply wr
       refine hC p _ (id) (⟨hpt,rfl⟩) ⟨rfl,?_,?_,?_,by simp⟩
       ·simp [leT,ltV,lt1,ren,ren1,hpt]
       ·simp [leO,lt1,ren1,hpt]
       (simp;try omega)
     | cons u q =>
      have hlt1:(0:Int)<((zBg q).length:Int)+1:=by omega
      refine af1 (kX2 @zAZ @hlt1) ?_;(repeat intro K hK);apply wr
      by_cases hpg:(patR w).isSome=true/\u.2.2=true
      ·obtain ⟨p,hpt⟩:=Option.isSome_iff_exists.1 hpg.1;refine zBO (kX2 @hpt @hpg.2) rfl ?_;(repeat intro K hK);apply wr
       refine hC p _ (id) (⟨hpt,hpg.2⟩) ⟨rfl,?_,?_,?_,by simp⟩
       ·simp [leT,ltV,lt1,ren,ren1,hpt,zAZ]
       ·simp [leO,lt1,ren1,hpt,zAZ]
       (simp;try omega)
      have hbn:bodR w (u::q)=none:=by
       unfold bodR;cases hpt:patR w with
       | none=>rfl
       | some p=>exact if_neg (fun e=>hpg ⟨by rw [hpt];rfl,e⟩)
      have hv:parV s=.tup [.str [],zst,.bool false]:=by unfold parV;rw [hp1,hbn];rfl
      refine zAC rfl (fun _=>?_) (fun h=>absurd (by simpa using h) hpg)
      refine af ?_;(repeat intro K hK);apply wr
      refine zAI ?_;refine zAB ?_;simp [hv]
    cases r with
    | nil =>
     refine af1 @zAZ ?_;(repeat intro K hK);apply wr
     refine zBy rfl ?_;(repeat intro K hK);apply wr
     refine hB ⟨t.2.1,[]⟩ _ (id) (rfl) ⟨rfl,?_,?_,?_,by simp⟩
     ·simp [leT,ltV,lt1,ren,ren1,zAZ]
     ·simp [leO,lt1,ren1,zAZ]
     (simp;try omega)
    | cons u r =>
     have hle2:(2:Int)<=((zBg r).length:Int)+1+1:=by omega
     have htn:(((zBg r).length:Int)+1+1).toNat=(zBg r).length+1+1:=by omega
     refine af1 (kX3 @zAZ @hle2 @htn) ?_;(repeat intro K hK);apply wr
     by_cases h1:t.2.1=[46]/\u.2.2=false
     ·have hdr:dotR (t::u::r)=(46::u.2.1,r):=by simp only [dotR,if_pos h1]
      refine zCw @h1 rfl (kX2 @zAZ @htn) ?_;(repeat intro K hK);apply wr
      refine hB ⟨(46::u.2.1),r⟩ _ (id) (hdr) ⟨rfl,?_,?_,?_,by simp⟩
      ·simp [leT,ltV,lt1,ren,ren1,zAZ,htn]
      ·simp [leO,lt1,ren1,zAZ,htn]
      (simp;try omega)
     have hdr:dotR (t::u::r)=(t.2.1,u::r):=by simp only [dotR,if_neg h1]
     refine zAC rfl (fun h=>absurd (by simpa using h) h1) (fun _=>?_)
     refine af ?_;(repeat intro K hK);apply wr
     refine hB ⟨t.2.1,(u::r)⟩ _ (id) (hdr) ⟨rfl,?_,?_,?_,by simp⟩
     ·simp [leT,ltV,lt1,ren,ren1,zAZ,htn]
     ·simp [leO,lt1,ren1,zAZ,htn]
     (simp;try omega)
  cases l with
  | nil =>
   refine af ?_;(repeat intro K hK);apply wr
   refine zBy rfl ?_;(repeat intro K hK);apply wr
   refine hA ⟨[],[]⟩ _ (id) (rfl) ⟨rfl,?_,?_,?_,by simp⟩
   ·simp [leT,ltV,lt1,ren,ren1]
   ·simp [leO,lt1,ren1]
   (simp;try omega)
  | cons t r =>
   cases r with
   | nil =>
    refine af1 @zAZ ?_;(repeat intro K hK);apply wr
    refine zBy rfl ?_;(repeat intro K hK);apply wr
    refine hA ⟨[],[t]⟩ _ (id) (rfl) ⟨rfl,?_,?_,?_,by simp⟩
    ·simp [leT,ltV,lt1,ren,ren1,zAZ]
    ·simp [leO,lt1,ren1,zAZ]
    (simp;try omega)
   | cons u r =>
    have hle2:(2:Int)<=((zBg r).length:Int)+1+1:=by omega
    have htn:(((zBg r).length:Int)+1+1).toNat=(zBg r).length+1+1:=by omega
    refine af1 (kX2 @zAZ @hle2) ?_;(repeat intro K hK);apply wr
    by_cases h1:u.2.1=[58]
    ·refine zCw @h1 rfl @zAZ ?_;(repeat intro K hK);apply wr
     first|refine zA9 (zFL t.2.1) rfl (fun hgd=>?_) (by simp [obsL]) ?_|refine zAq (zFL t.2.1) rfl (by simp) (fun hgd=>?_) (by simp [obsL]) ?_
     all_goals simp
     all_goals (try (first|exact hgd|(simp at hgd;first|done|assumption|grind)))
     refine af ?_;(repeat intro K hK);apply wr
     by_cases h2:t.1=1/\zNY t.2.1=true
     ·have hlr:labR (t::u::r)=some (t.2.1,r):=by simp only [labR,if_pos h1,if_pos h2]
      refine zEH @h2 rfl @hle2 ?_;(repeat intro K hK);apply wr
      refine hA ⟨t.2.1,r⟩ _ (id) (hlr) ⟨rfl,?_,?_,?_,by simp⟩
      ·simp [leT,ltV,lt1,ren,ren1,zAZ,htn]
      ·simp [leO,lt1,ren1,zAZ,htn]
      (simp;try omega)
     have hv:parV s=.tup [.str [],zst,.bool false]:=by unfold parV;rw [hp0];simp only [labR,if_pos h1,if_neg h2]
     refine zAC rfl (fun _=>?_) (fun h=>absurd (by simpa using h) h2)
     refine af ?_;(repeat intro K hK);apply wr
     refine zAI ?_;refine zAB ?_;simp [hv]
    have hlr:labR (t::u::r)=some ([],t::u::r):=by simp only [labR,if_neg h1]
    refine zBO @h1 rfl ?_;(repeat intro K hK);apply wr
    refine hA ⟨[],(t::u::r)⟩ _ (id) (hlr) ⟨rfl,?_,?_,?_,by simp⟩
    ·simp [leT,ltV,lt1,ren,ren1,zAZ]
    ·simp [leO,lt1,ren1,zAZ]
    (simp;try omega)
@[simp] theorem symsV_nil:zC0 []=[]:=rfl
structure PrR where
 syms:List (Str × Int)
 sts:List StD
 at':Int
def stsV (l:List StD):List (List V):=l.map StD.row
@[simp] theorem stsV_nil:stsV []=[]:=rfl
theorem zMo (l:List StD):(stsV l).length=l.length:=by simp [stsV]
theorem zSh (l:List StD) (s:StD) (n a:Int):stsV l++[[.str s.what,.int .i64 s.op,.sl 3 false (zDV s.l),.int .i64 n,.int .i64 a,.int .i64 s.size]]=stsV (l++[{s with line:=n,at':=a}]):=by simp [stsV]
abbrev prR0:PrR:=⟨[],[],0⟩
def labS (lb:Str) (S:List (Str × Int)) (a:Int):Option (List (Str × Int)) :=
 if lb=[] then some S else if (zEM lb S).isSome=true then none else some (S++[(lb,4*a)])
def addS (st:Option StD) (S:List (Str × Int)) (p:PrR) (n:Int):PrR:=match st with
 | none=>⟨S,p.sts,p.at'⟩
 | some s=>⟨S,p.sts++[{s with line:=n,at':=p.at'}],p.at'+s.size⟩
def redF:List Str->Int->PrR->Except (Int × Int) PrR
 | [],_,p=>.ok p
 | t::ts,n,p=>match parR t with
  | none=>.error (301,n)
  | some (lb,st)=>match labS lb p.syms p.at' with
   | none=>.error (303,n)
   | some S=>if 1024<(addS st S p n).at' then .error (305,n) else redF ts (n+1) (addS st S p n)
def zHc (s:Str):Except (Int × Int) PrR:=if 8192<s.length then .error (300,0) else redF (zC2 s) 1 ⟨[],[],0⟩
def zEo (s:Str):V:=match zHc s with
 | .error (e,n)=>.tup [.sl 2 true [],.sl 6 true [],.st [.int .i64 e,.int .i64 n]]
 | .ok p=>.tup [.sl 2 false (zC0 p.syms),.sl 6 false (stsV p.sts),.st [.int .i64 0,.int .i64 0]]
theorem pat_ne {w:Str} {p:Str} (h:patR w=some p):w≠[]:=by
 rintro rfl
 rw [show patR []=none from by decide +kernel] at h
 simp at h
theorem zTG {w:Str} {a:List ArgD} {st:StD} (h:finR w a=some st):st.what=w/\st.line=0/\st.at'=0/\0<=st.size/\st.size<=1024:=by
 unfold finR at h;split at h
 ·simp only [zV2] at h;subst h;exact ⟨rfl,rfl,rfl,by simp only;omega,by simp only;omega⟩
 split at h
 ·split at h
  ·simp at h
  rename_i q;simp only [zV2] at h;subst h;exact ⟨rfl,rfl,rfl,by simp only;omega,by simp only;omega⟩
 simp only [zV2] at h;subst h;exact ⟨rfl,rfl,rfl,by simp only;omega,by simp only;omega⟩
theorem zTU {t lb:Str} {st:StD} (h:parR t=some (lb,some st)):st.what≠[]/\0<=st.size/\st.size<=1024:=by
 unfold parR at h;split at h
 ·simp at h
 split at h
 ·simp at h
 rename_i r _;split at h
 ·simp at h
 obtain ⟨st',e,h'⟩:=Option.map_eq_some_iff.1 h;simp only [Prod.mk.injEq,zV2] at h';obtain ⟨_,rfl⟩:=h';unfold bodR at e;split at e
 ·simp at e
 rename_i p hp;split at e
 ·split at e
  ·simp at e
  obtain ⟨f1,_,_,f4,f5⟩:=zTG e;exact ⟨by rw [f1];exact pat_ne hp,f4,f5⟩
 simp at e
theorem zGk (s:Str):(zC2 s).length<=s.length+1/\∀ t∈zC2 s,t.length<=s.length:=by
 have h1:=zPL s;have h2:=zPM s;obtain ⟨h,tl,e⟩:=zD4 s;have hne:zAj s≠[]:=by rw [e];simp
 have hg:(zAj s).getLast?.getD []=(zAj s).getLast hne:=by rw [List.getLast?_eq_some_getLast hne];rfl
 have hsub:∀ t∈zC2 s,t∈zAj s:=by
  intro t ht
  unfold zC2 at ht;rcases List.mem_append.1 ht with q|q
  ·exact (List.dropLast_sublist _).subset q
  rw [hg] at q;split at q
  ·simp at q
  simp at q;rw [q];exact List.getLast_mem hne
 refine ⟨?_,fun t ht=>(h2 t (hsub t ht)).1⟩
 have hdl:(zAj s).dropLast.length+1=(zAj s).length:=by rw [List.length_dropLast];have:=List.length_pos_iff.2 hne;omega
 unfold zC2;split<;>simp<;>omega
set_option maxHeartbeats 32000000 in
theorem zVG (s:Str) (hsl:s.length<=1000000):zAD prog 113 [.str s] (zEo s):=by
 refine sX func113 ntmps113 ?_;(repeat intro K hK);apply wr
 refine zAC rfl (fun h=>?_) (fun h=>?_)
 ·simp at h;have hv:zEo s=.tup [.sl 2 true [],.sl 6 true [],.st [.int .i64 300,.int .i64 0]]:=by unfold zEo zHc;rw [if_pos (by omega)]
  refine au ?_;(repeat intro K hK);apply wr
  refine zAI ?_;refine zAB ?_;simp [hv]
 simp at h;have hr0:zHc s=redF (zC2 s) 1 ⟨[],[],0⟩:=by unfold zHc;rw [if_neg (by omega)]
 refine au ?_;(repeat intro K hK);apply wr
 refine cX (zIf s hsl) ?_;(repeat intro K hK);apply wr
 have hL:(zC2 s).length<=s.length+1/\∀ t∈zC2 s,t.length<=s.length:=zGk s;generalize zC2 s=L at hr0 hL ⊢;refine zAT 5 272 2 (by decide) rfl ?_
 refine zAT 6 216 6 (by decide) rfl ?_
 simp;obtain ⟨I,hI⟩:∃ I:Nat->St->Prop,I=(fun kk ss=>∃ (i:Nat) (p:PrR),i<=L.length/\kk=L.length-i/\(redF L 1 ⟨[],[],0⟩=redF (L.drop i) ((i:Int)+1) p/\0<=p.at'/\p.at'<=1024/\p.sts.length<=i/\p.syms.length<=i)/\ss=⟨85,[(9,.int .i64 i),(5,.own 2),(7,.int .i64 p.at'),(6,.own 3),(8,.own 1),(4,.ptr 0 2 0 0)],4,[(0,some ⟨137,2,true,false,[[.int .i64 0,.int .i64 0]]⟩),(1,some ⟨9,1,false,false,strs L⟩),(2,some ⟨272,2,false,false,zC0 p.syms⟩),(3,some ⟨216,6,false,false,stsV p.sts⟩)],0⟩):=⟨_,rfl⟩
 refine lX I (id) (by rw [hI];exact ⟨0,prR0,by simp,rfl,by simp,rfl⟩) ?_
 intro kk ss hIk _
 rw [hI] at hIk;obtain ⟨i,p,hi,rfl,hx,rfl⟩:=hIk;obtain ⟨hx1,hx2,hx3,hx4,hx5⟩:=hx;obtain ⟨S,T,w⟩:=p;simp only at hx1 hx2 hx3 hx4 hx5 ⊢;have hsl:=zBR L;have hSl:=zKQ S;have hTl:=zMo T;have hw:IntKind.i64.wrap ((i:Int)+1)=(i:Int)+1:=zAA (by omega) (by omega)
 refine au1 @hsl ?_;(repeat intro K hK);apply wr
 by_cases hi':i<L.length
 ·obtain ⟨t,ht⟩:∃ t,t=L[i]:=⟨_,rfl⟩;have htm:t∈L:=by rw [ht];exact zWU hi'
  have htl:=hL.2 t htm;have hgs:(strs L)[i]? =some [.str t]:=by rw [ht];exact zVj L i hi'
  have hdr:L.drop i=t::L.drop (i+1):=by rw [zWZ hi',ht]
  rw [hdr,redF] at hx1;refine gT11 @hi' rfl (kX2 @hgs @hsl) ?_;(repeat intro K hK);apply wr
  have hpt:=zPh t (by omega)
  unfold parV at hpt;cases hpr:parR t with
  | none =>
   rw [hpr] at hx1 hpt;have hv:zEo s=.tup [.sl 2 true [],.sl 6 true [],.st [.int .i64 301,.int .i64 ((i:Int)+1)]]:=by unfold zEo;rw [hr0,hx1]
   refine cX (hpt) ?_;(repeat intro K hK);apply wr
   refine gT01 rfl @hw ?_;(repeat intro K hK);apply wr
   refine zAI ?_;refine zAB ?_;simp [hv]
  | some z =>
   obtain ⟨lb,st⟩:=z;rw [hpr] at hx1;simp only at hx1;cases st with
   | none =>
    rw [hpr] at hpt;simp only at hpt;refine cX (hpt) ?_;(repeat intro K hK);apply wr
    refine cF0 rfl ?_
    iterate 3 (first|(with_reducible first|refine zAw fun K hK=>?_|refine zAl ?_)|((with_reducible first|refine zAe (by kernel_rfl) ?_|refine zA1 ?_|refine zAy ?_|refine zA0 ?_|refine zAz ?_|refine zAx ?_|refine zAv ?_);simp)|((repeat ((fail_if_success ((with_reducible refine hK _ ?_)));clear hK));(with_reducible refine hK _ ?_);clear hK)|refine And.intro (by first|omega|assumption|grind) ?_)
    refine zB1 (α:=List (Str × Int)) (fun q=>(⟨85,[(5,.own 2),(11,.ptr 4 6 0 0),(9,.int .i64 i),(7,.int .i64 w),(6,.own 3),(8,.own 1),(4,.ptr 0 2 0 0)],5,[(0,some ⟨137,2,true,false,[[.int .i64 0,.int .i64 0]]⟩),(1,some ⟨9,1,false,false,strs L⟩),(2,some ⟨272,2,false,false,zC0 q⟩),(3,some ⟨216,6,false,false,stsV T⟩),(4,some ⟨216,6,true,false,[[.str [],.int .i64 0,.sl 0 true [],.int .i64 0,.int .i64 0,.int .i64 0]]⟩)],0⟩:St)) (fun q=>labS lb S w=some q/\q.length<=i+1) hK (fun q hxhA=>?_) (fun hA=>?_)
    all_goals clear hK
    ·have hx1':redF L 1 prR0=if 1024<w then .error (305,(i:Int)+1) else redF (L.drop (i+1)) ((i:Int)+1+1) ⟨q,T,w⟩:=by rw [hx1];simp only [hxhA.1];rfl
     rw [if_neg (by omega)] at hx1'
     have hgt:¬ 1024<w:=by omega
     refine au ?_;(repeat intro K hK);apply wr
     refine gF00 rfl ?_;(repeat intro K hK);apply wr
     refine gF11 @hgt rfl @hw ?_;(repeat intro K hK);apply wr
     exact aX (id) (by rw [hI];exact ⟨i+1,(PrR.mk q T w),by omega,rfl,⟨by rw [hx1'];rfl,hx2,hx3,by simp only;omega,hxhA.2⟩,rfl⟩) (kX2 (zAA (n:=(i:Int)+1) (by omega) (by omega)) @hw)
    refine au ?_;(repeat intro K hK);apply wr
    by_cases hlb:lb=[]
    ·have hlS:labS lb S w=some S:=by unfold labS;rw [if_pos hlb]
     refine gF10 @hlb rfl ?_;(repeat intro K hK);apply wr
     refine hA S _ (fun x=>if x=4 then 12 else x) (⟨hlS,by omega⟩) ⟨rfl,?_,?_,?_,by simp⟩
     ·simp [leT,ltV,lt1,ren,ren1]
     ·simp [leO,lt1,ren1]
     (simp;try omega)
    refine gT10 @hlb rfl ?_;(repeat intro K hK);apply wr
    refine cn (zE7 S lb (by omega)) ?_
    refine au ?_;(repeat intro K hK);apply wr
    by_cases hfd:(zEM lb S).isSome=true
    ·have hlS:labS lb S w=none:=by unfold labS;rw [if_neg hlb,if_pos hfd]
     rw [hlS] at hx1;have hv:zEo s=.tup [.sl 2 true [],.sl 6 true [],.st [.int .i64 303,.int .i64 ((i:Int)+1)]]:=by unfold zEo;rw [hr0,hx1]
     refine gT11 @hfd rfl @hw ?_;(repeat intro K hK);apply wr
     refine zAI ?_;refine zAB ?_;simp [hv]
    have hlS:labS lb S w=some (S++[(lb,4*w)]):=by unfold labS;rw [if_neg hlb,if_neg hfd]
    have hone:=zKR S lb (4*w);have hmx:(zC0 S).length+1<=maxLen:=by rw [hSl];simp [maxLen];omega
    have hm2:(S.length+1)*24<=140737488355328:=by omega
    have hw4:IntKind.i64.wrap (4*w)=4*w:=zAA (by omega) (by omega)
    have hu4:IntKind.u32.wrap (4*w)=4*w:=by rw [IntKind.wrap_u32];omega
    refine gF11 @hfd rfl (kX6 @hw4 @hu4 @hone @hmx @hm2 @hSl) ?_;(repeat intro K hK);apply wr
    refine hA (S++[(lb,4*w)]) _ (fun x=>if x=4 then 12 else if x=2 then 16 else x) (⟨hlS,by simp;omega⟩) ⟨rfl,?_,?_,?_,by simp⟩
    ·simp [leT,ltV,lt1,ren,ren1,hone,hw4,hu4]
    ·simp [leO,lt1,ren1,hone,hw4,hu4]
    (simp;try omega)
   | some st =>
    obtain ⟨hz1,hz2,hz3⟩:=zTU hpr;rw [hpr] at hpt;simp only at hpt;refine cX (hpt) ?_;(repeat intro K hK);apply wr
    refine cF0 rfl ?_
    iterate 3 (first|(with_reducible first|refine zAw fun K hK=>?_|refine zAl ?_)|((with_reducible first|refine zAe (by kernel_rfl) ?_|refine zA1 ?_|refine zAy ?_|refine zA0 ?_|refine zAz ?_|refine zAx ?_|refine zAv ?_);simp)|((repeat ((fail_if_success ((with_reducible refine hK _ ?_)));clear hK));(with_reducible refine hK _ ?_);clear hK)|refine And.intro (by first|omega|assumption|grind) ?_)
    refine zB1 (α:=List (Str × Int)) (fun q=>(⟨85,[(5,.own 2),(11,.ptr 4 6 0 0),(9,.int .i64 i),(7,.int .i64 w),(6,.own 3),(8,.own 1),(4,.ptr 0 2 0 0)],5,[(0,some ⟨137,2,true,false,[[.int .i64 0,.int .i64 0]]⟩),(1,some ⟨9,1,false,false,strs L⟩),(2,some ⟨272,2,false,false,zC0 q⟩),(3,some ⟨216,6,false,false,stsV T⟩),(4,some ⟨216,6,true,false,[[.str st.what,.int .i64 st.op,.sl 3 false (zDV st.l),.int .i64 st.line,.int .i64 st.at',.int .i64 st.size]]⟩)],0⟩:St)) (fun q=>labS lb S w=some q/\q.length<=i+1) hK (fun q hxhA=>?_) (fun hA=>?_)
    all_goals clear hK
    ·have hx1':redF L 1 prR0=if 1024<w+st.size then .error (305,(i:Int)+1) else redF (L.drop (i+1)) ((i:Int)+1+1) ⟨q,T++[{st with line:=(i:Int)+1,at':=w}],w+st.size⟩:=by rw [hx1];simp only [hxhA.1];rfl
     have hone2:=zSh T st ((i:Int)+1) w;have hmx2:(stsV T).length+1<=maxLen:=by rw [hTl];simp [maxLen];omega
     have hm6:(T.length+1)*80<=140737488355328:=by omega
     have hws:IntKind.i64.wrap (w+st.size)=w+st.size:=zAA (by omega) (by omega)
     refine au ?_;(repeat intro K hK);apply wr
     refine gT11 @hz1 rfl (kX6 @hw @hws @hone2 @hmx2 @hm6 @hTl) ?_;(repeat intro K hK);apply wr
     by_cases hgt:1024<w+st.size
     ·rw [if_pos hgt] at hx1';have hv:zEo s=.tup [.sl 2 true [],.sl 6 true [],.st [.int .i64 305,.int .i64 ((i:Int)+1)]]:=by unfold zEo;rw [hr0,hx1']
      refine gT11 @hgt rfl @hw ?_;(repeat intro K hK);apply wr
      refine zAI ?_;refine zAB ?_;simp [hv]
     rw [if_neg hgt] at hx1';refine gF11 @hgt rfl @hw ?_;(repeat intro K hK);apply wr
     exact aX (fun x=>if x=3 then 6 else x) (by rw [hI];exact ⟨i+1,(PrR.mk q (T++[{st with line:=(i:Int)+1,at':=w}]) (w+st.size)),by omega,rfl,⟨by rw [hx1'];rfl,by simp only;omega,by simp only;omega,by simp;omega,hxhA.2⟩,rfl⟩) (kX4 (zAA (n:=(i:Int)+1) (by omega) (by omega)) @hw @hone2 @hws)
    refine au ?_;(repeat intro K hK);apply wr
    by_cases hlb:lb=[]
    ·have hlS:labS lb S w=some S:=by unfold labS;rw [if_pos hlb]
     refine gF10 @hlb rfl ?_;(repeat intro K hK);apply wr
     refine hA S _ (fun x=>if x=4 then 12 else x) (⟨hlS,by omega⟩) ⟨rfl,?_,?_,?_,by simp⟩
     ·simp [leT,ltV,lt1,ren,ren1]
     ·simp [leO,lt1,ren1]
     (simp;try omega)
    refine gT10 @hlb rfl ?_;(repeat intro K hK);apply wr
    refine cn (zE7 S lb (by omega)) ?_
    refine au ?_;(repeat intro K hK);apply wr
    by_cases hfd:(zEM lb S).isSome=true
    ·have hlS:labS lb S w=none:=by unfold labS;rw [if_neg hlb,if_pos hfd]
     rw [hlS] at hx1;have hv:zEo s=.tup [.sl 2 true [],.sl 6 true [],.st [.int .i64 303,.int .i64 ((i:Int)+1)]]:=by unfold zEo;rw [hr0,hx1]
     refine gT11 @hfd rfl @hw ?_;(repeat intro K hK);apply wr
     refine zAI ?_;refine zAB ?_;simp [hv]
    have hlS:labS lb S w=some (S++[(lb,4*w)]):=by unfold labS;rw [if_neg hlb,if_neg hfd]
    have hone:=zKR S lb (4*w);have hmx:(zC0 S).length+1<=maxLen:=by rw [hSl];simp [maxLen];omega
    have hm2:(S.length+1)*24<=140737488355328:=by omega
    have hw4:IntKind.i64.wrap (4*w)=4*w:=zAA (by omega) (by omega)
    have hu4:IntKind.u32.wrap (4*w)=4*w:=by rw [IntKind.wrap_u32];omega
    refine gF11 @hfd rfl (kX6 @hw4 @hu4 @hone @hmx @hm2 @hSl) ?_;(repeat intro K hK);apply wr
    refine hA (S++[(lb,4*w)]) _ (fun x=>if x=4 then 12 else if x=2 then 16 else x) (⟨hlS,by simp;omega⟩) ⟨rfl,?_,?_,?_,by simp⟩
    ·simp [leT,ltV,lt1,ren,ren1,hone,hw4,hu4]
    ·simp [leO,lt1,ren1,hone,hw4,hu4]
    (simp;try omega)
 have:i=L.length:=by omega
 subst this;rw [List.drop_length,redF] at hx1;have hv:zEo s=.tup [.sl 2 false (zC0 S),.sl 6 false (stsV T),.st [.int .i64 0,.int .i64 0]]:=by unfold zEo;rw [hr0,hx1]
 refine gF00 rfl ?_;(repeat intro K hK);apply wr
 refine zAI ?_;refine zAB ?_;simp [hv]
abbrev arg0:ArgD:=(0,0,[])
def zPa (op:Int) (a:List ArgD):Prop:=(zAH op=2->3<=a.length)/\(32<=op/\op<=36->3<=a.length)/\(6<=zAH op->1<=a.length)/\(zAH op≠1->zAH op<6->2<=a.length)
def zJx (op:Int) (a:List ArgD) (x:Int):InstD :=
 if zAH op=2 then ⟨op,(a.getD 0 arg0).1,(a.getD 1 arg0).1,(a.getD 2 arg0).1,x⟩
 else if 32<=op/\op<=36 then ⟨op,(a.getD 0 arg0).1,(a.getD 2 arg0).1,0,x⟩
 else if 6<=zAH op then ⟨op,(a.getD 0 arg0).1,0,0,x⟩
 else if zAH op≠1 then ⟨op,(a.getD 0 arg0).1,(a.getD 1 arg0).1,0,x⟩
 else ⟨op,0,0,0,x⟩
def zHY (op:Int) (a:List ArgD) (v:Int):Int :=
 if zAH op=2\/zAH op=1 then 0 else if 32<=op/\op<=36 then (a.getD 1 arg0).2.1 else v
def zIb (op:Int) (a:List ArgD) (v:Int):Option Int :=
 if zHY op a v<lowD (zAH op)\/zAd (zAH op)<zHY op a v then none
 else if validD (zJx op a (zHY op a v))=true then some (encW (zJx op a (zHY op a v))) else none
def zHX (op:Int) (a:List ArgD) (v:Int):V:=.tup [.int .u32 ((zIb op a v).getD 0),.bool (zIb op a v).isSome]
theorem zBU (l:List ArgD) (i:Nat) (h:i<l.length):(zDV l)[i]? =some [.int .i64 (l.getD i arg0).1,.int .i64 (l.getD i arg0).2.1,.str (l.getD i arg0).2.2]:=by
 simp [zDV,h,zV1]
theorem low_ge (f:Int):-2147483648<=lowD f:=by unfold lowD;split<;>decide
theorem zUh (f:Int):zAd f<=2147483647:=by unfold zAd;(repeat' split)<;>decide
set_option maxHeartbeats 32000000 in
theorem zK2 (st:StD) (v:Int) (ho:zPa st.op st.l):zAD prog 116 [.st st.row,.int .i64 v] (zHX st.op st.l v):=by
 obtain ⟨o1,o2,o3,o4⟩:=ho;obtain ⟨w,op,a,ln,at',sz⟩:=st;simp only at o1 o2 o3 o4 ⊢;refine sX func116 ntmps116 ?_;(repeat intro K hK);apply wr
 refine cX (zGf op) ?_;(repeat intro K hK);apply wr
 refine cc (zJQ (zAH op)) ?_
 iterate 5 (first|(with_reducible first|refine zAw fun K hK=>?_|refine zAl ?_)|((with_reducible first|refine zAe (by kernel_rfl) ?_|refine zA1 ?_|refine zAy ?_|refine zA0 ?_|refine zAz ?_|refine zAx ?_|refine zAv ?_);simp)|((repeat ((fail_if_success ((with_reducible refine hK _ ?_)));clear hK));(with_reducible refine hK _ ?_);clear hK)|refine And.intro (by first|omega|assumption|grind) ?_)
 have hf:=zDH op;refine zB1 (α:=Int × Int × Int × Int) (fun ⟨x,A,B,C⟩=>(⟨107,[(9,.int .i64 (zAd (zAH op))),(8,.int .i64 (lowD (zAH op))),(7,.int .i64 (zAH op)),(6,.ptr 1 5 0 0),(1,.int .i64 x)],2,[(1,some ⟨223,5,true,false,[[.int .i64 op,.int .i64 A,.int .i64 B,.int .i64 C,.int .i32 0]]⟩)],0⟩:St)) (fun ⟨x,A,B,C⟩=>(∀ y,zJx op a y=⟨op,A,B,C,y⟩)/\zHY op a v=(if zAH op=2\/zAH op=1 then 0 else x)) hK (fun ⟨x,A,B,C⟩ hxhJ=>?_) (fun hJ=>?_)
 all_goals clear hK
 ·obtain ⟨hj1,hj2⟩:=hxhJ;have hlo:=low_ge (zAH op);have hhi:=zUh (zAH op);refine au ?_;(repeat intro K hK);apply wr
  by_cases c0:zAH op=2\/zAH op=1
  ·rw [if_pos c0] at hj2;refine zAC rfl (fun _=>?_) (fun h=>absurd c0 (by simpa using h))
   refine au ?_;(repeat intro K hK);apply wr
   by_cases c9:0<lowD (zAH op)\/zAd (zAH op)<0
   ·have hv:zHX op a v=.tup [.int .u32 0,.bool false]:=by unfold zHX zIb;rw [hj2,if_pos c9];rfl
    refine zAC rfl (fun _=>?_) (fun h=>absurd c9 (by simpa using h))
    refine au ?_;(repeat intro K hK);apply wr
    refine zAB ?_;simp [hv]
   have hv:zHX op a v=.tup [.int .u32 (if validD ⟨op,A,B,C,0⟩ then encW ⟨op,A,B,C,0⟩ else 0),.bool (validD ⟨op,A,B,C,0⟩)]:=by
    unfold zHX zIb;rw [hj2,if_neg c9,hj1];split<;>simp [*]
   have hw:IntKind.i32.wrap (0)=0:=by rw [IntKind.wrap_i32];omega
   refine zAC rfl (fun h=>absurd (by simpa using h) c9) (fun _=>?_)
   refine au1 @hw ?_;(repeat intro K hK);apply wr
   refine cX (zD1 ⟨op,A,B,C,0⟩ ⟨by simp only;omega,by simp only;omega⟩) ?_;(repeat intro K hK);apply wr
   refine zAB ?_;simp [hv]
  rw [if_neg c0] at hj2;refine zAC rfl (fun h=>absurd (by simpa using h) c0) (fun _=>?_)
  refine au ?_;(repeat intro K hK);apply wr
  by_cases c9:x<lowD (zAH op)\/zAd (zAH op)<x
  ·have hv:zHX op a v=.tup [.int .u32 0,.bool false]:=by unfold zHX zIb;rw [hj2,if_pos c9];rfl
   refine zAC rfl (fun _=>?_) (fun h=>absurd c9 (by simpa using h))
   refine au ?_;(repeat intro K hK);apply wr
   refine zAB ?_;simp [hv]
  have hv:zHX op a v=.tup [.int .u32 (if validD ⟨op,A,B,C,x⟩ then encW ⟨op,A,B,C,x⟩ else 0),.bool (validD ⟨op,A,B,C,x⟩)]:=by
   unfold zHX zIb;rw [hj2,if_neg c9,hj1];split<;>simp [*]
  have hw:IntKind.i32.wrap (x)=x:=by rw [IntKind.wrap_i32];omega
  refine zAC rfl (fun h=>absurd (by simpa using h) c9) (fun _=>?_)
  refine au1 @hw ?_;(repeat intro K hK);apply wr
  refine cX (zD1 ⟨op,A,B,C,x⟩ ⟨by simp only;omega,by simp only;omega⟩) ?_;(repeat intro K hK);apply wr
  refine zAB ?_;simp [hv]
 by_cases c1:zAH op=2
 ·have g0:=zBU a 0 (by have:=o1 c1;omega)
  have g1:=zBU a 1 (by have:=o1 c1;omega)
  have g2:=zBU a 2 (by have:=o1 c1;omega)
  refine au ?_;(repeat intro K hK);apply wr
  refine gT10 @c1 rfl ?_;(repeat intro K hK);apply wr
  refine zAE 18 [0,1,3,7,0,16,48,112,0,256,768,1792,15,4111,12543,28927,65535,131071] [(16,([[],[0],[0,1],[0,1,2],[],[4],[4,5],[4,5,6],[],[8],[8,9],[8,9,10],[0,1,2,3],[0,1,2,3,12],[0,1,2,3,4,5,6,7,12,13],[0,1,2,3,4,5,6,7,12,13,14]],[(5,13),(7,13),(9,13),(9,15),(11,13),(11,15)])),(1,([],[])),(1,([],[]))] ?_;refine af1 (kX3 @g0 @g1 @g2) ?_;(repeat intro K hK);apply wr
  refine af ?_;(repeat intro K hK);apply wr
  refine hJ ⟨v,(a.getD 0 arg0).1,(a.getD 1 arg0).1,(a.getD 2 arg0).1⟩ _ (id) (⟨fun y=>by simp only [zJx,if_pos c1],by simp [zHY,c1]⟩) ⟨rfl,?_,?_,?_,by simp⟩
  ·simp [leT,ltV,lt1,ren,ren1]
  ·simp [leO,lt1,ren1]
  (simp;try omega)
 refine af ?_;(repeat intro K hK);apply wr
 refine zBO @c1 rfl ?_;(repeat intro K hK);apply wr
 by_cases c2:32<=op/\op<=36
 ·have g0:=zBU a 0 (by have:=o2 c2;omega)
  have g1:=zBU a 1 (by have:=o2 c2;omega)
  have g2:=zBU a 2 (by have:=o2 c2;omega)
  have hf3:zAH op=3:=by unfold zAH;rw [if_neg (by omega),if_pos (by omega)]
  refine zDe @c2 rfl ?_;(repeat intro K hK);apply wr
  refine zAE 12 [0,1,3,7,0,16,48,112,15,271,1023,2047] [(10,([[],[0],[0,1],[0,1,2],[],[4],[4,5],[4,5,6],[0,1,2,3],[0,1,2,3,8]],[(5,9),(7,9)])),(1,([],[])),(1,([],[]))] ?_;refine af1 (kX3 @g0 @g1 @g2) ?_;(repeat intro K hK);apply wr
  refine af1 (kX3 @g0 @g1 @g2) ?_;(repeat intro K hK);apply wr
  refine hJ ⟨(a.getD 1 arg0).2.1,(a.getD 0 arg0).1,(a.getD 2 arg0).1,0⟩ _ (id) (⟨fun y=>by simp only [zJx,if_neg c1,if_pos c2],by simp [zHY,hf3,c2]⟩) ⟨rfl,?_,?_,?_,by simp⟩
  ·simp [leT,ltV,lt1,ren,ren1]
  ·simp [leO,lt1,ren1]
  (simp;try omega)
 refine zAC rfl (fun h=>absurd (by simpa using h) c2) (fun _=>?_)
 refine af ?_;(repeat intro K hK);apply wr
 by_cases c3:6<=zAH op
 ·have g0:=zBU a 0 (by have:=o3 c3;omega)
  refine zCw @c3 rfl @g0 ?_;(repeat intro K hK);apply wr
  refine hJ ⟨v,(a.getD 0 arg0).1,0,0⟩ _ (id) (⟨fun y=>by simp only [zJx,if_neg c1,if_neg c2,if_pos c3],by simp only [zHY,if_neg c2]⟩) ⟨rfl,?_,?_,?_,by simp⟩
  ·simp [leT,ltV,lt1,ren,ren1]
  ·simp [leO,lt1,ren1]
  (simp;try omega)
 refine zBO @c3 rfl ?_;(repeat intro K hK);apply wr
 by_cases c4:zAH op=1
 ·refine zBO @c4 rfl ?_;(repeat intro K hK);apply wr
  refine hJ ⟨v,0,0,0⟩ _ (id) (⟨fun y=>by simp only [zJx,if_neg c1,if_neg c2,if_neg c3,c4];rfl,by simp only [zHY,if_neg c2]⟩) ⟨rfl,?_,?_,?_,by simp⟩
  ·simp [leT,ltV,lt1,ren,ren1]
  ·simp [leO,lt1,ren1]
  (simp;try omega)
 have g0:=zBU a 0 (by have:=o4 c4 (by omega);omega)
 have g1:=zBU a 1 (by have:=o4 c4 (by omega);omega)
 refine zDe @c4 rfl ?_;(repeat intro K hK);apply wr
 refine zAE 12 [0,1,3,7,0,16,48,112,15,271,1023,2047] [(10,([[],[0],[0,1],[0,1,2],[],[4],[4,5],[4,5,6],[0,1,2,3],[0,1,2,3,8]],[(5,9),(7,9)])),(1,([],[])),(1,([],[]))] ?_;refine af1 (kX2 @g0 @g1) ?_;(repeat intro K hK);apply wr
 refine af ?_;(repeat intro K hK);apply wr
 refine hJ ⟨v,(a.getD 0 arg0).1,(a.getD 1 arg0).1,0⟩ _ (id) (⟨fun y=>by simp only [zJx,if_neg c1,if_neg c2,if_neg c3,if_pos c4],by simp only [zHY,if_neg c2]⟩) ⟨rfl,?_,?_,?_,by simp⟩
 ·simp [leT,ltV,lt1,ren,ren1]
 ·simp [leO,lt1,ren1]
 (simp;try omega)
def opC (c:UInt8):Bool:=decide (c=114)||decide (c=110)||decide (c=120)
theorem zNd (s:Str):(-2147483648<=(numX s).1/\(numX s).1<=4294967295)\/(numX s).2=false:=by
 unfold numX;split
 ·split
  ·exact .inl ⟨by simp only;omega,by simp only;omega⟩
  rename_i h1 h2;split
  ·rename_i n hn;have h3:n<16 ^ ((s.drop 2).length):=by have:=zOV (.inr rfl) _ _ _ hn;simpa using this
   have h4:16 ^ (s.drop 2).length<=16 ^ 8:=Nat.pow_le_pow_right (by decide) (by simp;omega)
   have h5:(16:Nat) ^ 8=4294967296:=by decide
   exact .inl ⟨by simp only;omega,by simp only;omega⟩
  exact .inl ⟨by simp only;omega,by simp only;omega⟩
 by_cases hm:s.getD 0 0=45
 ·simp only [if_pos hm];split
  ·exact .inl ⟨by simp only;omega,by simp only;omega⟩
  split
  ·exact .inl ⟨by simp only;omega,by simp only;omega⟩
  rename_i n hn;by_cases h:-2147483648<=-(n:Int)
  ·exact .inl ⟨h,by simp only;omega⟩
  exact .inr (by simp [h])
 simp only [if_neg hm];split
 ·exact .inl ⟨by simp only;omega,by simp only;omega⟩
 split
 ·exact .inl ⟨by simp only;omega,by simp only;omega⟩
 rename_i n hn;by_cases h:(n:Int)<=4294967295
 ·exact .inl ⟨by simp only;omega,h⟩
 exact .inr (by simp [h])
def okArg (a:ArgD):Prop:=(0<=a.1/\a.1<=15)/\-2147483648<=a.2.1/\a.2.1<=4294967295
theorem zDm:∀ {l:List Tok} {p:Str} {a:List ArgD},matF l p=some a->a.length=(p.filter opC).length/\∀ x∈a,okArg x
 | [],[],a,h=>by simp only [matF,zV2] at h;subst h;simp
 | [],_::_,a,h=>by simp [matF] at h
 | _::_,[],a,h=>by simp [matF] at h
 | t::l,c::p,a,h=>by
  simp only [matF] at h;split at h
  ·rename_i hc;have hop:opC c=true:=by simp [opC,hc]
   split at h
   ·split at h
    ·rename_i q hq;obtain ⟨a',e,rfl⟩:=Option.map_eq_some_iff.1 h;obtain ⟨h1,h2⟩:=zDm e;refine ⟨by simp [hop,h1],fun x hx=>?_⟩
     rcases List.mem_cons.1 hx with rfl|hx
     ·have:=zVH hq;exact ⟨⟨by simp only;omega,by simp only;omega⟩,by simp only;omega,by simp only;omega⟩
     exact h2 x hx
    simp at h
   simp at h
  split at h
  ·rename_i hc;have hop:opC c=true:=by rcases hc with rfl|rfl<;>decide
   split at h
   ·obtain ⟨a',e,rfl⟩:=Option.map_eq_some_iff.1 h;obtain ⟨h1,h2⟩:=zDm e;refine ⟨by simp [hop,h1],fun x hx=>?_⟩
    rcases List.mem_cons.1 hx with rfl|hx
    ·exact ⟨⟨by simp only;omega,by simp only;omega⟩,by simp only;omega,by simp only;omega⟩
    exact h2 x hx
   split at h
   ·rename_i hn;obtain ⟨a',e,rfl⟩:=Option.map_eq_some_iff.1 h;obtain ⟨h1,h2⟩:=zDm e;refine ⟨by simp [hop,h1],fun x hx=>?_⟩
    rcases List.mem_cons.1 hx with rfl|hx
    ·refine ⟨⟨by simp only;omega,by simp only;omega⟩,?_⟩
     rcases zNd t.2.1 with q|q
     ·exact q
     rw [hn.2] at q;simp at q
    exact h2 x hx
   simp at h
  rename_i hc1 hc2;have hop:opC c=false:=by
   simp only [not_or] at hc2;simp [opC,hc1,hc2.1,hc2.2]
  split at h
  ·obtain ⟨h1,h2⟩:=zDm h;exact ⟨by simp [hop,h1],h2⟩
  simp at h
abbrev zSt:Str:=[46,119,111,114,100]
abbrev zMk:Str:=[46,115,112,97,99,101]
abbrev liWd:Str:=[108,105]
abbrev mvW:Str:=[109,118]
abbrev nopW:Str:=[110,111,112]
def zO0 (st:StD):Prop:=st.l.length<=6/\(0<=st.size/\st.size<=1024)/\(∀ x∈st.l,okArg x)/\(st.what=liWd->1<=st.l.length)/\(st.what=mvW->2<=st.l.length) /\
 (st.what≠zSt->st.what≠zMk->st.what≠liWd->st.what≠mvW->st.what≠nopW->zPa st.op st.l)
theorem zU3 {w p:Str} (h:patR w=some p):p.length<=6:=by
 unfold patR at h;by_cases e0:w=zSt
 ·rw [if_pos e0] at h;have e:=Option.some.inj h;subst e;decide
 rw [if_neg e0] at h;by_cases e1:w=zMk
 ·rw [if_pos e1] at h;have e:=Option.some.inj h;subst e;decide
 rw [if_neg e1] at h;by_cases e2:w=liWd
 ·rw [if_pos e2] at h;have e:=Option.some.inj h;subst e;decide
 rw [if_neg e2] at h;by_cases e3:w=mvW
 ·rw [if_pos e3] at h;have e:=Option.some.inj h;subst e;decide
 rw [if_neg e3] at h;by_cases e4:w=nopW
 ·rw [if_pos e4] at h;have e:=Option.some.inj h;subst e;decide
 rw [if_neg e4] at h
 (repeat' split at h)<;>simp only [zV2,reduceCtorEq] at h
 all_goals (subst h;decide)
theorem zOr {w p:Str} {q:List Tok} {a:List ArgD} {st:StD} (hp:patR w=some p) (hm:matF q p=some a) (h:finR w a=some st):zO0 st:=by
 obtain ⟨f1,_,_,f4,f5⟩:=zTG h;obtain ⟨m1,m2⟩:=zDm hm;have hl:st.l=a/\st.op=opD w:=by
  unfold finR at h;split at h
  ·simp only [zV2] at h;subst h;exact ⟨rfl,rfl⟩
  split at h
  ·split at h
   ·simp at h
   simp only [zV2] at h;subst h;exact ⟨rfl,rfl⟩
  simp only [zV2] at h;subst h;exact ⟨rfl,rfl⟩
 obtain ⟨l1,l2⟩:=hl;refine ⟨by rw [l1,m1];exact zWR (List.length_filter_le ..) (zU3 hp),⟨f4,f5⟩,by rw [l1];exact m2,fun e=>?_,fun e=>?_,fun e1 e2 e3 e4 e5=>?_⟩
 ·rw [f1] at e;rw [e,show patR liWd=some [114,44,120] from by decide +kernel] at hp
  simp only [zV2] at hp;rw [l1,m1,<- hp];decide
 ·rw [f1] at e;rw [e,show patR mvW=some [114,44,114] from by decide +kernel] at hp
  simp only [zV2] at hp;rw [l1,m1,<- hp];decide
 rw [f1] at e1 e2 e3 e4 e5;unfold patR at hp;rw [if_neg e1,if_neg e2,if_neg e3,if_neg e4,if_neg e5] at hp;rw [l1,l2];have hk:∀ (x:Str) (k:Nat),p=x->(x.filter opC).length=k->a.length=k:=fun x k e e'=>by rw [m1,e,e']
 have h48:zAH 48=7:=by decide
 have h48':opD w=48->zAH (opD w:Nat)=7:=fun e=>by rw [e];exact h48
 unfold zPa
 (repeat' split at hp)<;>simp only [zV2,reduceCtorEq] at hp
 all_goals (first|(have h3:=hk _ 3 hp.symm (by decide);omega)|(have h3:=hk _ 2 hp.symm (by decide);omega)|(have h3:=hk _ 0 hp.symm (by decide);omega))
theorem zR9 {t lb:Str} {st:StD} (h:parR t=some (lb,some st)):zO0 st:=by
 unfold parR at h;split at h
 ·simp at h
 split at h
 ·simp at h
 split at h
 ·simp at h
 obtain ⟨st',e,h'⟩:=Option.map_eq_some_iff.1 h;simp only [Prod.mk.injEq,zV2] at h';obtain ⟨_,rfl⟩:=h';unfold bodR at e;split at e
 ·simp at e
 rename_i p hp;split at e
 ·split at e
  ·simp at e
  rename_i a hm;exact zOr hp hm e
 simp at e
def zUd (p:PrR):Prop:=(∀ st∈p.sts,zO0 st/\0<=st.at'/\st.at'<=1024)/\(∀ x∈p.syms,0<=x.2/\x.2<=4096)/\0<=p.at'/\p.at'<=1024
theorem zO1 {st:StD} (h:zO0 st) (n a:Int):zO0 {st with line:=n,at':=a}:=h
theorem zG1:∀ {L:List Str} {n:Int} {p q:PrR},redF L n p=.ok q->zUd p->zUd q/\q.sts.length<=p.sts.length+L.length/\q.syms.length<=p.syms.length+L.length
 | [],n,p,q,h,g=>by simp only [redF,Except.ok.injEq] at h;subst h;exact ⟨g,by simp,by simp⟩
 | t::ts,n,p,q,h,g=>by
  obtain ⟨g1,g2,g3,g4⟩:=g;simp only [redF] at h;split at h
  ·simp at h
  rename_i lb st hpr;split at h
  ·simp at h
  rename_i S hS;have hSg:(∀ x∈S,0<=x.2/\x.2<=4096)/\S.length<=p.syms.length+1:=by
   unfold labS at hS;split at hS
   ·simp only [zV2] at hS;subst hS;exact ⟨g2,by omega⟩
   split at hS
   ·simp at hS
   simp only [zV2] at hS;subst hS;refine ⟨fun x hx=>?_,by simp⟩
   rcases List.mem_append.1 hx with hx|hx
   ·exact g2 x hx
   simp only [List.mem_singleton] at hx;subst hx;exact ⟨by simp only;omega,by simp only;omega⟩
  split at h
  ·simp at h
  rename_i hw;cases st with
  | none =>
   simp only [addS] at h hw;obtain ⟨r1,r2,r3⟩:=zG1 h ⟨g1,hSg.1,g3,g4⟩;exact ⟨r1,by simp only [zWG] at r2 ⊢;omega,by have:=hSg.2;simp only [zWG] at r3 ⊢;omega⟩
  | some st =>
   simp only [addS] at h hw;obtain ⟨z1,z2,z3⟩:=zTU hpr;obtain ⟨r1,r2,r3⟩:=zG1 h ⟨fun x hx=>by
    rcases List.mem_append.1 hx with hx|hx
    ·exact g1 x hx
    simp only [List.mem_singleton] at hx;subst hx;exact ⟨zO1 (zR9 hpr) _ _,g3,g4⟩,hSg.1,by simp only;omega,by simp only;omega⟩
   exact ⟨r1,by simp only [zWG,zV7,List.length_nil] at r2 ⊢;omega,by have:=hSg.2;simp only [zWG] at r3 ⊢;omega⟩
theorem zNm {s:Str} {q:PrR} (h:zHc s=.ok q):zUd q/\q.sts.length<=s.length+1/\q.syms.length<=s.length+1:=by
 unfold zHc at h;split at h
 ·simp at h
 obtain ⟨h1,h2,h3⟩:=zG1 h ⟨by simp,by simp,by simp,by simp⟩
 have:=(zGk s).1;simp only [List.length_nil,zWV] at h2 h3;exact ⟨h1,by omega,by omega⟩
def zRo (a:List ArgD):ArgD:=a.getD (a.length-1) arg0
def valR (S:List (Str × Int)) (st:StD):Option Int :=
 if (zRo st.l).2.2=[] then some (zRo st.l).2.1
 else (zEM (zRo st.l).2.2 S).map fun a=>if 0<st.op then a.tdiv 4-st.at' else a
def encE (i:InstD):Int:=if validD i then encW i else 0
def codR (st:StD) (v:Int):Option (List Int) :=
 if st.what=zSt then some [v % 4294967296]
 else if st.what=zMk then some (List.replicate st.size.toNat 0)
 else if st.what=liWd then some [encE ⟨24,(st.l.getD 0 arg0).1,0,0,v % 4294967296 / 65536⟩,encE ⟨18,(st.l.getD 0 arg0).1,(st.l.getD 0 arg0).1,0,v % 65536⟩]
 else if st.what=mvW then some [encE ⟨16,(st.l.getD 0 arg0).1,(st.l.getD 1 arg0).1,0,0⟩]
 else if st.what=nopW then some [encE ⟨16,0,0,0,0⟩]
 else (zIb st.op st.l v).map fun w=>[w]
def zG2 (S:List (Str × Int)):List StD->List Int->Except (Int × Int) (List Int)
 | [],out=>.ok out
 | st::r,out=>match valR S st with
  | none=>.error (302,st.line)
  | some v=>match codR st v with
   | none=>.error (304,st.line)
   | some w=>zG2 S r (out++w)
def asmR (s:Str):Except (Int × Int) (List Int):=match zHc s with
 | .error e=>.error e
 | .ok p=>zG2 p.syms p.sts []
def zHS (s:Str):V:=match asmR s with
 | .error e=>.tup [.sl 1 true [],errV e]
 | .ok out=>.tup [.new 25 1 (ints .u32 out),errV (0,0)]
theorem zVk (l:List StD) (i:Nat) (h:i<l.length):(stsV l)[i]? =some l[i].row:=by simp [stsV,h]
theorem zMa:∀ {L:List Str} {n e m:Int} {p:PrR},redF L n p=.error (e,m)->e≠0
 | [],n,e,m,p,h=>by simp [redF] at h
 | t::ts,n,e,m,p,h=>by
  simp only [redF] at h;split at h
  ·simp only [Except.error.injEq,Prod.mk.injEq] at h;omega
  split at h
  ·simp only [Except.error.injEq,Prod.mk.injEq] at h;omega
  split at h
  ·simp only [Except.error.injEq,Prod.mk.injEq] at h;omega
  exact zMa h
theorem zPp {s:Str} {e n:Int} (h:zHc s=.error (e,n)):e≠0:=by
 unfold zHc at h;split at h
 ·simp only [Except.error.injEq,Prod.mk.injEq] at h;omega
 exact zMa h
theorem zD0 (i:InstD) (hi:-2147483648<=i.imm/\i.imm<=2147483647):zAD prog 115 [.st i.row] (.tup [.int .u32 (encE i),.bool (validD i)]):=zD1 i hi
theorem zDk (k:IntKind) (l:List Int) (x:Int):ints k l++[[V.int k x]]=ints k (l++[x]):=by simp [ints]
theorem zRi (k:IntKind) (l:List Int) (x y:Int):ints k l++[[V.int k x],[V.int k y]]=ints k (l++[x,y]):=by simp [ints]
set_option maxHeartbeats 32000000 in
theorem zJK (s:Str) (hsl:s.length<=999999):zAD prog 61 [.str s] (zHS s):=by
 refine sX func61 ntmps61 ?_;(repeat intro K hK);apply wr
 have hrd:=zVG s (by omega)
 unfold zEo at hrd;cases hr:zHc s with
 | error e =>
  obtain ⟨e,n⟩:=e;rw [hr] at hrd;have hne:e≠0:=zPp hr;have hv:zHS s=.tup [.sl 1 true [],errV (e,n)]:=by unfold zHS asmR;rw [hr]
  refine cX (hrd) ?_;(repeat intro K hK);apply wr
  refine gT10 @hne rfl ?_;(repeat intro K hK);apply wr
  refine zAE 3 [0,0,3] [(2,([[],[]],[])),(1,([],[]))] ?_;refine af ?_;(repeat intro K hK);apply wr
  refine af ?_;(repeat intro K hK);apply wr
  refine zAI ?_;refine zAB ?_;simp [hv]
 | ok p =>
  obtain ⟨hg,hpl,hsyl⟩:=zNm hr;rw [hr] at hrd;have ha:asmR s=zG2 p.syms p.sts []:=by unfold asmR;rw [hr]
  obtain ⟨S,T,w⟩:=p;simp only at hrd ha hpl hsyl;refine cXf (hrd) ?_;(repeat intro K hK);apply wr
  refine zBy rfl ?_;(repeat intro K hK);apply wr
  refine zAT 7 25 1 (by decide) rfl ?_
  simp;obtain ⟨I,hI⟩:∃ I:Nat->St->Prop,I=(fun kk ss=>∃ (i:Nat) (out:List Int),i<=T.length/\kk=T.length-i/\(zG2 S T []=zG2 S (T.drop i) out/\out.length<=1024*i)/\ss=⟨194,[(8,.int .i64 i),(7,.own 1),(5,.sl 6 false (stsV T)),(4,.sl 2 false (zC0 S)),(3,.ptr 0 2 0 0)],2,[(0,some ⟨137,2,true,false,[[.int .i64 0,.int .i64 0]]⟩),(1,some ⟨25,1,false,false,ints .u32 out⟩)],0⟩):=⟨_,rfl⟩
  refine lX I (fun x=>if x=1 then 6 else x) (by rw [hI];exact ⟨0,[],by simp,rfl,by simp,rfl⟩) ?_
  intro kk ss hIk _
  rw [hI] at hIk;obtain ⟨i,out,hi,rfl,hx,rfl⟩:=hIk;obtain ⟨hx,hol⟩:=hx;have hTl:=zMo T;have hw:IntKind.i64.wrap ((i:Int)+1)=(i:Int)+1:=zAA (by omega) (by omega)
  refine af1 @hTl ?_;(repeat intro K hK);apply wr
  by_cases hi':i<T.length
  ·obtain ⟨st,hst⟩:∃ st,st=T[i]:=⟨_,rfl⟩;have hstm:st∈T:=by rw [hst];exact zWU hi'
   obtain ⟨gS,ga1,ga2⟩:=hg.1 st hstm;have hget:(stsV T)[i]? =some st.row:=by rw [hst];exact zVk T i hi'
   have hdr:T.drop i=st::T.drop (i+1):=by rw [zWZ hi',hst]
   rw [hdr,zG2] at hx;have hal:=zJJ st.l;have hl6:=gS.1;refine cT1 @hi' rfl ?_
   iterate 12 (first|(with_reducible first|refine zAw fun K hK=>?_|refine zAl ?_)|((with_reducible first|refine zAe (by kernel_rfl) ?_|refine zA1 ?_|refine zAy ?_|refine zA0 ?_|refine zAz ?_|refine zCh ?_|refine zCe ?_|refine zCg ?_|refine zCf ?_|refine zAx ?_|refine zAv ?_);simp [hget,hTl])|((repeat ((fail_if_success ((with_reducible first|refine hK _ ?_|refine hK _ _ _ _ ?_)));clear hK));(with_reducible first|refine hK _ ?_|refine hK _ _ _ _ ?_);clear hK)|(with_reducible refine zDO fun K hK=>?_;simp [hget,hTl])|(with_reducible refine zDN ?_;try simp only [thn,blk])|(with_reducible refine zDP fun K hK=>?_;simp only [List.take_succ_cons,List.take_zero])|(with_reducible refine zCc fun K hK=>?_;simp [hget,hTl])|(with_reducible refine zDF ?_)|(with_reducible refine zCn ?_;simp only [List.drop_succ_cons,List.drop_zero];simp only [stS,eT,eO,zWM,zWa,cond_true,cond_false,Bool.and_true,Bool.and_false,Bool.true_and,Bool.false_and])|(with_reducible refine zB2 ?_ ?_;(· (simp [hget,hTl]<;>first|omega|grind)))|refine And.intro (by first|omega|assumption|grind) ?_)
   refine zB1 (α:=Int) (fun v=>(⟨194,[(10,.int .i64 v),(9,.ptr 2 6 0 0),(8,.int .i64 i),(7,.own 1),(5,.sl 6 false (stsV T)),(4,.sl 2 false (zC0 S)),(3,.ptr 0 2 0 0)],3,[(0,some ⟨137,2,true,false,[[.int .i64 0,.int .i64 0]]⟩),(1,some ⟨25,1,false,false,ints .u32 out⟩),(2,some ⟨216,6,true,false,[[.str st.what,.int .i64 st.op,.sl 3 false (zDV st.l),.int .i64 st.line,.int .i64 st.at',.int .i64 st.size]]⟩)],0⟩:St)) (fun v=>valR S st=some v/\-4294967296<=v/\v<=4294967296) hK (fun v hxhV=>?_) (fun hV=>?_)
   all_goals clear hK
   ·obtain ⟨hvr,hv1,hv2⟩:=hxhV;rw [hvr] at hx;simp only at hx;have hu:IntKind.u32.wrap v=v % 4294967296:=IntKind.wrap_u32 v;have hil:=zL4 .u32 out;have hmx:(ints .u32 out).length+1<=maxLen:=by rw [hil];simp [maxLen];omega
    have hm4:(out.length+1)*4<=140737488355328:=by omega
    refine af ?_;(repeat intro K hK);apply wr
    by_cases w1:st.what=zSt
    ·have hc:codR st v=some [v % 4294967296]:=by unfold codR;rw [if_pos w1]
     refine cT1 @w1 rfl ?_;rw [hc] at hx;simp only at hx;have hap:=zDk .u32 out (v % 4294967296);refine af1 (kX5 @hu @hmx @hm4 @hap @hil) ?_;(repeat intro K hK);apply wr
     exact aX (fun x=>if x=1 then 4 else x) (by rw [hI];exact ⟨i+1,(out++[v % 4294967296]),by omega,rfl,⟨hx,by simp;omega⟩,rfl⟩) (kX3 (zAA (n:=(i:Int)+1) (by omega) (by omega)) @hw @hap)
    refine zBO @w1 rfl ?_;(repeat intro K hK);apply wr
    by_cases w2:st.what=zMk
    ·obtain ⟨⟨hs0,hs1⟩,_⟩:=gS.2;obtain ⟨z,hz⟩:∃ z:Nat,z=st.size.toNat:=⟨_,rfl⟩;have hzs:st.size=(z:Int):=by omega
     have hc:codR st v=some (List.replicate z 0):=by unfold codR;rw [if_neg w1,if_pos w2,hz]
     rw [hc] at hx;simp only at hx;refine zDe @w2 rfl ?_;(repeat intro K hK);apply wr
     obtain ⟨Ij,hIj⟩:∃ I:Nat->St->Prop,I=(fun kk ss=>∃ (j:Nat) ,j<=z/\kk=z-j/\(True)/\ss=⟨194,[(14,.int .i64 j),(10,.int .i64 v),(9,.ptr 2 6 0 0),(8,.int .i64 i),(7,.own 1),(5,.sl 6 false (stsV T)),(4,.sl 2 false (zC0 S)),(3,.ptr 0 2 0 0)],3,[(0,some ⟨137,2,true,false,[[.int .i64 0,.int .i64 0]]⟩),(1,some ⟨25,1,false,false,ints .u32 (out++List.replicate j 0)⟩),(2,some ⟨216,6,true,false,[[.str st.what,.int .i64 st.op,.sl 3 false (zDV st.l),.int .i64 st.line,.int .i64 st.at',.int .i64 st.size]]⟩)],0⟩):=⟨_,rfl⟩
     refine lX Ij (id) (by rw [hIj];exact ⟨0,by simp,rfl,trivial,rfl⟩) ?_
     intro kk ss hIk _
     rw [hIj] at hIk;obtain ⟨j,hj,rfl,hxj,rfl⟩:=hIk;have hwj:IntKind.i64.wrap ((j:Int)+1)=(j:Int)+1:=zAA (by omega) (by omega)
     have hil2:=zL4 .u32 (out++List.replicate j 0);rw [zV7,List.length_replicate] at hil2;have hmx2:(ints .u32 (out++List.replicate j 0)).length+1<=maxLen:=by rw [hil2];simp [maxLen];omega
     have hm42:(out.length+j+1)*4<=140737488355328:=by omega
     have hap2:=zDk .u32 (out++List.replicate j 0) 0;have hrp:out++List.replicate j (0:Int)++[0]=out++List.replicate (j+1) 0:=by rw [zWH,List.replicate_succ']
     rw [hrp] at hap2;obtain ⟨o2,ho2⟩:∃ o2,o2=out++List.replicate j (0:Int):=⟨_,rfl⟩;rw [<- ho2] at hil2 hmx2 hap2 ⊢;refine af1 @hzs ?_;(repeat intro K hK);apply wr
     by_cases hj':j<z
     ·refine zCw @hj' rfl (kX4 @hil2 @hmx2 @hm42 @hap2) ?_;(repeat intro K hK);apply wr
      exact aX (fun x=>if x=1 then 4 else x) (by rw [hIj];exact ⟨j+1,by omega,rfl,trivial,rfl⟩) (kX4 (zAA (n:=(j:Int)+1) (by omega) (by omega)) @hwj @hap2 @hzs)
     have hjz:j=z:=by omega
     subst hjz;rw [<- ho2] at hx;refine zBO @hj' rfl ?_;(repeat intro K hK);apply wr
     exact aX (id) (by rw [hI];exact ⟨i+1,o2,by omega,rfl,⟨hx,by rw [ho2];simp;omega⟩,rfl⟩) (kX2 (zAA (n:=(i:Int)+1) (by omega) (by omega)) @hw)
    refine zBO @w2 rfl ?_;(repeat intro K hK);apply wr
    by_cases w3:st.what=liWd
    ·have g0:=zBU st.l 0 (by have:=gS.2.2.2.1 w3;omega)
     have hd1:IntKind.i32.wrap (v % 4294967296 / 65536)=v % 4294967296 / 65536:=by rw [IntKind.wrap_i32];omega
     have hd2:IntKind.i32.wrap (v % 4294967296 % 65536)=v % 4294967296 % 65536:=by rw [IntKind.wrap_i32];omega
     have hfd:(v % 4294967296).fdiv 65536=v % 4294967296 / 65536:=zWC _ (by decide)
     have hc:codR st v=some [encE ⟨24,(st.l.getD 0 arg0).1,0,0,v % 4294967296 / 65536⟩,encE ⟨18,(st.l.getD 0 arg0).1,(st.l.getD 0 arg0).1,0,v % 65536⟩]:=by unfold codR;rw [if_neg w1,if_neg w2,if_pos w3]
     generalize st.l.getD 0 arg0=r at g0 hc;rw [hc] at hx;simp only at hx;have hdf:IntKind.i32.wrap ((v % 4294967296).fdiv 65536)=v % 4294967296 / 65536:=by rw [hfd,hd1]
     have hd2':IntKind.i32.wrap (v % 4294967296 % 65536)=v % 65536:=by rw [hd2];omega
     have hdm:IntKind.i32.wrap (IntKind.u32.wrap ((BitVec.ofInt 32 (v % 4294967296) &&& 65535#32).toNat:Int))=v % 65536:=by
      have:=zBJ (v % 4294967296) 16 65536 (by decide) (by decide)
      rw [show BitVec.ofNat 32 (65536-1)=65535#32 from rfl] at this
      rw [this,show ((65536:Nat):Int)=65536 from rfl];exact hd2'
     have hem:zAD prog 115 [.st [.int .i64 18,.int .i64 r.1,.int .i64 r.1,.int .i64 0,.int .i32 (IntKind.i32.wrap (IntKind.u32.wrap ((BitVec.ofInt 32 (v % 4294967296) &&& 65535#32).toNat:Int)))]] (.tup [.int .u32 (encE ⟨18,r.1,r.1,0,v % 65536⟩),.bool (validD ⟨18,r.1,r.1,0,v % 65536⟩)]):=by
      rw [hdm];exact zD0 ⟨18,r.1,r.1,0,v % 65536⟩ ⟨by simp only;omega,by simp only;omega⟩
     have hm42:(out.length+2)*4<=140737488355328:=by omega
     have hmx2:(ints .u32 out).length+2<=maxLen:=by rw [hil];simp [maxLen];omega
     refine zCw @w3 rfl (kX3 @g0 @hu @hal) ?_;(repeat intro K hK);apply wr
     simp only [hdf];refine cXf (zD0 ⟨24,r.1,0,0,v % 4294967296 / 65536⟩ ⟨by simp only;omega,by simp only;omega⟩) ?_;(repeat intro K hK);apply wr
     refine zAE 21 [0,1,3,7,15,0,32,96,224,480,0,1024,3072,7168,16383,32767,65535,131071,131071,262143,1048575] [(14,([[],[0],[0,1],[0,1,2],[0,1,2,3],[],[5],[5,6],[5,6,7],[5,6,7,8],[],[10],[10,11],[10,11,12]],[])),(1,([],[])),(1,([],[])),(1,([],[])),(3,([[],[],[0]],[])),(1,([],[]))] ?_;refine af1 (kX3 @g0 @hu @hal) ?_;(repeat intro K hK);apply wr
     refine cc (hem) ?_;have hap:=zRi .u32 out (encE ⟨24,r.1,0,0,v % 4294967296 / 65536⟩) (encE ⟨18,r.1,r.1,0,v % 65536⟩);refine af1 (kX5 @hu @hmx2 @hm42 @hap @hil) ?_;(repeat intro K hK);apply wr
     exact aX (fun x=>if x=1 then 8 else x) (by rw [hI];exact ⟨i+1,(out++[encE ⟨24,r.1,0,0,v % 4294967296 / 65536⟩,encE ⟨18,r.1,r.1,0,v % 65536⟩]),by omega,rfl,⟨hx,by simp;omega⟩,rfl⟩) (kX3 (zAA (n:=(i:Int)+1) (by omega) (by omega)) @hw @hap)
    refine zBO @w3 rfl ?_;(repeat intro K hK);apply wr
    by_cases w4:st.what=mvW
    ·have g0:=zBU st.l 0 (by have:=gS.2.2.2.2.1 w4;omega)
     have g1:=zBU st.l 1 (by have:=gS.2.2.2.2.1 w4;omega)
     have hc:codR st v=some [encE ⟨16,(st.l.getD 0 arg0).1,(st.l.getD 1 arg0).1,0,0⟩]:=by unfold codR;rw [if_neg w1,if_neg w2,if_neg w3,if_pos w4]
     generalize st.l.getD 0 arg0=r at g0 hc;generalize st.l.getD 1 arg0=q at g1 hc;refine zDe @w4 rfl ?_;(repeat intro K hK);apply wr
     refine zAE 17 [0,1,3,7,15,0,32,96,224,480,1023,2047,4095,8191,8191,16383,65535] [(10,([[],[0],[0,1],[0,1,2],[0,1,2,3],[],[5],[5,6],[5,6,7],[5,6,7,8]],[])),(1,([],[])),(1,([],[])),(1,([],[])),(3,([[],[],[0]],[])),(1,([],[]))] ?_;refine af1 (kX2 @g0 @g1) ?_;(repeat intro K hK);apply wr
     refine af1 (kX2 @g0 @g1) ?_;(repeat intro K hK);apply wr
     refine cc (zD0 ⟨16,r.1,q.1,0,0⟩ ⟨by simp only;omega,by simp only;omega⟩) ?_
     rw [hc] at hx;simp only at hx;have hap:=zDk .u32 out (encE ⟨16,r.1,q.1,0,0⟩);refine af1 (kX5 @hu @hmx @hm4 @hap @hil) ?_;(repeat intro K hK);apply wr
     exact aX (fun x=>if x=1 then 6 else x) (by rw [hI];exact ⟨i+1,(out++[encE ⟨16,r.1,q.1,0,0⟩]),by omega,rfl,⟨hx,by simp;omega⟩,rfl⟩) (kX3 (zAA (n:=(i:Int)+1) (by omega) (by omega)) @hw @hap)
    refine zBO @w4 rfl ?_;(repeat intro K hK);apply wr
    by_cases w5:st.what=nopW
    ·refine zDe @w5 rfl ?_;(repeat intro K hK);apply wr
     refine cc (zD0 ⟨16,0,0,0,0⟩ ⟨by decide,by decide⟩) ?_
     have hc:codR st v=some [encE ⟨16,0,0,0,0⟩]:=by unfold codR;rw [if_neg w1,if_neg w2,if_neg w3,if_neg w4,if_pos w5]
     rw [hc] at hx;simp only at hx;have hap:=zDk .u32 out (encE ⟨16,0,0,0,0⟩);refine af1 (kX5 @hu @hmx @hm4 @hap @hil) ?_;(repeat intro K hK);apply wr
     exact aX (fun x=>if x=1 then 6 else x) (by rw [hI];exact ⟨i+1,(out++[encE ⟨16,0,0,0,0⟩]),by omega,rfl,⟨hx,by simp;omega⟩,rfl⟩) (kX3 (zAA (n:=(i:Int)+1) (by omega) (by omega)) @hw @hap)
    have hio:=zK2 st v (gS.2.2.2.2.2 w1 w2 w3 w4 w5);have hc:codR st v=(zIb st.op st.l v).map fun w=>[w]:=by unfold codR;rw [if_neg w1,if_neg w2,if_neg w3,if_neg w4,if_neg w5]
    unfold zHX at hio;refine zBO @w5 rfl ?_;(repeat intro K hK);apply wr
    refine cXf (hio) ?_;(repeat intro K hK);apply wr
    cases hir:zIb st.op st.l v with
    | none =>
     rw [hir] at hc;rw [hc] at hx;have hv:zHS s=.tup [.sl 1 true [],errV (304,st.line)]:=by unfold zHS;rw [ha,hx];rfl
     refine zDe @hir rfl ?_;(repeat intro K hK);apply wr
     refine zAE 5 [0,1,3,0,15] [(4,([[],[0],[0,1],[]],[])),(1,([],[]))] ?_;refine af ?_;(repeat intro K hK);apply wr
     refine af ?_;(repeat intro K hK);apply wr
     refine zAI ?_;refine zAB ?_;simp [hv]
    | some wd =>
     rw [hir] at hc;simp only [Option.map_some] at hc;refine zEH @hir rfl @hir ?_;(repeat intro K hK);apply wr
     rw [hc] at hx;simp only at hx;have hap:=zDk .u32 out (wd);refine af1 (kX5 @hu @hmx @hm4 @hap @hil) ?_;(repeat intro K hK);apply wr
     exact aX (fun x=>if x=1 then 6 else x) (by rw [hI];exact ⟨i+1,(out++[wd]),by omega,rfl,⟨hx,by simp;omega⟩,rfl⟩) (kX3 (zAA (n:=(i:Int)+1) (by omega) (by omega)) @hw @hap)
   by_cases hl0:st.l.length=0
   ·have hvr:valR S st=some 0:=by
     have:st.l=[]:=zWB hl0;simp [valR,zRo,this]
    have hl0':¬ (0:Int)<(st.l.length:Int):=by omega
    refine af1 @hal ?_;(repeat intro K hK);apply wr
    refine zBO @hl0 rfl ?_;(repeat intro K hK);apply wr
    refine hV 0 _ (id) (⟨hvr,by omega,by omega⟩) ⟨rfl,?_,?_,?_,by simp⟩
    ·simp [leT,ltV,lt1,ren,ren1]
    ·simp [leO,lt1,ren1]
    (simp;try omega)
   have hl0':(0:Int)<(st.l.length:Int):=by omega
   have hl1:IntKind.i64.wrap ((st.l.length:Int)-1)=(st.l.length:Int)-1:=zAA (by omega) (by omega)
   have htn:((st.l.length:Int)-1).toNat=st.l.length-1:=by omega
   have glast:=zBU st.l (st.l.length-1) (by omega)
   have hlr:valR S st=if (st.l.getD (st.l.length-1) arg0).2.2=[] then some (st.l.getD (st.l.length-1) arg0).2.1 else (zEM (st.l.getD (st.l.length-1) arg0).2.2 S).map fun a=>if 0<st.op then a.tdiv 4-st.at' else a:=rfl
   have hra:=gS.2.2.1 _ (zWU (show st.l.length-1<st.l.length by omega))
   have hge:st.l[st.l.length-1]=st.l.getD (st.l.length-1) arg0:=by rw [zV1,zV3 (by omega)];rfl
   rw [hge] at hra;generalize st.l.getD (st.l.length-1) arg0=r at glast hlr hra;obtain ⟨r1,r2,r3⟩:=r;obtain ⟨_,hb1,hb2⟩:=hra;simp only at glast hlr hb1 hb2;refine af1 @hal ?_;(repeat intro K hK);apply wr
   refine zAC rfl (fun _=>?_) (fun h=>absurd (by simpa using h) hl0)
   refine af1 (kX4 @hal @hl1 @htn @glast) ?_;(repeat intro K hK);apply wr
   by_cases h3:r3=[]
   ·rw [if_pos h3] at hlr;refine zBO @h3 rfl ?_;(repeat intro K hK);apply wr
    refine hV r2 _ (id) (⟨hlr,by omega,by omega⟩) ⟨rfl,?_,?_,?_,by simp⟩
    ·simp [leT,ltV,lt1,ren,ren1]
    ·simp [leO,lt1,ren1]
    (simp;try omega)
   rw [if_neg h3] at hlr;refine zDe @h3 rfl ?_;(repeat intro K hK);apply wr
   refine cXf (zE7 S r3 (by omega)) ?_;(repeat intro K hK);apply wr
   cases hfd:zEM r3 S with
   | none =>
    rw [hfd] at hlr;simp only [Option.map_none] at hlr;rw [hlr] at hx;have hv:zHS s=.tup [.sl 1 true [],errV (302,st.line)]:=by unfold zHS;rw [ha,hx]
    refine zDe @hfd rfl ?_;(repeat intro K hK);apply wr
    refine zAE 5 [0,1,3,0,15] [(4,([[],[0],[0,1],[]],[])),(1,([],[]))] ?_;refine af ?_;(repeat intro K hK);apply wr
    refine af ?_;(repeat intro K hK);apply wr
    refine zAI ?_;refine zAB ?_;simp [hv]
   | some ad =>
    rw [hfd] at hlr;simp only [Option.map_some] at hlr;obtain ⟨zz,hz1,hz2⟩:=zJq hfd;obtain ⟨hz3,hz4⟩:=hg.2.1 zz hz1;rw [hz2] at hz3 hz4;have hwa:IntKind.i64.wrap ad=ad:=zAA (by omega) (by omega)
    have ht4:ad.tdiv 4=ad / 4:=Int.tdiv_eq_ediv_of_nonneg hz3;have hwd:IntKind.i64.wrap (ad / 4)=ad / 4:=zAA (by omega) (by omega)
    have hwm:IntKind.i64.wrap (ad / 4-st.at')=ad / 4-st.at':=zAA (by omega) (by omega)
    refine zEH @hfd rfl (kX2 @hfd @hwa) ?_;(repeat intro K hK);apply wr
    by_cases hop:0<st.op
    ·rw [if_pos hop,ht4] at hlr;refine zCw @hop rfl (kX5 @hwa @hwd @hwm @ht4 @hfd) ?_;(repeat intro K hK);apply wr
     refine hV (ad / 4-st.at') _ (id) (⟨hlr,by omega,by omega⟩) ⟨rfl,?_,?_,?_,by simp⟩
     ·simp [leT,ltV,lt1,ren,ren1,hwd,hwm,ht4]
     ·simp [leO,lt1,ren1,hwd,hwm,ht4]
     (simp;try omega)
    rw [if_neg hop] at hlr;refine zBO @hop rfl ?_;(repeat intro K hK);apply wr
    refine hV ad _ (id) (⟨hlr,by omega,by omega⟩) ⟨rfl,?_,?_,?_,by simp⟩
    ·simp [leT,ltV,lt1,ren,ren1,hfd,hwa]
    ·simp [leO,lt1,ren1,hfd,hwa]
    (simp;try omega)
  have:i=T.length:=by omega
  subst this;rw [List.drop_length,zG2] at hx;have hv:zHS s=.tup [.new 25 1 (ints .u32 out),errV (0,0)]:=by unfold zHS;rw [ha,hx]
  refine zBy rfl ?_;(repeat intro K hK);apply wr
  refine zAB ?_;simp [hv]
end Go.Proofs.YthjpcmecgjfilaaGreat.As
end
