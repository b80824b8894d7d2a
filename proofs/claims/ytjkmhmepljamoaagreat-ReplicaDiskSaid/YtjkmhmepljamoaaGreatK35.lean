/- A part of the proof of ReplicaDisk. -/
import Derived.Test.YtjkmhmepljamoaaGreatK05
import Derived.Test.YtjkmhmepljamoaaGreatK06
import Derived.Test.YtjkmhmepljamoaaGreatK14
import Derived.Test.YtjkmhmepljamoaaGreatK34
set_option linter.all false
set_option maxHeartbeats 16000000
set_option maxRecDepth 100000
section
namespace Go.Proofs.YtjkmhmepljamoaaGreat
open Go.Ab Go.RowKit Tryz
def Ls(o:Option (Nat×Nat)):V:=match o with
 | some (x,n)=>.tup [lv (x:Int),iv n,.bool true]
 | none=>.tup [lv 0,iv 0,.bool false]
theorem Tt(x c s:Nat)(hx:x<2^s)(h:x+c*2^s<18446744073709551616):ior .u64 (x:Int) ((c*2^s:Nat):Int)=((x+c*2^s:Nat):Int):=by
 have e:x ||| c*2^s=x+c*2^s:=by rw[Nat.or_comm,<- Nat.shiftLeft_eq,<- Nat.shiftLeft_add_eq_or_of_lt hx,Nat.add_comm]
 unfold ior;rw[show IntKind.u64.bits=64 from rfl,BitVec.ofInt_natCast,BitVec.ofInt_natCast,BitVec.toNat_or,BitVec.toNat_ofNat,BitVec.toNat_ofNat,Nat.mod_eq_of_lt (by omega),Nat.mod_eq_of_lt (by omega),e,IntKind.wrap_u64];omega
theorem Zy:∀k:Fin 256,Bg .u8 (k.val:Int) 127=(k.val:Int)%128:=by decide +kernel
theorem and127(b:UInt8):Bg .u8 (b.toNat:Int) 127=(b.toNat:Int)%128:=Zy ⟨b.toNat,b.toNat_lt⟩
theorem Do(i x:Nat)(b:UInt8)(r:Str):Ji i x (b::r)=if 10<=i then none else if i=9/\1<b.toNat then none else if 128<=b.toNat then Ji (i+1) (x+b.toNat%128*2^(7*i)) r
  else if b=0/\0<i then none else some (x+b.toNat*2^(7*i),i+1):=rfl
theorem PC(s:Str)(hs:s.length<=1000000):AC prog 131 [.str s] (Ls (N7 s)):=by
 obtain⟨m,hm⟩:∃m,m=min 10 s.length:=⟨_,rfl⟩;have hmi:(if(10:Int)<(s.length:Int)then 10 else(s.length:Int))=m:=by split<;>omega
 refine sX func131 ntmps131 ?_;refine au1 @hmi ?_;intros;apply wr;refine Aa (m+1) ?_;refine BM (fun c st=>∃(T:List (Nat×V))(i x:Nat),i+c=m/\st=⟨44,T,0,[],0⟩/\(lkT T 0=.str s/\lkT T 5=lv x/\lkT T 10=iv m/\lkT T 11=.int .i64 i)/\x<2^(7*i)/\Ji i x (s.drop i)=N7 s) ?_ _ _ ⟨_,0,0,by omega,rfl,by simp[lkT];exact hmi,by simp,rfl⟩;rintro c st ⟨T,i,x,hic,rfl,⟨t0,t5,t10,t11⟩,hx,hE⟩ Kl hKl;refine Bq [(0,.str s),(5,lv x),(10,iv m),(11,.int .i64 i)] (by simp[t0,t5,t10,t11]) ?_;refine au ?_;intros;apply wr;by_cases him:i<m
 ·have c1:(i:Int)<m:=by omega
  obtain⟨c',rfl⟩:∃c',c=c'+1:=⟨c-1,by omega⟩;obtain⟨b,hb,hd⟩:=Ff (t:=s) (i:=i) (by omega);rw[hd,Do,nG]at hE;have hb8:=b.toNat_lt;have c2:(i:Int)<s.length:=by omega
  refine DI (kX2 @him @c1) (kX3 @hb @c1 @c2) ?_;intros;apply wr;by_cases h9:i=9/\1<b.toNat
  ·rw[if_pos h9]at hE;have k1:(i:Int)=9:=by omega
   have k2:(1:Int)<b.toNat:=by omega
   have k3:((i:Int)==9)=true:=by rw[k1];rfl
   have k4:1<b.toNat:=h9.2;refine ED (kX4 @k1 @k2 @k3 @k4) ?_;refine ar ?_;simp[Ls,<- hE]
  rw[if_neg h9]at hE;have k1:((i:Int)==9&&decide ((1:Int)<b.toNat))=false:=by simp;omega
  have k2:¬((i:Int)=9/\(1:Int)<b.toNat):=by omega
  have k3:i=9->b.toNat<=1:=by omega
  have k4:IntKind.i64.wrap (7*(i:Int))=7*(i:Int):=AA;have k5:IntKind.u64.wrap ((b.toNat:Int)%128)=(b.toNat:Int)%128:=by rw[IntKind.wrap_u64];omega
  have k6:IntKind.u64.wrap (7*(i:Int))=7*(i:Int):=by rw[IntKind.wrap_u64];omega
  have k7:(7*(i:Int)).toNat=7*i:=by omega
  have k8:(0:Int)<=7*(i:Int):=by omega
  obtain⟨P,hP⟩:∃P,P=2^(7*i):=⟨_,rfl⟩;have hP64:(b.toNat%128+1)*P<=18446744073709551616:=by
   by_cases hi9:i=9
   ·subst hi9;rw[show P=9223372036854775808 by rw[hP]];omega
   have h1:P<=2^56:=by rw[hP];exact Nat.pow_le_pow_right (by decide) (by omega)
   exact iY (Nat.mul_le_mul (show b.toNat%128+1<=128 by omega) h1) (by decide)
  rw[Nat.succ_mul]at hP64;have hPn:P*128=2^(7*(i+1)):=by rw[hP,show 7*(i+1)=7*i+7 by omega,Nat.pow_add]
  have hPm:(b.toNat%128+1)*P<=128*P:=iW _ (by omega);rw[Nat.succ_mul]at hPm;rw[<- hP]at hx hE;obtain⟨y,hy⟩:∃y,y=x+b.toNat%128*P:=⟨_,rfl⟩;have k9:ior .u64 (x:Int) (IntKind.u64.wrap ((b.toNat:Int)%128*2^min (7*i) IntKind.u64.bits))=(y:Int):=by
   rw[gY (show 7*i<=IntKind.u64.bits by simp[IntKind.bits];omega)];have e:(b.toNat:Int)%128*2^(7*i)=((b.toNat%128*P:Nat):Int):=by rw[hP];simp
   rw[e,show IntKind.u64.wrap ((b.toNat%128*P:Nat):Int)=((b.toNat%128*P:Nat):Int) by rw[IntKind.wrap_u64];omega,hy,hP];exact Tt _ _ _ (by rw[<- hP];exact hx) (by rw[<- hP];omega)
  have k10:IntKind.i64.wrap ((i:Int)+1)=(i:Int)+1:=AA;refine EP (kX3 @k1 @k2 @k3) (kX7 @and127 @k4 @k5 @k6 @k7 @k8 @k9) ?_;intros;apply wr;by_cases hb1:128<=b.toNat
  ·have g1:(128:Int)<=b.toNat:=by omega
   rw[if_pos hb1,<- hy]at hE;refine DI (kX2 @g1 @hb1) @k10 ?_;intros;apply wr;exact hKl c' _ rfl ⟨_,i+1,y,by omega,rfl,by simp[lkT],by omega,hE⟩
  have g1:¬(128:Int)<=b.toNat:=by omega
  rw[if_neg hb1]at hE;refine BU (kX2 @g1 @hb1) ?_;intros;apply wr;by_cases h0:b=0/\0<i
  ·rw[if_pos h0]at hE;have g2:(b.toNat:Int)=0:=by rw[h0.1];rfl
   have g3:(0:Int)<i:=by omega
   have g4:0<i:=h0.2;have g5:b.toNat=0:=by omega
   refine ED (kX4 @g2 @g3 @g4 @g5) ?_;refine ar ?_;simp[Ls,<- hE]
  rw[if_neg h0]at hE;have g0:¬(b.toNat=0/\0<i):=fun z=>h0 ⟨UInt8.toNat_inj.1 (by simpa using z.1),z.2⟩;have g2:((b.toNat:Int)==0&&decide ((0:Int)<i))=false:=by simp;omega
  have g3:¬((b.toNat:Int)=0/\(0:Int)<i):=by omega
  have g4:b.toNat=0->i=0:=by omega
  rw[show b.toNat*P=b.toNat%128*P by rw[Nat.mod_eq_of_lt (by omega)],<- hy]at hE;have g6:b.toNat=0->¬0<i:=fun z w=>g0 ⟨z,w⟩;refine EP (kX5 @g0 @g2 @g3 @g4 @g6) @k10 ?_;refine ar ?_;simp[Ls,<- hE]
 have c1:¬(i:Int)<m:=by omega
 have hu:N7 s=none:=by
  rw[<- hE];by_cases h10:i<s.length
  ·obtain⟨b,hb,hd⟩:=Ff h10;rw[hd,Do,nH]
  rw[List.drop_eq_nil_of_le (by omega)];simp[Ji]
 refine BU (kX2 @him @c1) ?_;refine ar ?_;simp[Ls,hu]
theorem Qh:∀(s:Str)(i x y n:Nat),Ji i x s=some (y,n)->i<n/\n<=i+s.length
 | [],i,x,y,n,h=>by simp[Ji]at h
 | b::r,i,x,y,n,h=>by
  rw[Do]at h;split at h
  ·cases h
  split at h
  ·cases h
  split at h
  ·have:=Qh r _ _ _ _ h;simp only[iO];omega
  split at h
  ·cases h
  simp only[gQ,Prod.mk.injEq]at h;simp only[iO];omega
theorem Qg:∀(s:Str)(i x y n:Nat),x<2^(7*i)->Ji i x s=some (y,n)->y<18446744073709551616
 | [],i,x,y,n,_,h=>by simp[Ji]at h
 | b::r,i,x,y,n,hx,h=>by
  rw[Do]at h;split at h
  ·cases h
  rename_i hi;split at h
  ·cases h
  rename_i h9;obtain⟨P,hP⟩:∃P,P=2^(7*i):=⟨_,rfl⟩;have hPn:P*128=2^(7*(i+1)):=by rw[hP,show 7*(i+1)=7*i+7 by omega,Nat.pow_add]
  have hPm:(b.toNat%128+1)*P<=128*P:=iW _ (by omega);rw[Nat.succ_mul]at hPm;rw[<- hP]at hx h;split at h
  ·exact Qg r _ _ _ _ (by omega) h
  rename_i hb;split at h
  ·cases h
  simp only[gQ,Prod.mk.injEq]at h;have e:b.toNat%128=b.toNat:=Nat.mod_eq_of_lt (by omega);rw[e]at hPm;by_cases hi9:i=9
  ·subst hi9;have hP':P=9223372036854775808:=by rw[hP]
   have:b.toNat*P<=1*P:=iW _ (by omega);omega
  have h1:P<=2^56:=by rw[hP];exact Nat.pow_le_pow_right (by decide) (by omega)
  have h2:(2:Nat)^56=72057594037927936:=by decide
  omega
theorem Qf{s:Str}{y n:Nat}(h:N7 s=some (y,n)):0<n/\n<=s.length/\y<18446744073709551616:=by
 have h1:=Qh _ _ _ _ _ h;exact⟨h1.1,by omega,Qg _ _ _ _ _ (by simp) h⟩
abbrev Lz(s:Str)(bad:Bool):Ob:=⟨309,2,true,false,[[.str s,.bool bad]]⟩
def Fo(s:Str)(bad:Bool):Nat×Str×Bool:=if bad=true then(0,s,true)else match N7 s with
 | some (x,n)=>(x,s.drop n,false)
 | none=>(0,s,true)
theorem K5{nx:Nat}{ob:List (Nat×Option Ob)}(id:Nat)(s:Str)(bad:Bool)(hs:s.length<=1000000)(hob:lookO ob id=some (Lz s bad))(hn:id<nx):
  Bt prog 189 [.ptr id 2 0 0] nx ob fun v nx' ob'=>v=lv ((Fo s bad).1:Int)/\lookO ob' id=some (Lz (Fo s bad).2.1 (Fo s bad).2.2)/\nx<=nx'/\∀q,q<nx->q≠id->lookO ob' q=lookO ob q:=by
 have hu:=PC s hs;cases hv:N7 s with
 | none =>
  rw[hv]at hu;simp only[Ls]at hu;refine sIY func189 ntmps189 @hob ?_;refine cZ (hu) @hob @hob ?_;refine IZ @hob ?_;intros;apply wr;refine ar ?_;simp[Fo,hv,lookO];exact fun q h1 h2 h3=>absurd h3 h2
 | some p =>
  obtain⟨x,n⟩:=p;obtain⟨n0,n1,x1⟩:=Qf hv;rw[hv]at hu;simp only[Ls]at hu;cases bad with
  | true =>
   refine sIY func189 ntmps189 @hob ?_;refine cZ (hu) @hob @hob ?_;refine IZ @hob ?_;intros;apply wr;refine ar ?_;simp[Fo,hv,lookO];exact fun q h1 h2 h3=>absurd h3 h2
  | false =>
   have c1:(n:Int)<=s.length:=by omega
   refine sIY func189 ntmps189 @hob ?_;refine cZ (hu) @hob (kX2 @hob @c1) ?_;refine EG (kX2 @hob @c1) ?_;intros;apply wr;refine ar ?_;simp[Fo,hv,lookO];exact fun q h1 h2 h3=>absurd h3 h2
theorem H5(s:Str)(bad:Bool):(Fo s bad).2.1.length<=s.length/\(Fo s bad).1<18446744073709551616:=by
 unfold Fo;split
 ·exact⟨g8 _,by simp⟩
 split
 ·rename_i x n h;have:=Qf h;simp;omega
 exact⟨g8 _,by simp⟩
def eI(s:Str)(bad:Bool):Nat×Str×Bool:=if 4294967295<(Fo s bad).1 then(0,(Fo s bad).2.1,true)else Fo s bad
def NP(s:Str)(bad:Bool):Str×Str×Bool:=if(Fo s bad).2.2=true\/(Fo s bad).2.1.length<(Fo s bad).1 then([],(Fo s bad).2.1,true)else((Fo s bad).2.1.take (Fo s bad).1,(Fo s bad).2.1.drop (Fo s bad).1,false)
theorem YN{nx:Nat}{ob:List (Nat×Option Ob)}(id:Nat)(s:Str)(bad:Bool)(hs:s.length<=1000000)(hob:lookO ob id=some (Lz s bad))(hn:id<nx):
  Bt prog 315 [.ptr id 2 0 0] nx ob fun v nx' ob'=>v=.int .u32 ((eI s bad).1:Int)/\lookO ob' id=some (Lz (eI s bad).2.1 (eI s bad).2.2)/\nx<=nx'/\∀q,q<nx->q≠id->lookO ob' q=lookO ob q:=by
 obtain⟨l1,l2⟩:=H5 s bad;have hc:=K5 id s bad hs hob hn;obtain⟨x,r,b,hN⟩:∃x r b,Fo s bad=(x,r,b):=⟨_,_,_,rfl⟩;have hD:eI s bad=if 4294967295<x then(0,r,true)else(x,r,b):=by unfold eI;rw[hN]
 rw[hN]at hc l1 l2;simp only at hc l1 l2;refine sIY func315 ntmps315 @hob ?_;intros;apply wr;refine cO ?_;refine(hc).mono fun r nx' ob' hp=>?_;simp only[BX];obtain⟨rfl,h1,h2,h3⟩:=hp;simp;refine au1 @h1 ?_;intros;apply wr;by_cases hx:4294967295<x
 ·have g1:(4294967295:Int)<x:=by omega
  refine DI (kX2 @g1 @hx) @h1 ?_;intros;apply wr;refine ar ?_;simp[hD,hx,lookO];exact⟨h2,fun q z1 z2=>by rw[if_neg z2];exact h3 q z1 z2⟩
 have g1:¬(4294967295:Int)<x:=by omega
 have w1:IntKind.u32.wrap (x:Int)=x:=by rw[IntKind.wrap_u32];omega
 refine EP (kX2 @g1 @hx) (kX2 @h1 @w1) ?_;intros;apply wr;refine ar ?_;simp[hD,hx,lookO,w1];exact⟨h1,h2,h3⟩
theorem QJ{nx:Nat}{ob:List (Nat×Option Ob)}(id:Nat)(s:Str)(bad:Bool)(hs:s.length<=1000000)(hob:lookO ob id=some (Lz s bad))(hn:id<nx):
  Bt prog 190 [.ptr id 2 0 0] nx ob fun v nx' ob'=>v=.str (NP s bad).1/\lookO ob' id=some (Lz (NP s bad).2.1 (NP s bad).2.2)/\nx<=nx'/\∀q,q<nx->q≠id->lookO ob' q=lookO ob q:=by
 obtain⟨l1,l2⟩:=H5 s bad;have hc:=K5 id s bad hs hob hn;obtain⟨x,r,b,hN⟩:∃x r b,Fo s bad=(x,r,b):=⟨_,_,_,rfl⟩;have hD:NP s bad=if b=true\/r.length<x then([],r,true)else(r.take x,r.drop x,false):=by unfold NP;rw[hN]
 rw[hN]at hc l1 l2;simp only at hc l1 l2;have w1:IntKind.u64.wrap (r.length:Int)=r.length:=by rw[IntKind.wrap_u64];omega
 refine sIY func190 ntmps190 @hob ?_;intros;apply wr;refine cO ?_;refine(hc).mono fun r nx' ob' hp=>?_;simp only[BX];obtain⟨rfl,h1,h2,h3⟩:=hp;simp;refine au1 (kX2 @h1 @w1) ?_;intros;apply wr;cases b with
 | true =>
  refine IZ @h1 ?_;intros;apply wr;refine ar ?_;simp[hD,lookO];exact⟨h2,fun q z1 z2=>by rw[if_neg z2];exact h3 q z1 z2⟩
 | false =>
  by_cases hx:r.length<x
  ·have g1:(r.length:Int)<x:=by omega
   refine DI (kX2 @g1 @hx) @h1 ?_;intros;apply wr;refine ar ?_;simp[hD,hx,lookO];exact⟨h2,fun q z1 z2=>by rw[if_neg z2];exact h3 q z1 z2⟩
  have g1:¬(r.length:Int)<x:=by omega
  have g2:(x:Int)<=r.length:=by omega
  have g3:(0:Int)<=x:=by omega
  refine EP (kX2 @g1 @hx) (kX4 @h1 @g1 @g2 @g3) ?_;intros;apply wr;refine ar ?_;simp[hD,hx,lookO];exact⟨h2,fun q z1 z2=>by rw[if_neg z2];exact h3 q z1 z2⟩
def hshS(h:Int)(b:UInt8):Int:=IntKind.u64.wrap (Vp .u64 h (IntKind.u64.wrap (b.toNat:Int))*1099511628211)
def LK(h:Int)(s:Str):Int:=s.foldl hshS h
theorem Wo(h:Int)(s:Str)(i:Nat)(hi:i<s.length):LK h (s.take (i+1))=hshS (LK h (s.take i)) s[i]:=by
 unfold LK;rw[List.take_succ_eq_append_getElem hi,List.foldl_append];rfl
theorem hsh_ok(h:Int)(s:Str)(hl:s.length<=1000000):AC prog 188 [lv h,.str s] (lv (LK h s)):=by
 refine sX func188 ntmps188 ?_;intros;apply wr;obtain⟨I,hI⟩:∃I:Nat->St->Prop,I=(fun kk ss=>∃(i:Nat)(g:Int),i<=s.length/\kk=s.length-i/\(g=LK h (s.take i))/\ss=⟨20,[(8,.int .i64 i),(7,.int .i64 s.length),(1,.str s),(0,.int .u64 g)],0,[],0⟩):=⟨_,rfl⟩;refine lX I (id) (by rw[hI];exact⟨0,h,by simp,rfl,rfl,rfl⟩) ?_;intro kk ss hIk _;rw[hI]at hIk;obtain⟨i,g,hi,rfl,hx,rfl⟩:=hIk;refine au ?_;intros;apply wr;refine AB rfl (fun hh=>?_) (fun hh=>?_)
 ·simp at hh;obtain⟨c,hc⟩:∃c,c=s[i]:=⟨_,rfl⟩;have hget:s[i]? =some c:=by rw[hc];exact gR hh
  have ht:=Wo h s i hh;rw[<- hc]at ht;refine au1 @hget ?_;intros;apply wr;exact aX (id) (by rw[hI];exact⟨i+1,(LK h (s.take (i+1))),by omega,rfl,rfl,rfl⟩) (kX4 (AA (n:=(i:Int)+1)) @ht @hx @hshS.eq_1)
 simp at hh;have hii:s.take i=s:=iZ (by omega);refine au ?_;refine ar ?_;simp[hx,hii]
def Qb(h:Int):Str:=[56,48,40,32,24,16,8,0].map fun k:Nat=>UInt8.ofNat (IntKind.u8.wrap (h.fdiv (2^k))).toNat
theorem Nk(n:Int):0<=IntKind.u8.wrap n:=by rw[IntKind.wrap_u8];omega
theorem Nj(n:Int):IntKind.u8.wrap n<256:=by rw[IntKind.wrap_u8];omega
theorem kI64{n:Int}(h1:-9223372036854775808<=n:=by omega)(h2:n<=9223372036854775807:=by omega):IntKind.i64.wrap n=n:=AA h1 h2
theorem Iq(n:Int):Ch [.int .u8 n]↔(0<=n/\n<256):=by
 constructor
 ·rintro⟨b,hb⟩;simp at hb;have:=b.toNat_lt;omega
 intro h;exact⟨UInt8.ofNat n.toNat,by simp;omega⟩
theorem bt64:IntKind.u64.bits=64:=rfl
abbrev Pd:Int:=14695981039346656037
theorem VV(s:Str)(hl:s.length<=1000000):AC prog 129 [.str s] (.str (Qb (LK Pd s))):=by
 obtain⟨z,hz⟩:∃z,z=LK Pd s:=⟨_,rfl⟩;have hh:=hsh_ok Pd s hl;rw[<- hz]at hh ⊢;refine sX func129 ntmps129 ?_;refine cX (hh) ?_;(repeat intro K hK);apply wr
 (refine au1 (kX7 @Nk @Nj @Qb.eq_1 @maxLen.eq_1 @bt64 @kI64 @Iq) ?_;(repeat intro K hK);apply wr)
 repeat' ((first|(refine AB rfl (fun h=>?_) (fun h=>?_)<;>(first|(simp[Nk,Nj,Qb,maxLen,bt64,kI64,Iq]at h;done)|(simp[Nk,Nj,Qb,maxLen,bt64,kI64,Iq]at h)|skip)<;>(first|(exfalso;omega)|skip))|refine Aa 9 ?_|refine BD fun K hK=>?_|exact rt1 (kX7 @Nk @Nj @Qb.eq_1 @maxLen.eq_1 @bt64 @kI64 @Iq)|fail)<;>(refine au1 (kX7 @Nk @Nj @Qb.eq_1 @maxLen.eq_1 @bt64 @kI64 @Iq) ?_;(repeat intro K hK);apply wr))
theorem HC(h:Int):(Qb h).length=8:=by simp[Qb]
def slB(n:Int)(b:Str):Str:=BG n++(BG b.length++b)
def slD(n:Int)(b:Str):Str:=slB n b++Qb (LK Pd (slB n b))
theorem VP(n:Int)(b:Str)(hn:L64 n)(hb:b.length<=500000):AC prog 74 [lv n,.str b] (.str (slD n b)):=by
 have hw:IntKind.u64.wrap (b.length:Int)=(b.length:Int):=by rw[IntKind.wrap_u64];omega
 have l1:=Ae n;have l2:=Ae b.length;have hs:=VV (slB n b) (by simp[slB];omega);have hl:=HC (LK Pd (slB n b));have hp2:AC prog 76 [lv (IntKind.u64.wrap (b.length:Int))] (.str (BG b.length)):=by rw[hw];exact FV _ ⟨by omega,by omega⟩
 have hsl:BG n++(BG b.length++b)=slB n b:=rfl;refine sX func74 ntmps74 ?_;refine cX (FV n hn) ?_;refine cY (hp2) @hsl ?_;refine cX (hs) ?_;refine ar ?_;simp[slD]
def L0(s:Str)(q:Nat)(body r:Str)(bad:Bool):Nat×Str×Int:=if bad=true\/r.length≠8 then(0,[],1900)else if Qb (LK Pd (s.take (s.length-8)))=r then(q,body,0)else(0,[],1903)
def JZ(s:Str):Nat×Str×Int:=L0 s (Fo s false).1 (NP (Fo s false).2.1 (Fo s false).2.2).1 (NP (Fo s false).2.1 (Fo s false).2.2).2.1 (NP (Fo s false).2.1 (Fo s false).2.2).2.2
def NE(p:Nat×Str×Int):V:=.tup [lv p.1,.str p.2.1,iv p.2.2]
theorem dR(s:Str)(bad:Bool):(NP s bad).2.1.length<=s.length:=by
 have:=(H5 s bad).1;unfold NP;split
 ·exact this
 simp only[iE];omega
theorem O4(s:Str)(hs:s.length<=1000000):AC prog 133 [.str s] (NE (JZ s)):=by
 have hc1:=fun nx ob=>@K5 nx ob 0 s false hs;obtain⟨q,r1,b1,hN⟩:∃q r b,Fo s false=(q,r,b):=⟨_,_,_,rfl⟩;have l1:=(H5 s false).1;have l2:=dR r1 b1;have hD:JZ s=L0 s q (NP r1 b1).1 (NP r1 b1).2.1 (NP r1 b1).2.2:=by unfold JZ;rw[hN]
 rw[hN]at hc1 l1;simp only at hc1 l1;have hc2:=fun nx ob=>@QJ nx ob 0 r1 b1 (by omega);obtain⟨body,r2,b2,hT⟩:∃q r b,NP r1 b1=(q,r,b):=⟨_,_,_,rfl⟩;rw[hT]at hc2 hD l2;simp only at hc2 hD l2;have hsm:=VV (s.take (s.length-8)) (by rw[iD];omega);refine sX func133 ntmps133 ?_;refine au ?_;intros;apply wr;refine cO ?_;refine(hc1 _ _ (by simp[lookO]) (by omega)).mono fun r nx' ob' hp=>?_;simp only[BX];obtain⟨rfl,h1,h2,h3⟩:=hp;simp;refine au1 @h1 ?_;intros;apply wr;refine cO ?_;refine(hc2 _ _ h1 (by omega)).mono fun r nx' ob' hp=>?_;simp only[BX];obtain⟨rfl,h4,h5,h6⟩:=hp;simp;refine au1 @h4 ?_;intros;apply wr;cases b2 with
 | true =>
  refine CV ?_;refine ar ?_;simp[hD,L0,NE]
 | false =>
  by_cases hl:r2.length=8
  ·have g1:(r2.length:Int)=8:=by omega
   have g2:((r2.length:Int) != 8)=false:=by rw[g1];rfl
   have g3:IntKind.i64.wrap ((s.length:Int)-8)=(s.length:Int)-8:=AA;have g4:(0:Int)<=(s.length:Int)-8:=by omega
   have g5:(s.length:Int)-8<=s.length:=by omega
   have g6:((s.length:Int)-8).toNat=s.length-8:=by omega
   refine BU (kX3 @g1 @g2 @hl) ?_;intros;apply wr;refine AD 11 [0,0,2,6,15,31,0,64,192,448,1023] [(10,([[],[],[1],[1,2],[0,1,2,3],[0,1,2,3,4],[],[6],[6,7],[6,7,8]],[(9,5)])),(1,([],[]))] ?_;refine af1 (kX5 @h4 @g3 @g4 @g5 @g6) ?_;intros;apply wr;all_goals ((first|refine .inl ⟨0,_,hsm,?_⟩|refine .inl ⟨0,_,AC.wk (hsm) (by simp),?_⟩|refine⟨0,_,hsm,?_⟩|refine⟨0,_,AC.wk (hsm) (by simp),?_⟩);(simp[C0,Cd]))
   all_goals ((refine af1 @h4 ?_);intros;(apply wr))
   by_cases hq:Qb (LK Pd (s.take (s.length-8)))=r2
   ·have z1:(Qb (LK Pd (s.take (s.length-8))) != r2)=false:=by rw[hq];simp
    refine Ac (kX2 @z1 @hq) ?_;refine ar ?_;simp[hD,L0,NE,hl,hq]
   have z1:(Qb (LK Pd (s.take (s.length-8))) != r2)=true:=by simpa using hq
   refine Ei (kX2 @z1 @hq) ?_;refine ar ?_;simp[hD,L0,NE,hl,hq]
  have g1:¬(r2.length:Int)=8:=by omega
  have g2:((r2.length:Int) != 8)=true:=by simp;omega
  refine Ei (kX3 @g1 @g2 @hl) ?_;refine ar ?_;simp[hD,L0,NE,hl]
theorem N8:∀(k n i x:Nat)(r:Str),i+k=10->n<2^(64-7*i)->(0<i->0<n)->Ji i x (No k n++r)=some (x+n*2^(7*i),i+(No k n).length)
 | 0,n,i,x,r,hi,hn,hp=>by
  obtain rfl:i=10:=by omega
  have:=hp (by decide);simp at hn;omega
 | k+1,n,i,x,r,hi,hn,hp=>by
  have h9:i=9->n<2:=by rintro rfl;simpa using hn
  by_cases hs:n<128
  ·rw[Kb hs,iT,jA,Do,HF (by omega),nG,nG,nG,if_neg]
   ·rfl
   rintro⟨h1,h2⟩;have h3:(UInt8.ofNat n).toNat=0:=by rw[h1];rfl
   rw[HF (by omega)]at h3;have:=hp h2;omega
  have hst:No (k+1) n=UInt8.ofNat (n%128+128)::No k (n/128):=by rw[No,if_neg hs]
  have hi8:i<=8:=by
   have:=h9;omega
  have hn2:n/128<2^(64-7*(i+1)):=by
   rw[Nat.div_lt_iff_lt_mul (by decide),show(128:Nat)=2^7 from rfl,<- Nat.pow_add,show 64-7*(i+1)+7=64-7*i by omega];exact hn
  rw[hst,iT,Do,HF (by omega),nG,nG,nH,N8 k (n/128) (i+1) _ r (by omega) hn2 (fun _=>by omega)];have e:(n%128+128)%128=n%128:=by omega
  have hP:2^(7*(i+1))=128*2^(7*i):=by rw[show 7*(i+1)=7*i+7 by omega,Nat.pow_add,Nat.mul_comm]
  rw[e,hP];generalize 2^(7*i)=P;have hd:n%128*P+n/128*(128*P)=n*P:=by
   rw[<- Nat.mul_assoc,<- Nat.add_mul];congr 1;omega
  simp only[iO,gQ,Prod.mk.injEq];omega
theorem Jh(n:Int)(h:L64 n)(r:Str):N7 (BG n++r)=some (n.toNat,(BG n).length):=by
 have h1:=h.1;have h2:=h.2;unfold N7 BG;rw[N8 10 n.toNat 0 0 r rfl (by simp;omega) (fun z=>by omega)];simp
theorem I4(n:Int)(h:L64 n)(r:Str):Fo (BG n++r) false=(n.toNat,r,false):=by
 unfold Fo;rw[if_neg (by decide),Jh n h r];simp
theorem QK(b r:Str)(hb:b.length<=1000000):NP (BG b.length++(b++r)) false=(b,r,false):=by
 have hn:=I4 b.length ⟨by omega,by omega⟩ (b++r);unfold NP;rw[hn];simp
theorem I6(n:Int)(h:L64 n)(b:Str)(hb:b.length<=500000):JZ (slD n b)=(n.toNat,b,0):=by
 have e:slD n b=BG n++(BG b.length++(b++Qb (LK Pd (slB n b)))):=by simp[slD,slB]
 have hl:=HC (LK Pd (slB n b));have et:(slD n b).take ((slD n b).length-8)=slB n b:=by
  unfold slD;rw[gV,hl,Nat.add_sub_cancel,List.take_left'];rfl
 unfold JZ L0;rw[et];rw[e,I4 n h];simp only;rw[QK b _ (by omega)];simp[hl]
def O3(p:Str)(mark:UInt8):Nat×Str×Bool:=if(JZ p).2.2=0 then(match(JZ p).2.1 with
 | []=>(0,[],false)
 | c::t=>if c=mark then((JZ p).1,t,true)else(0,[],false))else(0,[],false)
def Ht(x:Nat×Str×Bool):V:=.tup [lv x.1,.str x.2.1,.bool x.2.2]
theorem UL(s:Str):(JZ s).2.1.length<=s.length:=by
 have h:∀(q:Nat)(b r:Str)(bad:Bool),(L0 s q b r bad).2.1.length<=b.length:=by
  intro q b r bad;unfold L0;split
  ·simp
  split<;>simp
 refine iY (h _ _ _ _) ?_;have h1:=(H5 s false).1;unfold NP;have h2:=(H5 (Fo s false).2.1 (Fo s false).2.2).1;split
 ·simp
 simp only[iD];omega
theorem Pt(p:Str)(mark:UInt8)(hs:p.length<=1000000):AC prog 130 [.str p,.int .u8 (mark.toNat:Int)] (Ht (O3 p mark)):=by
 have ho:=O4 p hs;have hl:=UL p;obtain⟨q,body,e,hO⟩:∃q b e,JZ p=(q,b,e):=⟨_,_,_,rfl⟩;have hD:O3 p mark=if e=0 then(match body with
  | []=>(0,[],false)
  | c::t=>if c=mark then(q,t,true)else(0,[],false))else(0,[],false):=by unfold O3;rw[hO]
 rw[hO]at ho hl;simp only[NE]at ho hl;by_cases he:e=0
 ·subst he;rw[if_pos rfl]at hD;cases body with
  | nil =>
   refine sX func130 ntmps130 ?_;refine cX (ho) ?_;refine CV ?_;refine ar ?_;simp[hD,Ht]
  | cons c t =>
   simp only at hD;simp only[iO]at hl;by_cases hc:c=mark
   ·have z1:((c.toNat:Int) != (mark.toNat:Int))=false:=by rw[hc];simp
    refine sX func130 ntmps130 ?_;refine cX (ho) ?_;refine BU (kX2 @z1 @hc) ?_;intros;apply wr;refine AD 6 [0,0,2,1,15,31] [(4,([[],[],[1],[0]],[])),(1,([],[])),(1,([],[]))] ?_;refine af ?_;intros;apply wr;all_goals ((refine af ?_);intros;(apply wr))
    refine ar ?_;simp[hD,Ht,hc]
   have z0:¬c.toNat=mark.toNat:=fun z=>hc (UInt8.toNat_inj.1 z);have z2:¬(c.toNat:Int)=mark.toNat:=by omega
   have z1:((c.toNat:Int) != (mark.toNat:Int))=true:=by simpa using z2
   refine sX func130 ntmps130 ?_;refine cXf (ho) ?_;refine Ei (kX4 @z1 @z0 @z2 @hc) ?_;refine ar ?_;simp[hD,Ht,hc]
 have z1:(e != 0)=true:=by simpa using he
 rw[if_neg he]at hD;refine sX func130 ntmps130 ?_;refine cXf (ho) ?_;refine Ei (kX2 @z1 @he) ?_;refine ar ?_;simp[hD,Ht]
theorem XQ(n:Int)(h:L64 n)(c:UInt8)(b:Str)(hb:b.length<=400000):O3 (slD n (c::b)) c=(n.toNat,b,true):=by
 unfold O3;rw[I6 n h (c::b) (by simp;omega)];simp
theorem V7(s:Str)(most:Int)(hs:s.length<=100000)(h1:(s.length:Int)<=most)(h2:most<=1000000):AC prog 191 [.str (GV s),iv most] (.tup [.str s,iv 0]):=by
 obtain⟨g,hg⟩:=V6 s;exact unp_ok _ _ _ g hg (by have:=FS s;omega) h1 h2
theorem YM(n:Int)(h0:0<=n)(h1:n<=4294967295)(r:Str):eI (BG n++r) false=(n.toNat,r,false):=by
 unfold eI;rw[I4 n ⟨h0,by omega⟩ r];simp only;rw[nG]
def D6(n x:Int):Str:=slD n (72::BG x)
theorem Sc(n x:Int)(hn:L64 n)(hx:L64 x):AC prog 31 [lv n,lv x] (.str (D6 n x)):=by
 have l1:=Ae x;have hp:=FV x hx;have hs:=VP n (72::BG x) hn (by simp;omega);refine sX func31 ntmps31 ?_;refine cX (hp) ?_;refine cX (hs) ?_;refine ar ?_;simp[D6]
theorem QD(n x:Int)(hn:L64 n)(hx:L64 x):AC prog 78 [.str (D6 n x)] (.tup [lv n,lv x,.bool true]):=by
 have l1:=Ae x;have hlen:(D6 n x).length<=1000000:=by
  have:=Ae n;have:=Ae ((72::BG x).length:Int);have:=HC (LK Pd (slB n (72::BG x)));unfold D6 slD;rw[gV,this];simp only[slB,gV,iO]at *;omega
 have ho:=O4 (D6 n x) hlen;have hb:JZ (D6 n x)=(n.toNat,72::BG x,0):=I6 n hn (72::BG x) (by simp;omega);rw[hb]at ho;simp only[NE]at ho;have e1:((n.toNat:Nat):Int)=n:=by have:=hn.1;omega
 have e2:((x.toNat:Nat):Int)=x:=by have:=hx.1;omega
 rw[e1]at ho;have hu:=PC (BG x) (by omega);have hv:=Jh x hx [];rw[iU]at hv;rw[hv]at hu;simp only[Ls,e2]at hu;have w1:IntKind.i64.wrap ((BG x).length:Int)=(BG x).length:=AA;generalize D6 n x=p at *;generalize BG x=t at *;refine sX func78 ntmps78 ?_;refine cX (ho) ?_;refine C3 ?_;refine cY (hu) @w1 ?_;refine BU @w1 ?_;refine ar ?_;simp
end Go.Proofs.YtjkmhmepljamoaaGreat
end
