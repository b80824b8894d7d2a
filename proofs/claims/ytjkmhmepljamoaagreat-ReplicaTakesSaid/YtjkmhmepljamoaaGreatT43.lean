/- A part of the proof of ReplicaTakes. -/
import Derived.Test.YtjkmhmepljamoaaGreatT06
import Derived.Test.YtjkmhmepljamoaaGreatT07
import Derived.Test.YtjkmhmepljamoaaGreatT18
import Derived.Test.YtjkmhmepljamoaaGreatT42
set_option linter.all false
set_option maxHeartbeats 16000000
set_option maxRecDepth 100000
section
namespace Go.Proofs.YtjkmhmepljamoaaGreat
open Go.Ab Go.RowKit Tryz
def La(o:Option (Nat×Nat)):V:=match o with
 | some (x,n)=>.tup [lv (x:Int),iv n,.bool true]
 | none=>.tup [lv 0,iv 0,.bool false]
theorem TX(x c s:Nat)(hx:x<2^s)(h:x+c*2^s<18446744073709551616):ior .u64 (x:Int) ((c*2^s:Nat):Int)=((x+c*2^s:Nat):Int):=by
 have e:x ||| c*2^s=x+c*2^s:=by rw[Nat.or_comm,<- Nat.shiftLeft_eq,<- Nat.shiftLeft_add_eq_or_of_lt hx,Nat.add_comm]
 unfold ior;rw[show IntKind.u64.bits=64 from rfl,BitVec.ofInt_natCast,BitVec.ofInt_natCast,BitVec.toNat_or,BitVec.toNat_ofNat,BitVec.toNat_ofNat,Nat.mod_eq_of_lt (by omega),Nat.mod_eq_of_lt (by omega),e,IntKind.wrap_u64];omega
theorem Z3:∀k:Fin 256,Bc .u8 (k.val:Int) 127=(k.val:Int)%128:=by decide +kernel
theorem and127(b:UInt8):Bc .u8 (b.toNat:Int) 127=(b.toNat:Int)%128:=Z3 ⟨b.toNat,b.toNat_lt⟩
theorem Di(i x:Nat)(b:UInt8)(r:Str):JZ i x (b::r)=if 10<=i then none else if i=9/\1<b.toNat then none else if 128<=b.toNat then JZ (i+1) (x+b.toNat%128*2^(7*i)) r
  else if b=0/\0<i then none else some (x+b.toNat*2^(7*i),i+1):=rfl
theorem Oh(s:Str)(hs:s.length<=1000000):AC prog 131 [.str s] (La (NN s)):=by
 obtain⟨m,hm⟩:∃m,m=min 10 s.length:=⟨_,rfl⟩;have hmi:(if(10:Int)<(s.length:Int)then 10 else(s.length:Int))=m:=by split<;>omega
 refine sX func131 ntmps131 ?_;refine au1 @hmi ?_;intros;apply wr;refine Ad (m+1) ?_;refine BH (fun c st=>∃(T:List (Nat×V))(i x:Nat),i+c=m/\st=⟨44,T,0,[],0⟩/\(lkT T 0=.str s/\lkT T 5=lv x/\lkT T 10=iv m/\lkT T 11=.int .i64 i)/\x<2^(7*i)/\JZ i x (s.drop i)=NN s) ?_ _ _ ⟨_,0,0,by omega,rfl,by simp[lkT];exact hmi,by simp,rfl⟩;rintro c st ⟨T,i,x,hic,rfl,⟨t0,t5,t10,t11⟩,hx,hE⟩ Kl hKl;refine Bp [(0,.str s),(5,lv x),(10,iv m),(11,.int .i64 i)] (by simp[t0,t5,t10,t11]) ?_;refine au ?_;intros;apply wr;by_cases him:i<m
 ·have c1:(i:Int)<m:=by omega
  obtain⟨c',rfl⟩:∃c',c=c'+1:=⟨c-1,by omega⟩;obtain⟨b,hb,hd⟩:=F6 (t:=s) (i:=i) (by omega);rw[hd,Di,if_neg (by omega)]at hE;have hb8:=b.toNat_lt;have c2:(i:Int)<s.length:=by omega
  refine DT (kX2 @him @c1) (kX3 @hb @c1 @c2) ?_;intros;apply wr;by_cases h9:i=9/\1<b.toNat
  ·rw[if_pos h9]at hE;have k1:(i:Int)=9:=by omega
   have k2:(1:Int)<b.toNat:=by omega
   have k3:((i:Int)==9)=true:=by rw[k1];rfl
   have k4:1<b.toNat:=h9.2;refine EM (kX4 @k1 @k2 @k3 @k4) ?_;refine ar ?_;simp[La,<- hE]
  rw[if_neg h9]at hE;have k1:((i:Int)==9&&decide ((1:Int)<b.toNat))=false:=by simp;omega
  have k2:¬((i:Int)=9/\(1:Int)<b.toNat):=by omega
  have k3:i=9->b.toNat<=1:=by omega
  have k4:IntKind.i64.wrap (7*(i:Int))=7*(i:Int):=AA (by omega) (by omega);have k5:IntKind.u64.wrap ((b.toNat:Int)%128)=(b.toNat:Int)%128:=by rw[IntKind.wrap_u64];omega
  have k6:IntKind.u64.wrap (7*(i:Int))=7*(i:Int):=by rw[IntKind.wrap_u64];omega
  have k7:(7*(i:Int)).toNat=7*i:=by omega
  have k8:(0:Int)<=7*(i:Int):=by omega
  obtain⟨P,hP⟩:∃P,P=2^(7*i):=⟨_,rfl⟩;have hP64:(b.toNat%128+1)*P<=18446744073709551616:=by
   by_cases hi9:i=9
   ·subst hi9;rw[show P=9223372036854775808 by rw[hP]];omega
   have h1:P<=2^56:=by rw[hP];exact Nat.pow_le_pow_right (by decide) (by omega)
   exact f8 (Nat.mul_le_mul (show b.toNat%128+1<=128 by omega) h1) (by decide)
  rw[Nat.succ_mul]at hP64;have hPn:P*128=2^(7*(i+1)):=by rw[hP,show 7*(i+1)=7*i+7 by omega,Nat.pow_add]
  have hPm:(b.toNat%128+1)*P<=128*P:=fY _ (by omega);rw[Nat.succ_mul]at hPm;rw[<- hP]at hx hE;obtain⟨y,hy⟩:∃y,y=x+b.toNat%128*P:=⟨_,rfl⟩;have k9:ior .u64 (x:Int) (IntKind.u64.wrap ((b.toNat:Int)%128*2^min (7*i) IntKind.u64.bits))=(y:Int):=by
   rw[eY (show 7*i<=IntKind.u64.bits by simp[IntKind.bits];omega)];have e:(b.toNat:Int)%128*2^(7*i)=((b.toNat%128*P:Nat):Int):=by rw[hP];simp
   rw[e,show IntKind.u64.wrap ((b.toNat%128*P:Nat):Int)=((b.toNat%128*P:Nat):Int) by rw[IntKind.wrap_u64];omega,hy,hP];exact TX _ _ _ (by rw[<- hP];exact hx) (by rw[<- hP];omega)
  have k10:IntKind.i64.wrap ((i:Int)+1)=(i:Int)+1:=AA (by omega) (by omega);refine EL (kX3 @k1 @k2 @k3) (kX7 @and127 @k4 @k5 @k6 @k7 @k8 @k9) ?_;intros;apply wr;by_cases hb1:128<=b.toNat
  ·have g1:(128:Int)<=b.toNat:=by omega
   rw[if_pos hb1,<- hy]at hE;refine DT (kX2 @g1 @hb1) @k10 ?_;intros;apply wr;exact hKl c' _ rfl ⟨_,i+1,y,by omega,rfl,by simp[lkT],by omega,hE⟩
  have g1:¬(128:Int)<=b.toNat:=by omega
  rw[if_neg hb1]at hE;refine B1 (kX2 @g1 @hb1) ?_;intros;apply wr;by_cases h0:b=0/\0<i
  ·rw[if_pos h0]at hE;have g2:(b.toNat:Int)=0:=by rw[h0.1];rfl
   have g3:(0:Int)<i:=by omega
   have g4:0<i:=h0.2;have g5:b.toNat=0:=by omega
   refine EM (kX4 @g2 @g3 @g4 @g5) ?_;refine ar ?_;simp[La,<- hE]
  rw[if_neg h0]at hE;have g0:¬(b.toNat=0/\0<i):=fun z=>h0 ⟨UInt8.toNat_inj.1 (by simpa using z.1),z.2⟩;have g2:((b.toNat:Int)==0&&decide ((0:Int)<i))=false:=by simp;omega
  have g3:¬((b.toNat:Int)=0/\(0:Int)<i):=by omega
  have g4:b.toNat=0->i=0:=by omega
  rw[show b.toNat*P=b.toNat%128*P by rw[Nat.mod_eq_of_lt (by omega)],<- hy]at hE;have g6:b.toNat=0->¬0<i:=fun z w=>g0 ⟨z,w⟩;refine EL (kX5 @g0 @g2 @g3 @g4 @g6) @k10 ?_;refine ar ?_;simp[La,<- hE]
 have c1:¬(i:Int)<m:=by omega
 have hu:NN s=none:=by
  rw[<- hE];by_cases h10:i<s.length
  ·obtain⟨b,hb,hd⟩:=F6 h10;rw[hd,Di,if_pos (by omega)]
  rw[List.drop_eq_nil_of_le (by omega)];simp[JZ]
 refine B1 (kX2 @him @c1) ?_;refine ar ?_;simp[La,hu]
theorem QZ:∀(s:Str)(i x y n:Nat),JZ i x s=some (y,n)->i<n/\n<=i+s.length
 | [],i,x,y,n,h=>by simp[JZ]at h
 | b::r,i,x,y,n,h=>by
  rw[Di]at h;split at h
  ·cases h
  split at h
  ·cases h
  split at h
  ·have:=QZ r _ _ _ _ h;simp only[fR];omega
  split at h
  ·cases h
  simp only[eQ,Prod.mk.injEq]at h;simp only[fR];omega
theorem QY:∀(s:Str)(i x y n:Nat),x<2^(7*i)->JZ i x s=some (y,n)->y<18446744073709551616
 | [],i,x,y,n,_,h=>by simp[JZ]at h
 | b::r,i,x,y,n,hx,h=>by
  rw[Di]at h;split at h
  ·cases h
  rename_i hi;split at h
  ·cases h
  rename_i h9;obtain⟨P,hP⟩:∃P,P=2^(7*i):=⟨_,rfl⟩;have hPn:P*128=2^(7*(i+1)):=by rw[hP,show 7*(i+1)=7*i+7 by omega,Nat.pow_add]
  have hPm:(b.toNat%128+1)*P<=128*P:=fY _ (by omega);rw[Nat.succ_mul]at hPm;rw[<- hP]at hx h;split at h
  ·exact QY r _ _ _ _ (by omega) h
  rename_i hb;split at h
  ·cases h
  simp only[eQ,Prod.mk.injEq]at h;have e:b.toNat%128=b.toNat:=Nat.mod_eq_of_lt (by omega);rw[e]at hPm;by_cases hi9:i=9
  ·subst hi9;have hP':P=9223372036854775808:=by rw[hP]
   have:b.toNat*P<=1*P:=fY _ (by omega);omega
  have h1:P<=2^56:=by rw[hP];exact Nat.pow_le_pow_right (by decide) (by omega)
  have h2:(2:Nat)^56=72057594037927936:=by decide
  omega
theorem QX{s:Str}{y n:Nat}(h:NN s=some (y,n)):0<n/\n<=s.length/\y<18446744073709551616:=by
 have h1:=QZ _ _ _ _ _ h;exact⟨h1.1,by omega,QY _ _ _ _ _ (by simp) h⟩
abbrev Li(s:Str)(bad:Bool):Ob:=⟨309,2,true,false,[[.str s,.bool bad]]⟩
def Fc(s:Str)(bad:Bool):Nat×Str×Bool:=if bad=true then(0,s,true)else match NN s with
 | some (x,n)=>(x,s.drop n,false)
 | none=>(0,s,true)
theorem KJ{nx:Nat}{ob:List (Nat×Option Ob)}(id:Nat)(s:Str)(bad:Bool)(hs:s.length<=1000000)(hob:lookO ob id=some (Li s bad))(hn:id<nx):
  Bt prog 189 [.ptr id 2 0 0] nx ob fun v nx' ob'=>v=lv ((Fc s bad).1:Int)/\lookO ob' id=some (Li (Fc s bad).2.1 (Fc s bad).2.2)/\nx<=nx'/\∀q,q<nx->q≠id->lookO ob' q=lookO ob q:=by
 have hu:=Oh s hs;cases hv:NN s with
 | none =>
  rw[hv]at hu;simp only[La]at hu;refine sIY func189 ntmps189 @hob ?_;refine cZ (hu) @hob @hob ?_;refine II @hob ?_;intros;apply wr;refine ar ?_;simp[Fc,hv,lookO];exact fun q h1 h2 h3=>absurd h3 h2
 | some p =>
  obtain⟨x,n⟩:=p;obtain⟨n0,n1,x1⟩:=QX hv;rw[hv]at hu;simp only[La]at hu;cases bad with
  | true =>
   refine sIY func189 ntmps189 @hob ?_;refine cZ (hu) @hob @hob ?_;refine II @hob ?_;intros;apply wr;refine ar ?_;simp[Fc,hv,lookO];exact fun q h1 h2 h3=>absurd h3 h2
  | false =>
   have c1:(n:Int)<=s.length:=by omega
   refine sIY func189 ntmps189 @hob ?_;refine cZ (hu) @hob (kX2 @hob @c1) ?_;refine EE (kX2 @hob @c1) ?_;intros;apply wr;refine ar ?_;simp[Fc,hv,lookO];exact fun q h1 h2 h3=>absurd h3 h2
theorem HM(s:Str)(bad:Bool):(Fc s bad).2.1.length<=s.length/\(Fc s bad).1<18446744073709551616:=by
 unfold Fc;split
 ·exact⟨fA _,by simp⟩
 split
 ·rename_i x n h;have:=QX h;simp;omega
 exact⟨fA _,by simp⟩
def cT(s:Str)(bad:Bool):Nat×Str×Bool:=if 4294967295<(Fc s bad).1 then(0,(Fc s bad).2.1,true)else Fc s bad
def Mw(s:Str)(bad:Bool):Str×Str×Bool:=if(Fc s bad).2.2=true\/(Fc s bad).2.1.length<(Fc s bad).1 then([],(Fc s bad).2.1,true)else((Fc s bad).2.1.take (Fc s bad).1,(Fc s bad).2.1.drop (Fc s bad).1,false)
theorem Xo{nx:Nat}{ob:List (Nat×Option Ob)}(id:Nat)(s:Str)(bad:Bool)(hs:s.length<=1000000)(hob:lookO ob id=some (Li s bad))(hn:id<nx):
  Bt prog 315 [.ptr id 2 0 0] nx ob fun v nx' ob'=>v=.int .u32 ((cT s bad).1:Int)/\lookO ob' id=some (Li (cT s bad).2.1 (cT s bad).2.2)/\nx<=nx'/\∀q,q<nx->q≠id->lookO ob' q=lookO ob q:=by
 obtain⟨l1,l2⟩:=HM s bad;have hc:=KJ id s bad hs hob hn;obtain⟨x,r,b,hN⟩:∃x r b,Fc s bad=(x,r,b):=⟨_,_,_,rfl⟩;have hD:cT s bad=if 4294967295<x then(0,r,true)else(x,r,b):=by unfold cT;rw[hN]
 rw[hN]at hc l1 l2;simp only at hc l1 l2;refine sIY func315 ntmps315 @hob ?_;intros;apply wr;refine cO ?_;refine(hc).mono fun r nx' ob' hp=>?_;simp only[BS];obtain⟨rfl,h1,h2,h3⟩:=hp;simp;refine au1 @h1 ?_;intros;apply wr;by_cases hx:4294967295<x
 ·have g1:(4294967295:Int)<x:=by omega
  refine DT (kX2 @g1 @hx) @h1 ?_;intros;apply wr;refine ar ?_;simp[hD,hx,lookO];exact⟨h2,fun q z1 z2=>by rw[if_neg z2];exact h3 q z1 z2⟩
 have g1:¬(4294967295:Int)<x:=by omega
 have w1:IntKind.u32.wrap (x:Int)=x:=by rw[IntKind.wrap_u32];omega
 refine EL (kX2 @g1 @hx) (kX2 @h1 @w1) ?_;intros;apply wr;refine ar ?_;simp[hD,hx,lookO,w1];exact⟨h1,h2,h3⟩
theorem Pp{nx:Nat}{ob:List (Nat×Option Ob)}(id:Nat)(s:Str)(bad:Bool)(hs:s.length<=1000000)(hob:lookO ob id=some (Li s bad))(hn:id<nx):
  Bt prog 190 [.ptr id 2 0 0] nx ob fun v nx' ob'=>v=.str (Mw s bad).1/\lookO ob' id=some (Li (Mw s bad).2.1 (Mw s bad).2.2)/\nx<=nx'/\∀q,q<nx->q≠id->lookO ob' q=lookO ob q:=by
 obtain⟨l1,l2⟩:=HM s bad;have hc:=KJ id s bad hs hob hn;obtain⟨x,r,b,hN⟩:∃x r b,Fc s bad=(x,r,b):=⟨_,_,_,rfl⟩;have hD:Mw s bad=if b=true\/r.length<x then([],r,true)else(r.take x,r.drop x,false):=by unfold Mw;rw[hN]
 rw[hN]at hc l1 l2;simp only at hc l1 l2;have w1:IntKind.u64.wrap (r.length:Int)=r.length:=by rw[IntKind.wrap_u64];omega
 refine sIY func190 ntmps190 @hob ?_;intros;apply wr;refine cO ?_;refine(hc).mono fun r nx' ob' hp=>?_;simp only[BS];obtain⟨rfl,h1,h2,h3⟩:=hp;simp;refine au1 (kX2 @h1 @w1) ?_;intros;apply wr;cases b with
 | true =>
  refine II @h1 ?_;intros;apply wr;refine ar ?_;simp[hD,lookO];exact⟨h2,fun q z1 z2=>by rw[if_neg z2];exact h3 q z1 z2⟩
 | false =>
  by_cases hx:r.length<x
  ·have g1:(r.length:Int)<x:=by omega
   refine DT (kX2 @g1 @hx) @h1 ?_;intros;apply wr;refine ar ?_;simp[hD,hx,lookO];exact⟨h2,fun q z1 z2=>by rw[if_neg z2];exact h3 q z1 z2⟩
  have g1:¬(r.length:Int)<x:=by omega
  have g2:(x:Int)<=r.length:=by omega
  have g3:(0:Int)<=x:=by omega
  refine EL (kX2 @g1 @hx) (kX4 @h1 @g1 @g2 @g3) ?_;intros;apply wr;refine ar ?_;simp[hD,hx,lookO];exact⟨h2,fun q z1 z2=>by rw[if_neg z2];exact h3 q z1 z2⟩
def hshS(h:Int)(b:UInt8):Int:=IntKind.u64.wrap (V0 .u64 h (IntKind.u64.wrap (b.toNat:Int))*1099511628211)
def Kr(h:Int)(s:Str):Int:=s.foldl hshS h
theorem W1(h:Int)(s:Str)(i:Nat)(hi:i<s.length):Kr h (s.take (i+1))=hshS (Kr h (s.take i)) s[i]:=by
 unfold Kr;rw[List.take_succ_eq_append_getElem hi,List.foldl_append];rfl
theorem hsh_ok(h:Int)(s:Str)(hl:s.length<=1000000):AC prog 188 [lv h,.str s] (lv (Kr h s)):=by
 refine sX func188 ntmps188 ?_;intros;apply wr;obtain⟨I,hI⟩:∃I:Nat->St->Prop,I=(fun kk ss=>∃(i:Nat)(g:Int),i<=s.length/\kk=s.length-i/\(g=Kr h (s.take i))/\ss=⟨20,[(8,.int .i64 i),(7,.int .i64 s.length),(1,.str s),(0,.int .u64 g)],0,[],0⟩):=⟨_,rfl⟩;refine lX I (id) (by rw[hI];exact⟨0,h,by simp,rfl,rfl,rfl⟩) ?_;intro kk ss hIk _;rw[hI]at hIk;obtain⟨i,g,hi,rfl,hx,rfl⟩:=hIk;refine au ?_;intros;apply wr;refine AB rfl (fun hh=>?_) (fun hh=>?_)
 ·simp at hh;obtain⟨c,hc⟩:∃c,c=s[i]:=⟨_,rfl⟩;have hget:s[i]? =some c:=by rw[hc];exact eR hh
  have ht:=W1 h s i hh;rw[<- hc]at ht;refine au1 @hget ?_;intros;apply wr;exact aX (id) (by rw[hI];exact⟨i+1,(Kr h (s.take (i+1))),by omega,rfl,rfl,rfl⟩) (kX4 (AA (n:=(i:Int)+1) (by omega) (by omega)) @ht @hx @hshS.eq_1)
 simp at hh;have hii:s.take i=s:=fZ (by omega);refine au ?_;refine ar ?_;simp[hx,hii]
def QR(h:Int):Str:=[56,48,40,32,24,16,8,0].map fun k:Nat=>UInt8.ofNat (IntKind.u8.wrap (h.fdiv (2^k))).toNat
theorem NZ(n:Int):0<=IntKind.u8.wrap n:=by rw[IntKind.wrap_u8];omega
theorem NY(n:Int):IntKind.u8.wrap n<256:=by rw[IntKind.wrap_u8];omega
theorem kI64{n:Int}(h1:-9223372036854775808<=n)(h2:n<=9223372036854775807):IntKind.i64.wrap n=n:=AA h1 h2
theorem I5(n:Int):Cf [.int .u8 n]↔(0<=n/\n<256):=by
 constructor
 ·rintro⟨b,hb⟩;simp at hb;have:=b.toNat_lt;omega
 intro h;exact⟨UInt8.ofNat n.toNat,by simp;omega⟩
theorem bt64:IntKind.u64.bits=64:=rfl
abbrev PW:Int:=14695981039346656037
theorem Uz(s:Str)(hl:s.length<=1000000):AC prog 129 [.str s] (.str (QR (Kr PW s))):=by
 obtain⟨z,hz⟩:∃z,z=Kr PW s:=⟨_,rfl⟩;have hh:=hsh_ok PW s hl;rw[<- hz]at hh ⊢;refine sX func129 ntmps129 ?_;refine cX (hh) ?_;(repeat intro K hK);apply wr
 (refine au1 (kX7 @NZ @NY @QR.eq_1 @maxLen.eq_1 @bt64 @kI64 @I5) ?_;(repeat intro K hK);apply wr)
 repeat' ((first|(refine AB rfl (fun h=>?_) (fun h=>?_)<;>(first|(simp[NZ,NY,QR,maxLen,bt64,kI64,I5]at h;done)|(simp[NZ,NY,QR,maxLen,bt64,kI64,I5]at h)|skip)<;>(first|(exfalso;omega)|skip))|refine Ad 9 ?_|refine BE fun K hK=>?_|exact rt1 (kX7 @NZ @NY @QR.eq_1 @maxLen.eq_1 @bt64 @kI64 @I5)|fail)<;>(refine au1 (kX7 @NZ @NY @QR.eq_1 @maxLen.eq_1 @bt64 @kI64 @I5) ?_;(repeat intro K hK);apply wr))
theorem Gn(h:Int):(QR h).length=8:=by simp[QR]
def slB(n:Int)(b:Str):Str:=BQ n++(BQ b.length++b)
def slD(n:Int)(b:Str):Str:=slB n b++QR (Kr PW (slB n b))
theorem ZH(n:Int)(b:Str)(hn:L64 n)(hb:b.length<=500000):AC prog 74 [lv n,.str b] (.str (slD n b)):=by
 have hw:IntKind.u64.wrap (b.length:Int)=(b.length:Int):=by rw[IntKind.wrap_u64];omega
 have l1:=Aj n;have l2:=Aj b.length;have hs:=Uz (slB n b) (by simp[slB];omega);have hl:=Gn (Kr PW (slB n b));have hp2:AC prog 76 [lv (IntKind.u64.wrap (b.length:Int))] (.str (BQ b.length)):=by rw[hw];exact Fv _ ⟨by omega,by omega⟩
 have hsl:BQ n++(BQ b.length++b)=slB n b:=rfl;refine sX func74 ntmps74 ?_;refine cX (Fv n hn) ?_;refine cY (hp2) @hsl ?_;refine cX (hs) ?_;refine ar ?_;simp[slD]
def LL(s:Str)(q:Nat)(body r:Str)(bad:Bool):Nat×Str×Int:=if bad=true\/r.length≠8 then(0,[],1900)else if QR (Kr PW (s.take (s.length-8)))=r then(q,body,0)else(0,[],1903)
def JD(s:Str):Nat×Str×Int:=LL s (Fc s false).1 (Mw (Fc s false).2.1 (Fc s false).2.2).1 (Mw (Fc s false).2.1 (Fc s false).2.2).2.1 (Mw (Fc s false).2.1 (Fc s false).2.2).2.2
def OM(p:Nat×Str×Int):V:=.tup [lv p.1,.str p.2.1,iv p.2.2]
theorem cE(s:Str)(bad:Bool):(Mw s bad).2.1.length<=s.length:=by
 have:=(HM s bad).1;unfold Mw;split
 ·exact this
 simp only[fF];omega
theorem Tt(s:Str)(hs:s.length<=1000000):AC prog 133 [.str s] (OM (JD s)):=by
 have hc1:=fun nx ob=>@KJ nx ob 0 s false hs;obtain⟨q,r1,b1,hN⟩:∃q r b,Fc s false=(q,r,b):=⟨_,_,_,rfl⟩;have l1:=(HM s false).1;have l2:=cE r1 b1;have hD:JD s=LL s q (Mw r1 b1).1 (Mw r1 b1).2.1 (Mw r1 b1).2.2:=by unfold JD;rw[hN]
 rw[hN]at hc1 l1;simp only at hc1 l1;have hc2:=fun nx ob=>@Pp nx ob 0 r1 b1 (by omega);obtain⟨body,r2,b2,hT⟩:∃q r b,Mw r1 b1=(q,r,b):=⟨_,_,_,rfl⟩;rw[hT]at hc2 hD l2;simp only at hc2 hD l2;have hsm:=Uz (s.take (s.length-8)) (by rw[fE];omega);refine sX func133 ntmps133 ?_;refine au ?_;intros;apply wr;refine cO ?_;refine(hc1 _ _ (by simp[lookO]) (by omega)).mono fun r nx' ob' hp=>?_;simp only[BS];obtain⟨rfl,h1,h2,h3⟩:=hp;simp;refine au1 @h1 ?_;intros;apply wr;refine cO ?_;refine(hc2 _ _ h1 (by omega)).mono fun r nx' ob' hp=>?_;simp only[BS];obtain⟨rfl,h4,h5,h6⟩:=hp;simp;refine au1 @h4 ?_;intros;apply wr;cases b2 with
 | true =>
  refine CU ?_;refine ar ?_;simp[hD,LL,OM]
 | false =>
  by_cases hl:r2.length=8
  ·have g1:(r2.length:Int)=8:=by omega
   have g2:((r2.length:Int) != 8)=false:=by rw[g1];rfl
   have g3:IntKind.i64.wrap ((s.length:Int)-8)=(s.length:Int)-8:=AA (by omega) (by omega);have g4:(0:Int)<=(s.length:Int)-8:=by omega
   have g5:(s.length:Int)-8<=s.length:=by omega
   have g6:((s.length:Int)-8).toNat=s.length-8:=by omega
   refine B1 (kX3 @g1 @g2 @hl) ?_;intros;apply wr;refine AG 11 [0,0,2,6,15,31,0,64,192,448,1023] [(10,([[],[],[1],[1,2],[0,1,2,3],[0,1,2,3,4],[],[6],[6,7],[6,7,8]],[(9,5)])),(1,([],[]))] ?_;refine af1 (kX5 @h4 @g3 @g4 @g5 @g6) ?_;intros;apply wr;all_goals ((first|refine .inl ⟨0,_,hsm,?_⟩|refine .inl ⟨0,_,AC.wk (hsm) (by simp),?_⟩|refine⟨0,_,hsm,?_⟩|refine⟨0,_,AC.wk (hsm) (by simp),?_⟩);(simp[CZ,C9]))
   all_goals ((refine af1 @h4 ?_);intros;(apply wr))
   by_cases hq:QR (Kr PW (s.take (s.length-8)))=r2
   ·have z1:(QR (Kr PW (s.take (s.length-8))) != r2)=false:=by rw[hq];simp
    refine Ae (kX2 @z1 @hq) ?_;refine ar ?_;simp[hD,LL,OM,hl,hq]
   have z1:(QR (Kr PW (s.take (s.length-8))) != r2)=true:=by simpa using hq
   refine Eh (kX2 @z1 @hq) ?_;refine ar ?_;simp[hD,LL,OM,hl,hq]
  have g1:¬(r2.length:Int)=8:=by omega
  have g2:((r2.length:Int) != 8)=true:=by simp;omega
  refine Eh (kX3 @g1 @g2 @hl) ?_;refine ar ?_;simp[hD,LL,OM,hl]
theorem NP:∀(k n i x:Nat)(r:Str),i+k=10->n<2^(64-7*i)->(0<i->0<n)->JZ i x (N4 k n++r)=some (x+n*2^(7*i),i+(N4 k n).length)
 | 0,n,i,x,r,hi,hn,hp=>by
  obtain rfl:i=10:=by omega
  have:=hp (by decide);simp at hn;omega
 | k+1,n,i,x,r,hi,hn,hp=>by
  have h9:i=9->n<2:=by rintro rfl;simpa using hn
  by_cases hs:n<128
  ·rw[KQ hs,fW,f9,Di,Gs (by omega),if_neg (by omega),if_neg (by omega),if_neg (by omega),if_neg]
   ·rfl
   rintro⟨h1,h2⟩;have h3:(UInt8.ofNat n).toNat=0:=by rw[h1];rfl
   rw[Gs (by omega)]at h3;have:=hp h2;omega
  have hst:N4 (k+1) n=UInt8.ofNat (n%128+128)::N4 k (n/128):=by rw[N4,if_neg hs]
  have hi8:i<=8:=by
   have:=h9;omega
  have hn2:n/128<2^(64-7*(i+1)):=by
   rw[Nat.div_lt_iff_lt_mul (by decide),show(128:Nat)=2^7 from rfl,<- Nat.pow_add,show 64-7*(i+1)+7=64-7*i by omega];exact hn
  rw[hst,fW,Di,Gs (by omega),if_neg (by omega),if_neg (by omega),if_pos (by omega),NP k (n/128) (i+1) _ r (by omega) hn2 (fun _=>by omega)];have e:(n%128+128)%128=n%128:=by omega
  have hP:2^(7*(i+1))=128*2^(7*i):=by rw[show 7*(i+1)=7*i+7 by omega,Nat.pow_add,Nat.mul_comm]
  rw[e,hP];generalize 2^(7*i)=P;have hd:n%128*P+n/128*(128*P)=n*P:=by
   rw[<- Nat.mul_assoc,<- Nat.add_mul];congr 1;omega
  simp only[fR,eQ,Prod.mk.injEq];omega
theorem JY(n:Int)(h:L64 n)(r:Str):NN (BQ n++r)=some (n.toNat,(BQ n).length):=by
 have h1:=h.1;have h2:=h.2;unfold NN BQ;rw[NP 10 n.toNat 0 0 r rfl (by simp;omega) (fun z=>by omega)];simp
theorem IP(n:Int)(h:L64 n)(r:Str):Fc (BQ n++r) false=(n.toNat,r,false):=by
 unfold Fc;rw[if_neg (by decide),JY n h r];simp
theorem Pq(b r:Str)(hb:b.length<=1000000):Mw (BQ b.length++(b++r)) false=(b,r,false):=by
 have hn:=IP b.length ⟨by omega,by omega⟩ (b++r);unfold Mw;rw[hn];simp
theorem LK(n:Int)(h:L64 n)(b:Str)(hb:b.length<=500000):JD (slD n b)=(n.toNat,b,0):=by
 have e:slD n b=BQ n++(BQ b.length++(b++QR (Kr PW (slB n b)))):=by simp[slD,slB]
 have hl:=Gn (Kr PW (slB n b));have et:(slD n b).take ((slD n b).length-8)=slB n b:=by
  unfold slD;rw[eX,hl,Nat.add_sub_cancel,List.take_left'];rfl
 unfold JD LL;rw[et];rw[e,IP n h];simp only;rw[Pq b _ (by omega)];simp[hl]
def OL(p:Str)(mark:UInt8):Nat×Str×Bool:=if(JD p).2.2=0 then(match(JD p).2.1 with
 | []=>(0,[],false)
 | c::t=>if c=mark then((JD p).1,t,true)else(0,[],false))else(0,[],false)
def Hf(x:Nat×Str×Bool):V:=.tup [lv x.1,.str x.2.1,.bool x.2.2]
theorem Ts(s:Str):(JD s).2.1.length<=s.length:=by
 have h:∀(q:Nat)(b r:Str)(bad:Bool),(LL s q b r bad).2.1.length<=b.length:=by
  intro q b r bad;unfold LL;split
  ·simp
  split<;>simp
 refine f8 (h _ _ _ _) ?_;have h1:=(HM s false).1;unfold Mw;have h2:=(HM (Fc s false).2.1 (Fc s false).2.2).1;split
 ·simp
 simp only[fE];omega
theorem Pb(p:Str)(mark:UInt8)(hs:p.length<=1000000):AC prog 130 [.str p,.int .u8 (mark.toNat:Int)] (Hf (OL p mark)):=by
 have ho:=Tt p hs;have hl:=Ts p;obtain⟨q,body,e,hO⟩:∃q b e,JD p=(q,b,e):=⟨_,_,_,rfl⟩;have hD:OL p mark=if e=0 then(match body with
  | []=>(0,[],false)
  | c::t=>if c=mark then(q,t,true)else(0,[],false))else(0,[],false):=by unfold OL;rw[hO]
 rw[hO]at ho hl;simp only[OM]at ho hl;by_cases he:e=0
 ·subst he;rw[if_pos rfl]at hD;cases body with
  | nil =>
   refine sX func130 ntmps130 ?_;refine cX (ho) ?_;refine CU ?_;refine ar ?_;simp[hD,Hf]
  | cons c t =>
   simp only at hD;simp only[fR]at hl;by_cases hc:c=mark
   ·have z1:((c.toNat:Int) != (mark.toNat:Int))=false:=by rw[hc];simp
    refine sX func130 ntmps130 ?_;refine cX (ho) ?_;refine B1 (kX2 @z1 @hc) ?_;intros;apply wr;refine AG 6 [0,0,2,1,15,31] [(4,([[],[],[1],[0]],[])),(1,([],[])),(1,([],[]))] ?_;refine af ?_;intros;apply wr;all_goals ((refine af ?_);intros;(apply wr))
    refine ar ?_;simp[hD,Hf,hc]
   have z0:¬c.toNat=mark.toNat:=fun z=>hc (UInt8.toNat_inj.1 z);have z2:¬(c.toNat:Int)=mark.toNat:=by omega
   have z1:((c.toNat:Int) != (mark.toNat:Int))=true:=by simpa using z2
   refine sX func130 ntmps130 ?_;refine cXf (ho) ?_;refine Eh (kX4 @z1 @z0 @z2 @hc) ?_;refine ar ?_;simp[hD,Hf,hc]
 have z1:(e != 0)=true:=by simpa using he
 rw[if_neg he]at hD;refine sX func130 ntmps130 ?_;refine cXf (ho) ?_;refine Eh (kX2 @z1 @he) ?_;refine ar ?_;simp[hD,Hf]
theorem Wt(n:Int)(h:L64 n)(c:UInt8)(b:Str)(hb:b.length<=400000):OL (slD n (c::b)) c=(n.toNat,b,true):=by
 unfold OL;rw[LK n h (c::b) (by simp;omega)];simp
theorem VK(s:Str)(most:Int)(hs:s.length<=100000)(h1:(s.length:Int)<=most)(h2:most<=1000000):AC prog 191 [.str (GI s),iv most] (.tup [.str s,iv 0]):=by
 obtain⟨g,hg⟩:=VJ s;exact unp_ok _ _ _ g hg (by have:=FO s;omega) h1 h2
theorem Xn(n:Int)(h0:0<=n)(h1:n<=4294967295)(r:Str):cT (BQ n++r) false=(n.toNat,r,false):=by
 unfold cT;rw[IP n ⟨h0,by omega⟩ r];simp only;rw[if_neg (by omega)]
def GA(n x:Int):Str:=slD n (72::BQ x)
theorem Z7(n x:Int)(hn:L64 n)(hx:L64 x):AC prog 31 [lv n,lv x] (.str (GA n x)):=by
 have l1:=Aj x;have hp:=Fv x hx;have hs:=ZH n (72::BQ x) hn (by simp;omega);refine sX func31 ntmps31 ?_;refine cX (hp) ?_;refine cX (hs) ?_;refine ar ?_;simp[GA]
theorem XC(n x:Int)(hn:L64 n)(hx:L64 x):AC prog 78 [.str (GA n x)] (.tup [lv n,lv x,.bool true]):=by
 have l1:=Aj x;have hlen:(GA n x).length<=1000000:=by
  have:=Aj n;have:=Aj ((72::BQ x).length:Int);have:=Gn (Kr PW (slB n (72::BQ x)));unfold GA slD;rw[eX,this];simp only[slB,eX,fR]at *;omega
 have ho:=Tt (GA n x) hlen;have hb:JD (GA n x)=(n.toNat,72::BQ x,0):=LK n hn (72::BQ x) (by simp;omega);rw[hb]at ho;simp only[OM]at ho;have e1:((n.toNat:Nat):Int)=n:=by have:=hn.1;omega
 have e2:((x.toNat:Nat):Int)=x:=by have:=hx.1;omega
 rw[e1]at ho;have hu:=Oh (BQ x) (by omega);have hv:=JY x hx [];rw[f7]at hv;rw[hv]at hu;simp only[La,e2]at hu;have w1:IntKind.i64.wrap ((BQ x).length:Int)=(BQ x).length:=AA (by omega) (by omega);generalize GA n x=p at *;generalize BQ x=t at *;refine sX func78 ntmps78 ?_;refine cX (ho) ?_;refine CX ?_;refine cY (hu) @w1 ?_;refine B1 @w1 ?_;refine ar ?_;simp
end Go.Proofs.YtjkmhmepljamoaaGreat
end
