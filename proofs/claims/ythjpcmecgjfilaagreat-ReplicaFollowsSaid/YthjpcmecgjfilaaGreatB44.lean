/- A part of the proof of ReplicaFollows. -/
import Derived.Test.YthjpcmecgjfilaaGreatB06
import Derived.Test.YthjpcmecgjfilaaGreatB28
set_option linter.unusedSimpArgs false
set_option linter.unusedVariables false
set_option maxHeartbeats 16000000
set_option maxRecDepth 100000
section
namespace Go.Proofs.YthjpcmecgjfilaaGreat
open Go.Ab Go.RowKit Tryz
def zJL (o:Option (Nat × Nat)):V:=match o with
 | some (x,n)=>.tup [lv (x:Int),iv n,.bool true]
 | none=>.tup [lv 0,iv 0,.bool false]
theorem zPR (x c s:Nat) (hx:x<2 ^ s) (h:x+c*2 ^ s<18446744073709551616):ior .u64 (x:Int) ((c*2 ^ s:Nat):Int)=((x+c*2 ^ s:Nat):Int):=by
 have e:x ||| c*2 ^ s=x+c*2 ^ s:=by rw [Nat.or_comm,<- Nat.shiftLeft_eq,<- Nat.shiftLeft_add_eq_or_of_lt hx,Nat.add_comm]
 unfold ior;rw [show IntKind.u64.bits=64 from rfl,BitVec.ofInt_natCast,BitVec.ofInt_natCast,BitVec.toNat_or,BitVec.toNat_ofNat,BitVec.toNat_ofNat,Nat.mod_eq_of_lt (by omega),Nat.mod_eq_of_lt (by omega),e,IntKind.wrap_u64]
 omega
theorem zUE:∀ k:Fin 256,iand .u8 (k.val:Int) 127=(k.val:Int) % 128:=by decide +kernel
theorem and127 (b:UInt8):iand .u8 (b.toNat:Int) 127=(b.toNat:Int) % 128:=zUE ⟨b.toNat,b.toNat_lt⟩
theorem zCc (i x:Nat) (b:UInt8) (r:Str):zHS i x (b::r)=if 10<=i then none else if i=9/\1<b.toNat then none else if 128<=b.toNat then zHS (i+1) (x+b.toNat % 128*2 ^ (7*i)) r
  else if b=0/\0<i then none else some (x+b.toNat*2 ^ (7*i),i+1):=rfl
theorem zLh (s:Str) (hs:s.length<=1000000):zAD prog 142 [.str s] (zJL (zKg s)):=by
 obtain ⟨m,hm⟩:∃ m,m=min 10 s.length:=⟨_,rfl⟩;have hmi:(if (10:Int)<(s.length:Int) then 10 else (s.length:Int))=m:=by split<;>omega
 refine sX func142 ntmps142 ?_;intros;apply wr;refine au1 @hmi ?_;intros;apply wr;refine zAW (m+1) ?_;refine zA2 (fun c st=>∃ (T:List (Nat × V)) (i x:Nat),i+c=m/\st=⟨44,T,0,[],0⟩/\(lkT T 0=.str s/\lkT T 5=lv x/\lkT T 10=iv m/\lkT T 11=.int .i64 i)/\x<2 ^ (7*i)/\zHS i x (s.drop i)=zKg s) ?_ _ _ ⟨_,0,0,by omega,rfl,by simp [lkT];exact hmi,by simp,rfl⟩
 rintro c st ⟨T,i,x,hic,rfl,⟨t0,t5,t10,t11⟩,hx,hE⟩ Kl hKl
 refine zBS [(0,.str s),(5,lv x),(10,iv m),(11,.int .i64 i)] (by simp [t0,t5,t10,t11]) ?_
 refine au ?_;intros;apply wr;by_cases him:i<m
 ·have c1:(i:Int)<m:=by omega
  obtain ⟨c',rfl⟩:∃ c',c=c'+1:=⟨c-1,by omega⟩
  obtain ⟨b,hb,hd⟩:=zD4 (t:=s) (i:=i) (by omega)
  rw [hd,zCc,if_neg (by omega)] at hE
  have hb8:=b.toNat_lt;have c2:(i:Int)<s.length:=by omega
  refine gT11 (kX2 @him @c1) rfl (kX3 @hb @c1 @c2) ?_;intros;apply wr;by_cases h9:i=9/\1<b.toNat
  ·rw [if_pos h9] at hE;have k1:(i:Int)=9:=by omega
   have k2:(1:Int)<b.toNat:=by omega
   have k3:((i:Int)==9)=true:=by rw [k1];rfl
   have k4:1<b.toNat:=h9.2;refine gT10 (kX4 @k1 @k2 @k3 @k4) rfl ?_;intros;apply wr;refine zAB ?_;simp [zJL,<- hE]
  rw [if_neg h9] at hE;have k1:((i:Int)==9&&decide ((1:Int)<b.toNat))=false:=by simp;omega
  have k2:¬ ((i:Int)=9/\(1:Int)<b.toNat):=by omega
  have k3:i=9->b.toNat<=1:=by omega
  have k4:IntKind.i64.wrap (7*(i:Int))=7*(i:Int):=zAA (by omega) (by omega)
  have k5:IntKind.u64.wrap ((b.toNat:Int) % 128)=(b.toNat:Int) % 128:=by rw [IntKind.wrap_u64];omega
  have k6:IntKind.u64.wrap (7*(i:Int))=7*(i:Int):=by rw [IntKind.wrap_u64];omega
  have k7:(7*(i:Int)).toNat=7*i:=by omega
  have k8:(0:Int)<=7*(i:Int):=by omega
  obtain ⟨P,hP⟩:∃ P,P=2 ^ (7*i):=⟨_,rfl⟩;have hP64:(b.toNat % 128+1)*P<=18446744073709551616:=by
   by_cases hi9:i=9
   ·subst hi9;rw [show P=9223372036854775808 by rw [hP]]
    omega
   have h1:P<=2 ^ 56:=by rw [hP];exact Nat.pow_le_pow_right (by decide) (by omega)
   exact zWg (Nat.mul_le_mul (show b.toNat % 128+1<=128 by omega) h1) (by decide)
  rw [Nat.succ_mul] at hP64;have hPn:P*128=2 ^ (7*(i+1)):=by rw [hP,show 7*(i+1)=7*i+7 by omega,Nat.pow_add]
  have hPm:(b.toNat % 128+1)*P<=128*P:=zWe _ (by omega)
  rw [Nat.succ_mul] at hPm;rw [<- hP] at hx hE;obtain ⟨y,hy⟩:∃ y,y=x+b.toNat % 128*P:=⟨_,rfl⟩;have k9:ior .u64 (x:Int) (IntKind.u64.wrap ((b.toNat:Int) % 128*2 ^ min (7*i) IntKind.u64.bits))=(y:Int):=by
   rw [Nat.min_eq_left (show 7*i<=IntKind.u64.bits by simp [IntKind.bits];omega)]
   have e:(b.toNat:Int) % 128*2 ^ (7*i)=((b.toNat % 128*P:Nat):Int):=by rw [hP];simp
   rw [e,show IntKind.u64.wrap ((b.toNat % 128*P:Nat):Int)=((b.toNat % 128*P:Nat):Int) by rw [IntKind.wrap_u64];omega,hy,hP]
   exact zPR _ _ _ (by rw [<- hP];exact hx) (by rw [<- hP];omega)
  have k10:IntKind.i64.wrap ((i:Int)+1)=(i:Int)+1:=zAA (by omega) (by omega)
  refine gF11 (kX3 @k1 @k2 @k3) rfl (kX7 @and127 @k4 @k5 @k6 @k7 @k8 @k9) ?_;intros;apply wr;by_cases hb1:128<=b.toNat
  ·have g1:(128:Int)<=b.toNat:=by omega
   rw [if_pos hb1,<- hy] at hE;refine gT11 (kX2 @g1 @hb1) rfl @k10 ?_;intros;apply wr;exact hKl c' _ rfl ⟨_,i+1,y,by omega,rfl,by simp [lkT],by omega,hE⟩
  have g1:¬ (128:Int)<=b.toNat:=by omega
  rw [if_neg hb1] at hE;refine gF10 (kX2 @g1 @hb1) rfl ?_;intros;apply wr;by_cases h0:b=0/\0<i
  ·rw [if_pos h0] at hE;have g2:(b.toNat:Int)=0:=by rw [h0.1];rfl
   have g3:(0:Int)<i:=by omega
   have g4:0<i:=h0.2;have g5:b.toNat=0:=by omega
   refine gT10 (kX4 @g2 @g3 @g4 @g5) rfl ?_;intros;apply wr;refine zAB ?_;simp [zJL,<- hE]
  rw [if_neg h0] at hE;have g0:¬ (b.toNat=0/\0<i):=fun z=>h0 ⟨UInt8.toNat_inj.1 (by simpa using z.1),z.2⟩
  have g2:((b.toNat:Int)==0&&decide ((0:Int)<i))=false:=by simp;omega
  have g3:¬ ((b.toNat:Int)=0/\(0:Int)<i):=by omega
  have g4:b.toNat=0->i=0:=by omega
  rw [show b.toNat*P=b.toNat % 128*P by rw [Nat.mod_eq_of_lt (by omega)],<- hy] at hE
  have g6:b.toNat=0->¬ 0<i:=fun z w=>g0 ⟨z,w⟩
  refine gF11 (kX5 @g0 @g2 @g3 @g4 @g6) rfl @k10 ?_;intros;apply wr;refine zAB ?_;simp [zJL,<- hE]
 have c1:¬ (i:Int)<m:=by omega
 have hu:zKg s=none:=by
  rw [<- hE];by_cases h10:i<s.length
  ·obtain ⟨b,hb,hd⟩:=zD4 h10;rw [hd,zCc,if_pos (by omega)]
  rw [List.drop_eq_nil_of_le (by omega)];simp [zHS]
 refine gF10 (kX2 @him @c1) rfl ?_;intros;apply wr;refine zAB ?_;simp [zJL,hu]
theorem zND:∀ (s:Str) (i x y n:Nat),zHS i x s=some (y,n)->i<n/\n<=i+s.length
 | [],i,x,y,n,h=>by simp [zHS] at h
 | b::r,i,x,y,n,h=>by
  rw [zCc] at h;split at h
  ·cases h
  split at h
  ·cases h
  split at h
  ·have:=zND r _ _ _ _ h;simp only [zWU];omega
  split at h
  ·cases h
  simp only [zWG,Prod.mk.injEq] at h;simp only [zWU];omega
theorem zNC:∀ (s:Str) (i x y n:Nat),x<2 ^ (7*i)->zHS i x s=some (y,n)->y<18446744073709551616
 | [],i,x,y,n,_,h=>by simp [zHS] at h
 | b::r,i,x,y,n,hx,h=>by
  rw [zCc] at h;split at h
  ·cases h
  rename_i hi;split at h
  ·cases h
  rename_i h9;obtain ⟨P,hP⟩:∃ P,P=2 ^ (7*i):=⟨_,rfl⟩;have hPn:P*128=2 ^ (7*(i+1)):=by rw [hP,show 7*(i+1)=7*i+7 by omega,Nat.pow_add]
  have hPm:(b.toNat % 128+1)*P<=128*P:=zWe _ (by omega)
  rw [Nat.succ_mul] at hPm;rw [<- hP] at hx h;split at h
  ·exact zNC r _ _ _ _ (by omega) h
  rename_i hb;split at h
  ·cases h
  simp only [zWG,Prod.mk.injEq] at h;have e:b.toNat % 128=b.toNat:=Nat.mod_eq_of_lt (by omega)
  rw [e] at hPm;by_cases hi9:i=9
  ·subst hi9;have hP':P=9223372036854775808:=by rw [hP]
   have:b.toNat*P<=1*P:=zWe _ (by omega)
   omega
  have h1:P<=2 ^ 56:=by rw [hP];exact Nat.pow_le_pow_right (by decide) (by omega)
  have h2:(2:Nat) ^ 56=72057594037927936:=by decide
  omega
theorem zNB {s:Str} {y n:Nat} (h:zKg s=some (y,n)):0<n/\n<=s.length/\y<18446744073709551616:=by
 have h1:=zND _ _ _ _ _ h;exact ⟨h1.1,by omega,zNC _ _ _ _ _ (by simp) h⟩
abbrev rdrO (s:Str) (bad:Bool):Ob:=⟨313,2,true,false,[[.str s,.bool bad]]⟩
def numD (s:Str) (bad:Bool):Nat × Str × Bool:=if bad=true then (0,s,true) else match zKg s with
 | some (x,n)=>(x,s.drop n,false)
 | none=>(0,s,true)
theorem zMW {nx:Nat} {ob:List (Nat × Option Ob)} (id:Nat) (s:Str) (bad:Bool) (hs:s.length<=1000000) (hob:lookO ob id=some (rdrO s bad)) (hn:id<nx) :
  InlC prog 190 [.ptr id 2 0 0] nx ob fun v nx' ob'=>v=lv ((numD s bad).1:Int)/\lookO ob' id=some (rdrO (numD s bad).2.1 (numD s bad).2.2)/\nx<=nx'/\∀ q,q<nx->q≠id->lookO ob' q=lookO ob q:=by
 have hu:=zLh s hs;cases hv:zKg s with
 | none =>
  rw [hv] at hu;simp only [zJL] at hu;refine InlC.of func190 rfl (by kernel_rfl) rfl ?_
  simp only [ntmps190,St.startI,argT];refine au1 @hob ?_;intros;apply wr;refine cZ (hu) @hob @hob ?_;intros;apply wr;refine gT01 rfl @hob ?_;intros;apply wr;refine zAB ?_;simp [numD,hv,lookO];exact fun q h1 h2 h3=>absurd h3 h2
 | some p =>
  obtain ⟨x,n⟩:=p;obtain ⟨n0,n1,x1⟩:=zNB hv;rw [hv] at hu;simp only [zJL] at hu;cases bad with
  | true =>
   refine InlC.of func190 rfl (by kernel_rfl) rfl ?_
   simp only [ntmps190,St.startI,argT];refine au1 @hob ?_;intros;apply wr;refine cZ (hu) @hob @hob ?_;intros;apply wr;refine gT01 rfl @hob ?_;intros;apply wr;refine zAB ?_;simp [numD,hv,lookO];exact fun q h1 h2 h3=>absurd h3 h2
  | false =>
   have c1:(n:Int)<=s.length:=by omega
   refine InlC.of func190 rfl (by kernel_rfl) rfl ?_
   simp only [ntmps190,St.startI,argT];refine au1 @hob ?_;intros;apply wr;refine cZ (hu) @hob (kX2 @hob @c1) ?_;intros;apply wr;refine gF01 rfl (kX2 @hob @c1) ?_;intros;apply wr;refine zAB ?_;simp [numD,hv,lookO];exact fun q h1 h2 h3=>absurd h3 h2
theorem zFW (s:Str) (bad:Bool):(numD s bad).2.1.length<=s.length/\(numD s bad).1<18446744073709551616:=by
 unfold numD;split
 ·exact ⟨zWN _,by simp⟩
 split
 ·rename_i x n h;have:=zNB h;simp;omega
 exact ⟨zWN _,by simp⟩
def rwdD (s:Str) (bad:Bool):Nat × Str × Bool:=if 4294967295<(numD s bad).1 then (0,(numD s bad).2.1,true) else numD s bad
def rdtD (s:Str) (bad:Bool):Str × Str × Bool:=if (numD s bad).2.2=true\/(numD s bad).2.1.length<(numD s bad).1 then ([],(numD s bad).2.1,true) else ((numD s bad).2.1.take (numD s bad).1,(numD s bad).2.1.drop (numD s bad).1,false)
theorem zSn {nx:Nat} {ob:List (Nat × Option Ob)} (id:Nat) (s:Str) (bad:Bool) (hs:s.length<=1000000) (hob:lookO ob id=some (rdrO s bad)) (hn:id<nx) :
  InlC prog 314 [.ptr id 2 0 0] nx ob fun v nx' ob'=>v=.int .u32 ((rwdD s bad).1:Int)/\lookO ob' id=some (rdrO (rwdD s bad).2.1 (rwdD s bad).2.2)/\nx<=nx'/\∀ q,q<nx->q≠id->lookO ob' q=lookO ob q:=by
 obtain ⟨l1,l2⟩:=zFW s bad;have hc:=zMW id s bad hs hob hn;obtain ⟨x,r,b,hN⟩:∃ x r b,numD s bad=(x,r,b):=⟨_,_,_,rfl⟩;have hD:rwdD s bad=if 4294967295<x then (0,r,true) else (x,r,b):=by unfold rwdD;rw [hN]
 rw [hN] at hc l1 l2;simp only at hc l1 l2;refine InlC.of func314 rfl (by kernel_rfl) rfl ?_
 simp only [ntmps314,St.startI,argT];refine au1 @hob ?_;intros;apply wr
 first|refine .inr ((hc).mono fun r nx' ob' hp=>?_)|refine (hc).mono fun r nx' ob' hp=>?_|refine ((hc).mono fun r nx' ob' hp=>?_).2
 simp only [aftI];obtain ⟨rfl,h1,h2,h3⟩:=hp;simp;refine au1 @h1 ?_;intros;apply wr;by_cases hx:4294967295<x
 ·have g1:(4294967295:Int)<x:=by omega
  refine gT11 (kX2 @g1 @hx) rfl @h1 ?_;intros;apply wr;refine zAB ?_;simp [hD,hx,lookO];exact ⟨h2,fun q z1 z2=>by rw [if_neg z2];exact h3 q z1 z2⟩
 have g1:¬ (4294967295:Int)<x:=by omega
 have w1:IntKind.u32.wrap (x:Int)=x:=by rw [IntKind.wrap_u32];omega
 refine gF11 (kX2 @g1 @hx) rfl (kX2 @h1 @w1) ?_;intros;apply wr;refine zAB ?_;simp [hD,hx,lookO,w1];exact ⟨h1,h2,h3⟩
theorem zMl {nx:Nat} {ob:List (Nat × Option Ob)} (id:Nat) (s:Str) (bad:Bool) (hs:s.length<=1000000) (hob:lookO ob id=some (rdrO s bad)) (hn:id<nx) :
  InlC prog 191 [.ptr id 2 0 0] nx ob fun v nx' ob'=>v=.str (rdtD s bad).1/\lookO ob' id=some (rdrO (rdtD s bad).2.1 (rdtD s bad).2.2)/\nx<=nx'/\∀ q,q<nx->q≠id->lookO ob' q=lookO ob q:=by
 obtain ⟨l1,l2⟩:=zFW s bad;have hc:=zMW id s bad hs hob hn;obtain ⟨x,r,b,hN⟩:∃ x r b,numD s bad=(x,r,b):=⟨_,_,_,rfl⟩;have hD:rdtD s bad=if b=true\/r.length<x then ([],r,true) else (r.take x,r.drop x,false):=by unfold rdtD;rw [hN]
 rw [hN] at hc l1 l2;simp only at hc l1 l2;have w1:IntKind.u64.wrap (r.length:Int)=r.length:=by rw [IntKind.wrap_u64];omega
 refine InlC.of func191 rfl (by kernel_rfl) rfl ?_
 simp only [ntmps191,St.startI,argT];refine au1 @hob ?_;intros;apply wr
 first|refine .inr ((hc).mono fun r nx' ob' hp=>?_)|refine (hc).mono fun r nx' ob' hp=>?_|refine ((hc).mono fun r nx' ob' hp=>?_).2
 simp only [aftI];obtain ⟨rfl,h1,h2,h3⟩:=hp;simp;refine au1 (kX2 @h1 @w1) ?_;intros;apply wr;cases b with
 | true =>
  refine gT01 rfl @h1 ?_;intros;apply wr;refine zAB ?_;simp [hD,lookO];exact ⟨h2,fun q z1 z2=>by rw [if_neg z2];exact h3 q z1 z2⟩
 | false =>
  by_cases hx:r.length<x
  ·have g1:(r.length:Int)<x:=by omega
   refine gT11 (kX2 @g1 @hx) rfl @h1 ?_;intros;apply wr;refine zAB ?_;simp [hD,hx,lookO];exact ⟨h2,fun q z1 z2=>by rw [if_neg z2];exact h3 q z1 z2⟩
  have g1:¬ (r.length:Int)<x:=by omega
  have g2:(x:Int)<=r.length:=by omega
  have g3:(0:Int)<=x:=by omega
  refine gF11 (kX2 @g1 @hx) rfl (kX4 @h1 @g1 @g2 @g3) ?_;intros;apply wr;refine zAB ?_;simp [hD,hx,lookO];exact ⟨h2,fun q z1 z2=>by rw [if_neg z2];exact h3 q z1 z2⟩
def hshS (h:Int) (b:UInt8):Int:=IntKind.u64.wrap (ixor .u64 h (IntKind.u64.wrap (b.toNat:Int))*1099511628211)
def hshD (h:Int) (s:Str):Int:=s.foldl hshS h
theorem zRm (h:Int) (s:Str) (i:Nat) (hi:i<s.length):hshD h (s.take (i+1))=hshS (hshD h (s.take i)) s[i]:=by
 unfold hshD;rw [List.take_succ_eq_append_getElem hi,List.foldl_append];rfl
theorem hsh_ok (h:Int) (s:Str) (hl:s.length<=1000000):zAD prog 189 [lv h,.str s] (lv (hshD h s)):=by
 refine sX func189 ntmps189 ?_;intros;apply wr;obtain ⟨I,hI⟩:∃ I:Nat->St->Prop,I=(fun kk ss=>∃ (i:Nat) (g:Int),i<=s.length/\kk=s.length-i/\(g=hshD h (s.take i))/\ss=⟨20,[(8,.int .i64 i),(7,.int .i64 s.length),(1,.str s),(0,.int .u64 g)],0,[],0⟩):=⟨_,rfl⟩
 refine lX I (id) (by rw [hI];exact ⟨0,h,by simp,rfl,rfl,rfl⟩) ?_
 intro kk ss hIk _
 rw [hI] at hIk;obtain ⟨i,g,hi,rfl,hx,rfl⟩:=hIk;refine au ?_;intros;apply wr;refine zAC rfl (fun hh=>?_) (fun hh=>?_)
 ·simp at hh;obtain ⟨c,hc⟩:∃ c,c=s[i]:=⟨_,rfl⟩;have hget:s[i]? =some c:=by rw [hc];exact zWH hh
  have ht:=zRm h s i hh;rw [<- hc] at ht;refine au1 @hget ?_;intros;apply wr;exact aX (id) (by rw [hI];exact ⟨i+1,(hshD h (s.take (i+1))),by omega,rfl,rfl,rfl⟩) (kX4 (zAA (n:=(i:Int)+1) (by omega) (by omega)) @ht @hx @hshS.eq_1)
 simp at hh;have hii:s.take i=s:=List.take_of_length_le (by omega)
 refine au ?_;intros;apply wr;refine zAB ?_;simp [hx,hii]
def sumG (h:Int):Str:=[56,48,40,32,24,16,8,0].map fun k:Nat=>UInt8.ofNat (IntKind.u8.wrap (h.fdiv (2 ^ k))).toNat
theorem zKp (n:Int):0<=IntKind.u8.wrap n:=by rw [IntKind.wrap_u8];omega
theorem zKo (n:Int):IntKind.u8.wrap n<256:=by rw [IntKind.wrap_u8];omega
theorem kI64 {n:Int} (h1:-9223372036854775808<=n) (h2:n<=9223372036854775807):IntKind.i64.wrap n=n:=zAA h1 h2
theorem zGb (n:Int):zBq [.int .u8 n]↔(0<=n/\n<256):=by
 constructor
 ·rintro ⟨b,hb⟩
  simp at hb;have:=b.toNat_lt;omega
 intro h
 exact ⟨UInt8.ofNat n.toNat,by simp;omega⟩
theorem bt64:IntKind.u64.bits=64:=rfl
abbrev hsh0:Int:=14695981039346656037
theorem zQf (s:Str) (hl:s.length<=1000000):zAD prog 140 [.str s] (.str (sumG (hshD hsh0 s))):=by
 obtain ⟨z,hz⟩:∃ z,z=hshD hsh0 s:=⟨_,rfl⟩;have hh:=hsh_ok hsh0 s hl;rw [<- hz] at hh ⊢;refine sX func140 ntmps140 ?_;(repeat intro K hK);apply wr
 refine cX (hh) ?_;(repeat intro K hK);apply wr
 (refine au1 (kX7 @zKp @zKo @sumG.eq_1 @maxLen.eq_1 @bt64 @kI64 @zGb) ?_;(repeat intro K hK);apply wr)
 repeat' ((first|(refine zAC rfl (fun h=>?_) (fun h=>?_)<;>(first|(simp [zKp,zKo,sumG,maxLen,bt64,kI64,zGb] at h;done)|(simp [zKp,zKo,sumG,maxLen,bt64,kI64,zGb] at h)|skip)<;>(first|(exfalso;omega)|skip))|refine zAW 9 ?_|refine zAj fun K hK=>?_|exact rt1 (kX7 @zKp @zKo @sumG.eq_1 @maxLen.eq_1 @bt64 @kI64 @zGb)|fail)<;>(refine au1 (kX7 @zKp @zKo @sumG.eq_1 @maxLen.eq_1 @bt64 @kI64 @zGb) ?_;(repeat intro K hK);apply wr))
theorem zE6 (h:Int):(sumG h).length=8:=by simp [sumG]
def slB (n:Int) (b:Str):Str:=putD n++(putD b.length++b)
def slD (n:Int) (b:Str):Str:=slB n b++sumG (hshD hsh0 (slB n b))
theorem zQZ (n:Int) (b:Str) (hn:L64 n) (hb:b.length<=500000):zAD prog 83 [lv n,.str b] (.str (slD n b)):=by
 have hw:IntKind.u64.wrap (b.length:Int)=(b.length:Int):=by rw [IntKind.wrap_u64];omega
 have l1:=zAS n;have l2:=zAS b.length;have hs:=zQf (slB n b) (by simp [slB];omega)
 have hl:=zE6 (hshD hsh0 (slB n b));have hp2:zAD prog 85 [lv (IntKind.u64.wrap (b.length:Int))] (.str (putD b.length)):=by rw [hw];exact zDq _ ⟨by omega,by omega⟩
 have hsl:putD n++(putD b.length++b)=slB n b:=rfl;refine sX func83 ntmps83 ?_;intros;apply wr;refine cX (zDq n hn) ?_;intros;apply wr;refine cY (hp2) @hsl ?_;intros;apply wr;refine cX (hs) ?_;intros;apply wr;refine zAB ?_;simp [slD]
def zI0 (s:Str) (q:Nat) (body r:Str) (bad:Bool):Nat × Str × Int:=if bad=true\/r.length≠8 then (0,[],1900) else if sumG (hshD hsh0 (s.take (s.length-8)))=r then (q,body,0) else (0,[],1903)
def zG3 (s:Str):Nat × Str × Int:=zI0 s (numD s false).1 (rdtD (numD s false).2.1 (numD s false).2.2).1 (rdtD (numD s false).2.1 (numD s false).2.2).2.1 (rdtD (numD s false).2.1 (numD s false).2.2).2.2
def zKJ (p:Nat × Str × Int):V:=.tup [lv p.1,.str p.2.1,iv p.2.2]
theorem zVX (s:Str) (bad:Bool):(rdtD s bad).2.1.length<=s.length:=by
 have:=(zFW s bad).1;unfold rdtD;split
 ·exact this
 simp only [zWT];omega
theorem zLP (s:Str) (hs:s.length<=1000000):zAD prog 144 [.str s] (zKJ (zG3 s)):=by
 have hc1:=fun nx ob=>@zMW nx ob 0 s false hs
 obtain ⟨q,r1,b1,hN⟩:∃ q r b,numD s false=(q,r,b):=⟨_,_,_,rfl⟩;have l1:=(zFW s false).1;have l2:=zVX r1 b1;have hD:zG3 s=zI0 s q (rdtD r1 b1).1 (rdtD r1 b1).2.1 (rdtD r1 b1).2.2:=by unfold zG3;rw [hN]
 rw [hN] at hc1 l1;simp only at hc1 l1;have hc2:=fun nx ob=>@zMl nx ob 0 r1 b1 (by omega)
 obtain ⟨body,r2,b2,hT⟩:∃ q r b,rdtD r1 b1=(q,r,b):=⟨_,_,_,rfl⟩;rw [hT] at hc2 hD l2;simp only at hc2 hD l2;have hsm:=zQf (s.take (s.length-8)) (by rw [zWS];omega)
 refine sX func144 ntmps144 ?_;intros;apply wr;refine au ?_;intros;apply wr
 first|refine .inr ((hc1 _ _ (by simp [lookO]) (by omega)).mono fun r nx' ob' hp=>?_)|refine (hc1 _ _ (by simp [lookO]) (by omega)).mono fun r nx' ob' hp=>?_|refine ((hc1 _ _ (by simp [lookO]) (by omega)).mono fun r nx' ob' hp=>?_).2
 simp only [aftI];obtain ⟨rfl,h1,h2,h3⟩:=hp;simp;refine au1 @h1 ?_;intros;apply wr
 first|refine .inr ((hc2 _ _ h1 (by omega)).mono fun r nx' ob' hp=>?_)|refine (hc2 _ _ h1 (by omega)).mono fun r nx' ob' hp=>?_|refine ((hc2 _ _ h1 (by omega)).mono fun r nx' ob' hp=>?_).2
 simp only [aftI];obtain ⟨rfl,h4,h5,h6⟩:=hp;simp;refine au1 @h4 ?_;intros;apply wr;cases b2 with
 | true =>
  refine gT00 rfl ?_;intros;apply wr;refine zAB ?_;simp [hD,zI0,zKJ]
 | false =>
  by_cases hl:r2.length=8
  ·have g1:(r2.length:Int)=8:=by omega
   have g2:((r2.length:Int) != 8)=false:=by rw [g1];rfl
   have g3:IntKind.i64.wrap ((s.length:Int)-8)=(s.length:Int)-8:=zAA (by omega) (by omega)
   have g4:(0:Int)<=(s.length:Int)-8:=by omega
   have g5:(s.length:Int)-8<=s.length:=by omega
   have g6:((s.length:Int)-8).toNat=s.length-8:=by omega
   refine gF10 (kX3 @g1 @g2 @hl) rfl ?_;intros;apply wr;refine zAG 11 [0,0,2,6,15,31,0,64,192,448,1023] [(10,([[],[],[1],[1,2],[0,1,2,3],[0,1,2,3,4],[],[6],[6,7],[6,7,8]],[(9,5)])),(1,([],[]))] ?_;refine af1 (kX5 @h4 @g3 @g4 @g5 @g6) ?_;intros;apply wr
   all_goals ((first|refine .inl ⟨0,_,hsm,?_⟩|refine .inl ⟨0,_,zAD.wk (hsm) (by simp),?_⟩|refine ⟨0,_,hsm,?_⟩|refine ⟨0,_,zAD.wk (hsm) (by simp),?_⟩);(simp [aftC,aftE]))
   all_goals ((refine af1 @h4 ?_);intros;(apply wr))
   by_cases hq:sumG (hshD hsh0 (s.take (s.length-8)))=r2
   ·have z1:(sumG (hshD hsh0 (s.take (s.length-8))) != r2)=false:=by rw [hq];simp
    refine zAt (kX2 @z1 @hq) rfl ?_;intros;apply wr;refine zAB ?_;simp [hD,zI0,zKJ,hl,hq]
   have z1:(sumG (hshD hsh0 (s.take (s.length-8))) != r2)=true:=by simpa using hq
   refine zDK (kX2 @z1 @hq) rfl ?_;intros;apply wr;refine zAB ?_;simp [hD,zI0,zKJ,hl,hq]
  have g1:¬ (r2.length:Int)=8:=by omega
  have g2:((r2.length:Int) != 8)=true:=by simp;omega
  refine zDK (kX3 @g1 @g2 @hl) rfl ?_;intros;apply wr;refine zAB ?_;simp [hD,zI0,zKJ,hl]
end Go.Proofs.YthjpcmecgjfilaaGreat
end
