/- A part of the proof of ReplicaBare+ReplicaWindow. -/
import Derived.Test.YtoondlebmacanaaGreatB03
import Derived.Test.YtoondlebmacanaaGreatB20
import Derived.Test.YtoondlebmacanaaGreatB31
import Derived.Test.YtoondlebmacanaaGreatB34
import Derived.Test.YtoondlebmacanaaGreatB41
import Derived.Test.YtoondlebmacanaaGreatB45
set_option linter.unusedSimpArgs false
set_option linter.unusedVariables false
set_option maxHeartbeats 16000000
set_option maxRecDepth 100000
section
namespace Go.Proofs.YtoondlebmacanaaGreat
open Go.Ab Go.RowKit
theorem zE5 (l:List Int) (o:Nat) (t:Str):∀ n k:Nat,(putW l o t n)[k]? =if o≤k∧k<o+n∧k<l.length then some (zDP t (k-o)) else l[k]?
 | 0,k=>by rw [if_neg (by omega)];rfl
 | n+1,k=>by
  rw [putW,List.getElem?_set,zE6,zE5 l o t n k];by_cases h:o+n=k
  ·subst h;rw [if_pos rfl];by_cases hl:o+n<l.length
   ·rw [if_pos hl,if_pos (by omega),Nat.add_sub_cancel_left]
   rw [if_neg hl,if_neg (by omega),zWy (by omega)]
  rw [if_neg h];by_cases h2:o≤k∧k<o+n∧k<l.length
  ·rw [if_pos h2,if_pos (by omega)]
  rw [if_neg h2,if_neg (by omega)]
theorem zMc (t:Str) (n k:Nat) (b:UInt8) (hn:n<t.length):(t.set n b).getD k 0=if k=n then b else t.getD k 0:=by
 simp only [zWX,List.getElem?_set];by_cases h:n=k
 ·subst h;simp [hn]
 rw [if_neg h,if_neg (fun q=>h q.symm)]
theorem zQ2 (t:Str) (n:Nat) (b:UInt8) (hn:n<t.length):zDP (t.set n b) (n / 4)=putB (zDP t (n / 4)) ((n % 4:Nat):Int) b.toNat:=by
 have b0:=(t.getD (4*(n / 4)) 0).toNat_lt;have b1:=(t.getD (4*(n / 4)+1) 0).toNat_lt;have b2:=(t.getD (4*(n / 4)+2) 0).toNat_lt;have b3:=(t.getD (4*(n / 4)+3) 0).toNat_lt;have bb:=b.toNat_lt;have h4:n % 4=0∨n % 4=1∨n % 4=2∨n % 4=3:=by omega
 unfold putB byteAt zDP;simp only [zMc t n _ b hn];rcases h4 with h|h|h|h
 ·rw [if_pos (by omega),if_neg (by omega),if_neg (by omega),if_neg (by omega),h]
  generalize (t.getD (4*(n / 4)) 0).toNat=x0 at *
  generalize (t.getD (4*(n / 4)+1) 0).toNat=x1 at *
  generalize (t.getD (4*(n / 4)+2) 0).toNat=x2 at *
  generalize (t.getD (4*(n / 4)+3) 0).toNat=x3 at *
  generalize b.toNat=y at *
  simp;omega
 ·rw [if_neg (by omega),if_pos (by omega),if_neg (by omega),if_neg (by omega),h]
  generalize (t.getD (4*(n / 4)) 0).toNat=x0 at *
  generalize (t.getD (4*(n / 4)+1) 0).toNat=x1 at *
  generalize (t.getD (4*(n / 4)+2) 0).toNat=x2 at *
  generalize (t.getD (4*(n / 4)+3) 0).toNat=x3 at *
  generalize b.toNat=y at *
  simp;omega
 ·rw [if_neg (by omega),if_neg (by omega),if_pos (by omega),if_neg (by omega),h]
  generalize (t.getD (4*(n / 4)) 0).toNat=x0 at *
  generalize (t.getD (4*(n / 4)+1) 0).toNat=x1 at *
  generalize (t.getD (4*(n / 4)+2) 0).toNat=x2 at *
  generalize (t.getD (4*(n / 4)+3) 0).toNat=x3 at *
  generalize b.toNat=y at *
  simp;omega
 rw [if_neg (by omega),if_neg (by omega),if_neg (by omega),if_pos (by omega),h]
 generalize (t.getD (4*(n / 4)) 0).toNat=x0 at *
 generalize (t.getD (4*(n / 4)+1) 0).toNat=x1 at *
 generalize (t.getD (4*(n / 4)+2) 0).toNat=x2 at *
 generalize (t.getD (4*(n / 4)+3) 0).toNat=x3 at *
 generalize b.toNat=y at *
 simp;omega
theorem zQ1 (t:Str) (n i:Nat) (b:UInt8) (hn:n<t.length) (hi:i≠n / 4):zDP (t.set n b) i=zDP t i:=by
 unfold zDP;simp only [zMc t n _ b hn];rw [if_neg (by omega),if_neg (by omega),if_neg (by omega),if_neg (by omega)]
theorem zSj (l:List Int) (o:Nat) (t:Str) (n:Nat) (b:UInt8) (ht:t.length=128) (hn:n<128):(putW l o t 32).set (o+n / 4) (putB (zDP t (n / 4)) ((n % 4:Nat):Int) b.toNat)=putW l o (t.set n b) 32:=by
 apply List.ext_getElem?;intro k;rw [List.getElem?_set,zE6,zE5,zE5];by_cases h:o+n / 4=k
 ·subst h;rw [if_pos rfl];by_cases hl:o+n / 4<l.length
  ·rw [if_pos hl,if_pos (by omega),Nat.add_sub_cancel_left,zQ2 t n b (by omega)]
  rw [if_neg hl,if_neg (by omega),zWy (by omega)]
 rw [if_neg h];by_cases h2:o≤k∧k<o+32∧k<l.length
 ·rw [if_pos h2,if_pos h2,zQ1 t n (k-o) b (by omega) (by omega)]
 rw [if_neg h2,if_neg h2]
theorem zTX {w:Int} (h:W32 w):(w % 256).toNat+(w / 256 % 256).toNat*256+(w / 65536 % 256).toNat*65536+(w / 16777216 % 256).toNat*16777216=w:=by
 have h0:=h.1;have h1:=h.2;omega
theorem zDu:∀ (P:List Int) (i k:Nat),k<4→(P.flatMap zBP).getD (4*i+k) 0=((P[i]?).map fun w=>(zBP w).getD k 0).getD 0
 | [],i,k,_=>by simp
 | w::P,0,k,h=>by
  have hl:(zBP w).length=4:=rfl;simp only [List.flatMap_cons,Nat.mul_zero,Nat.zero_add,zWX,zWt,Option.map_some,Option.getD_some];rw [zWr (by omega)]
 | w::P,i+1,k,h=>by
  have hl:(zBP w).length=4:=rfl;have e:=zDu P i k h;simp only [List.flatMap_cons,zWX,List.getElem?_cons_succ] at e ⊢;rw [zWp (by omega),show 4*(i+1)+k-(zBP w).length=4*i+k by omega,e]
theorem zN7 {P:List Int} (hP:OkW P) {i:Nat} {w:Int} (h:P[i]? =some w):zDP (P.flatMap zBP) i=w:=by
 have hw:W32 w:=hP w (zWh h);have e:=zTX hw;have f0:=zDu P i 0 (by omega)
 have f1:=zDu P i 1 (by omega)
 have f2:=zDu P i 2 (by omega)
 have f3:=zDu P i 3 (by omega)
 rw [h] at f0 f1 f2 f3;simp only [Option.map_some,Option.getD_some,Nat.add_zero] at f0 f1 f2 f3;unfold zDP;rw [f0,f1,f2,f3];have u:∀ x:Int,(UInt8.ofNat (x % 256).toNat).toNat=(x % 256).toNat:=fun x=>by rw [UInt8.toNat_ofNat'];omega
 simp only [zBP,zWi,zWn,u];omega
theorem zPp {l:List Int} (hl:OkW l) {f:Int} (h0:0≤f) (h1:f<pagesD l):putW l (f*32).toNat (zBS l f) 32=l:=by
 have hp:=zE3 h0 h1;apply List.ext_getElem?;intro k;rw [zE5];by_cases h2:(f*32).toNat≤k∧k<(f*32).toNat+32∧k<l.length
 ·rw [if_pos h2,zWa h2.2.2]
  congr 1
  have hk:((l.take (f*32+32).toNat).drop (f*32).toNat)[k-(f*32).toNat]? =some l[k]:=by
   rw [zW0,zWs,if_pos (by omega),show (f*32).toNat+(k-(f*32).toNat)=k by omega,zWa h2.2.2]
  exact zN7 (fun x hx=>hl x (List.mem_of_mem_take (List.mem_of_mem_drop hx))) hk
 rw [if_neg h2]
def zFW (l:List Int) (f:Int) (s:Str):Nat→List Int
 | 0=>l
 | n+1=>zBt (zFW l f s n) (f*128+n) 1 ((s.getD n 0).toNat:Int)
theorem zJX (l:List Int) (f:Int) (s:Str):∀ n,(zFW l f s n).length=l.length
 | 0=>rfl
 | n+1=>by unfold zFW zBt;rw [List.length_set,zJX l f s n]
theorem zPn {l:List Int} {f:Int} (h0:0≤f) (h1:f<pagesD l):(zBS l f).length=128:=by
 unfold zBS;rw [zJa,zE3 h0 h1]
theorem zLl {l:List Int} (hl:OkW l) {f:Int} (h0:0≤f) (h1:f<pagesD l) (hin:f*32+32≤l.length) (s:Str):∀ n:Nat,n≤s.length→n≤128→zFW l f s n=putW l (f*32).toNat (s.take n++(zBS l f).drop n) 32
 | 0,_,_=>by rw [List.take_zero,List.nil_append,List.drop_zero,zPp hl h0 h1];rfl
 | n+1,hs,hn=>by
  have ih:=zLl hl h0 h1 hin s n (by omega) (by omega)
  have hB:=zPn h0 h1;have ht:(s.take n++(zBS l f).drop n).length=128:=by rw [zWj,zWw,zW3,hB];omega
  have hset:s.take (n+1)++(zBS l f).drop (n+1)=(s.take n++(zBS l f).drop n).set n (s.getD n 0):=by
   apply List.ext_getElem?;intro k;rw [List.getElem?_set,ht,List.getElem?_append,List.getElem?_append];simp only [zWw,zWs,zW0,zWX];by_cases hk:n=k
   ·subst hk;rw [if_pos (by omega),if_pos (by omega),if_pos rfl,if_pos (by omega),zWa (by omega)];rfl
   rw [if_neg hk];by_cases hk2:k<n
   ·rw [if_pos (by omega),if_pos (by omega),if_pos (by omega),if_pos (by omega)]
   rw [if_neg (by omega),if_neg (by omega)]
   congr 1;omega
  have hw:wAt (putW l (f*32).toNat (s.take n++(zBS l f).drop n) 32) ((f*128+n) / 4)=zDP (s.take n++(zBS l f).drop n) (n / 4):=by
   unfold wAt;rw [zWX,zE5,if_pos (by omega),Option.getD_some]
   congr 1;omega
  have hm:(f*128+(n:Int)) % 4=((n % 4:Nat):Int):=by omega
  have hd:((f*128+(n:Int)) / 4).toNat=(f*32).toNat+n / 4:=by omega
  rw [zFW,ih];unfold zBt;rw [if_pos rfl,hw,hm,hd,zSj _ _ _ n _ ht (by omega),hset]
end Go.Proofs.YtoondlebmacanaaGreat
end
section
namespace Go.Ab
open Go.RowKit
theorem zEa [Glo] {P:Program} {c:Code} {Q:Exit→St→Prop} (I:Nat→St→Prop) (step:∀ k st,I k st→∀ K:St→Prop,(∀ k' st',k=k'+1→I k' st'→K st')→awp P c (thn K Q) st):∀ k st,I k st→zDo P c Q (k+1) st
 | 0,st,h=>step 0 st h (zDo P c Q 0) (fun k' st' e _=>by cases e)
 | k+1,st,h=>step (k+1) st h (zDo P c Q (k+1)) (fun k' st' e hI=>by cases e;exact zEa I step k st' hI)
theorem zH3 [Glo] {P:Program} {c:Code} {Q:Exit→St→Prop} {n nx pn:Nat} {T:List (Nat × V)} {ob:List (Nat × Option Ob)} (L:List (Nat × V)) (hL:∀ p∈L,lkT T p.1=p.2) (h:awp P c Q ⟨n,L,nx,ob,pn⟩):awp P c Q ⟨n,T,nx,ob,pn⟩ :=
 fun base Xa w0 a w ⟨M,hM⟩=>h base Xa w0 a w ⟨M,hM.weakT fun t=>(zKr L t).imp (fun h=>h) fun h=>(hL _ h).symm⟩
end Go.Ab
namespace Go.Proofs.YtoondlebmacanaaGreat
open Go.Ab Go.RowKit
set_option linter.unusedSimpArgs false
set_option linter.unusedVariables false
set_option maxRecDepth 100000
set_option maxHeartbeats 16000000
theorem zIE {l:List Int} (hl:OkW l) (f:Int) (s:Str):∀ n,OkW (zFW l f s n)
 | 0=>hl
 | n+1=>zMl (zIE hl f s n) _ _ ⟨by omega,by have:=(s.getD n 0).toNat_lt;omega⟩
theorem zEP {nx:Nat} {ob:List (Nat × Option Ob)} (j:Nat) (l:List Int) (f:Int) (s:Str) (hl:OkW l) (h0:0≤f) (h1:f<pagesD l) (hs:s.length≤128) (hj:lookO ob j=some (memO l)) :
  InlC Tryz.prog 186 [.own j,iv f,.str s] nx ob fun r nx' ob'=>r=.tup []∧nx'=nx∧lookO ob' j=some (memO (zFW l f s s.length))∧∀ i,i≠j→lookO ob' i=lookO ob i:=by
 have hp:=zAb l;have hpl:=zBo (l:=l) (by omega)
 have w1:IntKind.i64.wrap (f*128)=f*128:=zAB (by omega) (by omega)
 refine InlC.of Tryz.func186 rfl (by kernel_rfl) rfl ?_
 simp only [Tryz.ntmps186,St.startI,argT];refine au1 @hj ?_;intros;apply wr;refine zAL (s.length+1) ?_;refine zEa (fun k st=>∃ (i:Nat) (T:List (Nat × V)) (o:List (Nat × Option Ob)),i+k=s.length∧st=⟨28,T,nx,o,nx⟩∧(lkT T 6=.int .i64 i∧lkT T 0=.own j∧lkT T 1=iv f∧lkT T 2=.str s)∧lookO o j=some (memO (zFW l f s i))∧∀ q,q≠j→lookO o q=lookO ob q) ?_ _ _ ⟨0,_,_,by simp,rfl,by simp [lkT],hj,fun q hq=>rfl⟩
 rintro k st ⟨i,T,o,hk,rfl,⟨t6,t0,t1,t2⟩,ho,hq⟩ Kl hKl
 refine zH3 [(6,.int .i64 i),(0,.own j),(1,iv f),(2,.str s)] (by simp [t6,t0,t1,t2]) ?_
 simp;have hl2:=zJX l f s i;refine au ?_;intros;apply wr;by_cases hi:i<s.length
 ·have c1:(i:Int)<s.length:=by omega
  have c2:(i:Int)<128:=by omega
  obtain ⟨x,hg⟩:∃ x,s[i]? =some x:=⟨_,zWa hi⟩;have hgd:s.getD i 0=x:=by rw [zWX,hg];rfl
  have hb:=x.toNat_lt;have w2:IntKind.i64.wrap (f*128+i)=f*128+i:=zAB (by omega) (by omega)
  have w3:IntKind.u32.wrap (f*128+i)=f*128+i:=u32_in (by omega) (by omega)
  have w4:IntKind.u32.wrap (x.toNat:Int)=x.toNat:=u32_in (by omega) (by omega)
  have w5:IntKind.i64.wrap ((i:Int)+1)=((i+1:Nat):Int):=by rw [zAB (by omega) (by omega)];omega
  refine gT11 (kX2 @hi @c2) rfl (kX5 @hg @w1 @w2 @w3 @w4) ?_;intros;apply wr
  first|refine .inr ((zER j (zFW l f s i) (f*128+i) x.toNat ⟨by omega,by omega⟩ (zIE hl f s i) ho (by rw [hl2];omega)).mono fun r nx' ob' hp=>?_)|refine (zER j (zFW l f s i) (f*128+i) x.toNat ⟨by omega,by omega⟩ (zIE hl f s i) ho (by rw [hl2];omega)).mono fun r nx' ob' hp=>?_|refine ((zER j (zFW l f s i) (f*128+i) x.toNat ⟨by omega,by omega⟩ (zIE hl f s i) ho (by rw [hl2];omega)).mono fun r nx' ob' hp=>?_).2
  simp only [aftI];obtain ⟨rfl,rfl,rfl⟩:=hp;simp;refine au1 @w5 ?_;intros;apply wr;refine hKl (k-1) _ (by omega) ⟨i+1,_,_,by omega,rfl,by simp [lkT],by simp [lookO,zFW,hg],fun q h=>by simp [lookO,h,hq q h]⟩
 have:i=s.length:=by omega
 subst this;refine gF01 rfl @ho ?_;intros;apply wr;exact hq
end Go.Proofs.YtoondlebmacanaaGreat
end
section
namespace Go.Proofs.YtoondlebmacanaaGreat
open Go.Ab Go.RowKit
theorem zJY {l:List Int} (hl:OkW l) {f:Int} (h0:0≤f) (h1:f<pagesD l) (s:Str) (hs:s.length≤128):zFW l f s s.length=zBV l f (s++(zBS l f).drop s.length):=by
 have hpl:=zBo (l:=l) (by omega)
 rw [zLl hl h0 h1 (by omega) s s.length (by omega) hs,List.take_length]
 rfl
theorem zFe {nx:Nat} {ob:List (Nat × Option Ob)} (j:Nat) (n:NicD) (l:List Int) (s:Str) (hf:W32 n.buffer) (hl:OkW l) (hs:s.length≤100000) (hj:lookO ob j=some (memO l)) (hjn:j<nx) :
  InlC Tryz.prog 138 [.st n.row,.own j,.str s] nx ob fun r nx' ob'=>r=.tup [.st (zAe n l s).1.row,.bool (zAe n l s).2.2]∧zBm nx ob j (zAe n l s).2.1 nx' ob':=by
 have l1:¬ j=nx:=by omega
 have l2:¬ j=nx+1:=by omega
 have hg:=zCP l n.buffer hf;have hp:=zAb l;by_cases hc:n.posted=true∧1≤s.length∧s.length≤128∧n.buffer<pagesD l
 ·obtain ⟨c1,c2,c3,c4⟩:=hc;have hE:zAe n l s=({n with posted:=false,buffer:=0,received:=true,got:=s.length},zBV l n.buffer (s++(zBS l n.buffer).drop s.length),true):=by unfold zAe;rw [if_pos ⟨c1,c2,c3,c4⟩]
  have c5:¬ pagesD l≤n.buffer:=by omega
  have g1:¬ (s.length:Int)<1:=by omega
  have g2:¬ (128:Int)<s.length:=by omega
  have w1:IntKind.i64.wrap n.buffer=n.buffer:=zAB (by have:=hf.1;omega) (by have:=hf.2;omega)
  have w2:IntKind.u32.wrap (s.length:Int)=s.length:=u32_in (by omega) (by omega)
  have hF:=zJY hl hf.1 c4 s c3;rw [hE];refine InlC.of Tryz.func138 rfl (by kernel_rfl) rfl ?_
  simp only [Tryz.ntmps138,St.startI,argT];refine au1 (kX6 @hj @l1 @l2 @c1 @g1 @g2) ?_;intros;apply wr;refine cn1 (hg) (kX3 @hj @l1 @l2) ?_;refine au ?_;intros;apply wr;refine gF11 @c5 rfl (kX4 @hj @l1 @l2 @w1) ?_;intros;apply wr
  first|refine .inr ((zEP j l n.buffer s hl hf.1 c4 c3 (by simp [lookO,l1,l2,hj])).mono fun r nx' ob' hp=>?_)|refine (zEP j l n.buffer s hl hf.1 c4 c3 (by simp [lookO,l1,l2,hj])).mono fun r nx' ob' hp=>?_|refine ((zEP j l n.buffer s hl hf.1 c4 c3 (by simp [lookO,l1,l2,hj])).mono fun r nx' ob' hp=>?_).2
  simp only [aftI];obtain ⟨rfl,rfl,k1,k2⟩:=hp;have y1:=k2 nx (fun q=>l1 q.symm)
  have y2:=k2 (nx+1) (fun q=>l2 q.symm)
  simp [lookO] at y1 y2;simp;refine au1 (kX3 @y1 @y2 @w2) ?_;intros;apply wr;refine zAA ?_;simp;refine ⟨by omega,by simp [lookO,l1,l2,k1,hF],fun i h1 h2=>?_⟩
  have a1:¬ i=nx:=by omega
  have a2:¬ i=nx+1:=by omega
  have ee:=k2 i h2;simp [lookO,a1,a2] at ee;simp [lookO,a1,a2,ee]
 have hE:zAe n l s=(n,l,false):=by unfold zAe;rw [if_neg hc]
 rw [hE];cases q1:n.posted with
 | false =>
  refine InlC.of Tryz.func138 rfl (by kernel_rfl) rfl ?_
  simp only [Tryz.ntmps138,St.startI,argT];refine au1 (kX4 @hj @l1 @l2 @q1) ?_;intros;apply wr;refine gT01 rfl @q1 ?_;intros;apply wr;refine zAA ?_;simp [q1];refine ⟨by omega,by simp [lookO,l1,l2,hj],fun i h1 h2=>?_⟩
  have a1:¬ i=nx:=by omega
  have a2:¬ i=nx+1:=by omega
  simp [lookO,a1,a2]
 | true =>
  by_cases q2:(s.length:Int)<1
  ·refine InlC.of Tryz.func138 rfl (by kernel_rfl) rfl ?_
   simp only [Tryz.ntmps138,St.startI,argT];refine au1 (kX5 @hj @l1 @l2 @q1 @q2) ?_;intros;apply wr;refine gT01 rfl @q1 ?_;intros;apply wr;refine zAA ?_;simp [q1];refine ⟨by omega,by simp [lookO,l1,l2,hj],fun i h1 h2=>?_⟩
   have a1:¬ i=nx:=by omega
   have a2:¬ i=nx+1:=by omega
   simp [lookO,a1,a2]
  by_cases q3:(128:Int)<s.length
  ·refine InlC.of Tryz.func138 rfl (by kernel_rfl) rfl ?_
   simp only [Tryz.ntmps138,St.startI,argT];refine au1 (kX6 @hj @l1 @l2 @q1 @q2 @q3) ?_;intros;apply wr;refine gT01 rfl @q1 ?_;intros;apply wr;refine zAA ?_;simp [q1];refine ⟨by omega,by simp [lookO,l1,l2,hj],fun i h1 h2=>?_⟩
   have a1:¬ i=nx:=by omega
   have a2:¬ i=nx+1:=by omega
   simp [lookO,a1,a2]
  have q4:pagesD l≤n.buffer:=by
   by_cases z:n.buffer<pagesD l
   ·exact absurd ⟨q1,by omega,by omega,z⟩ hc
   omega
  have q5:¬ n.buffer<pagesD l:=by omega
  refine InlC.of Tryz.func138 rfl (by kernel_rfl) rfl ?_
  simp only [Tryz.ntmps138,St.startI,argT];refine au1 (kX6 @hj @l1 @l2 @q1 @q2 @q3) ?_;intros;apply wr;refine cn1 (hg) (kX3 @hj @l1 @l2) ?_;refine au ?_;intros;apply wr;refine gT11 (kX2 @q4 @q5) rfl @q1 ?_;intros;apply wr;refine zAA ?_;simp [q1];refine ⟨by omega,by simp [lookO,l1,l2,hj],fun i h1 h2=>?_⟩
  have a1:¬ i=nx:=by omega
  have a2:¬ i=nx+1:=by omega
  simp [lookO,a1,a2]
theorem zFh {nx:Nat} {ob:List (Nat × Option Ob)} (j:Nat) (d:DskD) (l:List Int) (e:EvD) (hf:W32 d.opFrame) (hl:OkW l) (hj:lookO ob j=some (memO l)) (hjn:j<nx) :
  InlC Tryz.prog 137 [.st d.row,.own j,.st e.row] nx ob fun r nx' ob'=>r=.tup [.st (zAM d l e).1.row,.bool (zAM d l e).2.2]∧zBm nx ob j (zAM d l e).2.1 nx' ob':=by
 have l1:¬ j=nx:=by omega
 have l2:¬ j=nx+1:=by omega
 have l3:¬ j=nx+1+1:=by omega
 have hg:=zCP l d.opFrame hf;have hp:=zAb l;by_cases hc:d.state≠1∨e.kind≠4∨1<e.n
 ·have hE:zAM d l e=(d,l,false):=by unfold zAM;rw [if_pos hc]
  rw [hE];by_cases q1:d.state=1
  ·by_cases q2:e.kind=4
   ·have q3:1<e.n:=by omega
    refine InlC.of Tryz.func137 rfl (by kernel_rfl) rfl ?_
    simp only [Tryz.ntmps137,St.startI,argT];refine au1 (kX7 @hj @l1 @l2 @l3 @q1 @q2 @q3) ?_;intros;apply wr;refine gT10 (kX3 @q1 @q2 @q3) rfl ?_;intros;apply wr;refine zAA ?_;simp [hE];refine ⟨by omega,by simp [lookO,l1,l2,l3,hj],fun i h1 h2=>?_⟩
    have a1:¬ i=nx:=by omega
    have a2:¬ i=nx+1:=by omega
    have a3:¬ i=nx+1+1:=by omega
    simp [lookO,a1,a2,a3]
   refine InlC.of Tryz.func137 rfl (by kernel_rfl) rfl ?_
   simp only [Tryz.ntmps137,St.startI,argT];refine au1 (kX6 @hj @l1 @l2 @l3 @q1 @q2) ?_;intros;apply wr;refine gT10 (kX2 @q1 @q2) rfl ?_;intros;apply wr;refine zAA ?_;simp [hE];refine ⟨by omega,by simp [lookO,l1,l2,l3,hj],fun i h1 h2=>?_⟩
   have a1:¬ i=nx:=by omega
   have a2:¬ i=nx+1:=by omega
   have a3:¬ i=nx+1+1:=by omega
   simp [lookO,a1,a2,a3]
  refine InlC.of Tryz.func137 rfl (by kernel_rfl) rfl ?_
  simp only [Tryz.ntmps137,St.startI,argT];refine au1 (kX5 @hj @l1 @l2 @l3 @q1) ?_;intros;apply wr;refine gT10 @q1 rfl ?_;intros;apply wr;refine zAA ?_;simp [hE];refine ⟨by omega,by simp [lookO,l1,l2,l3,hj],fun i h1 h2=>?_⟩
  have a1:¬ i=nx:=by omega
  have a2:¬ i=nx+1:=by omega
  have a3:¬ i=nx+1+1:=by omega
  simp [lookO,a1,a2,a3]
 obtain ⟨c1,c2,c3⟩:d.state=1∧e.kind=4∧¬ 1<e.n:=by omega
 refine InlC.of Tryz.func137 rfl (by kernel_rfl) rfl ?_
 simp only [Tryz.ntmps137,St.startI,argT];refine au1 (kX4 @hj @l1 @l2 @l3) ?_;intros;apply wr;refine gF10 (kX3 @c1 @c2 @c3) rfl ?_;intros;apply wr;rename_i kx hkx;refine .inl ⟨fun hb=>?_,fun hb=>?_⟩
 ·obtain ⟨b1,b2,b3⟩:e.n=1∧d.cmd=1∧e.data.length=128:=by simp at hb;omega
  simp [b1,b2,b3,l1,l2,l3,hj];refine cn1 (hg) (kX4 @hj @l1 @l2 @l3) ?_;refine au1 (kX3 @b1 @b2 @b3) ?_;intros;apply wr;by_cases hpg:d.opFrame<pagesD l
  ·have hE:zAM d l e=(doneD d e.n,zBV l d.opFrame e.data,true):=by
    unfold zAM;rw [if_neg (by omega),if_pos ⟨b1,b2⟩,if_pos ⟨hpg,b3⟩]
   have hF:=zJY hl hf.1 hpg e.data (by omega)
   have hB:=zPn hf.1 hpg;rw [b3,List.drop_eq_nil_of_le (by omega),List.append_nil] at hF
   have w1:IntKind.i64.wrap d.opFrame=d.opFrame:=zAB (by have:=hf.1;omega) (by have:=hf.2;omega)
   refine gF10 @hpg rfl ?_;intros;apply wr;refine gT01 rfl @w1 ?_;intros;apply wr
   first|refine .inr ((zEP j l d.opFrame e.data hl hf.1 hpg (by omega) (by simp [lookO,l1,l2,l3,hj])).mono fun r nx' ob' hp=>?_)|refine (zEP j l d.opFrame e.data hl hf.1 hpg (by omega) (by simp [lookO,l1,l2,l3,hj])).mono fun r nx' ob' hp=>?_|refine ((zEP j l d.opFrame e.data hl hf.1 hpg (by omega) (by simp [lookO,l1,l2,l3,hj])).mono fun r nx' ob' hp=>?_).2
   simp only [aftI];obtain ⟨rfl,rfl,k1,k2⟩:=hp;rw [b3,hF] at k1;have y1:=k2 nx (fun q=>l1 q.symm)
   have y2:=k2 (nx+1) (fun q=>l2 q.symm)
   have y3:=k2 (nx+1+1) (fun q=>l3 q.symm)
   simp [lookO] at y1 y2 y3;simp;refine au1 (kX4 @y1 @y2 @y3 @b1) ?_;intros;apply wr;refine gT01 rfl (kX3 @y1 @y2 @y3) ?_;intros;apply wr;refine zAA ?_;simp [hE,doneD,b1];refine ⟨by omega,by simp [lookO,l1,l2,l3,k1],fun i h1 h2=>?_⟩
   have a1:¬ i=nx:=by omega
   have a2:¬ i=nx+1:=by omega
   have a3:¬ i=nx+1+1:=by omega
   have ee:=k2 i h2;simp [lookO,a1,a2,a3] at ee;simp [lookO,a1,a2,a3,ee]
  have hE:zAM d l e=(d,l,false):=by
   unfold zAM;rw [if_neg (by omega),if_pos ⟨b1,b2⟩,if_neg (fun q=>hpg q.1)]
  refine gT10 @hpg rfl ?_;intros;apply wr;refine zAA ?_;simp [hE];refine ⟨by omega,by simp [lookO,l1,l2,l3,hj],fun i h1 h2=>?_⟩
  have a1:¬ i=nx:=by omega
  have a2:¬ i=nx+1:=by omega
  have a3:¬ i=nx+1+1:=by omega
  simp [lookO,a1,a2,a3]
 by_cases h128:e.data.length=128
 ·have b1:¬ (e.n=1∧d.cmd=1):=by
   intro z
   simp [z.1,z.2,h128] at hb
  have b2:(e.n==1&&d.cmd==1)=false:=by simpa using b1
  have hE:zAM d l e=(d,l,false):=by
   unfold zAM;rw [if_neg (by omega),if_neg b1,if_neg (by intro q;rw [q] at h128;simp at h128)]
  simp [St.put,b2,h128,l1,l2,l3,hj];refine hkx _ ?_;refine gT00 rfl ?_;intros;apply wr;refine zAA ?_;simp [hE];refine ⟨by omega,by simp [lookO,l1,l2,l3,hj],fun i h1 h2=>?_⟩
  have a1:¬ i=nx:=by omega
  have a2:¬ i=nx+1:=by omega
  have a3:¬ i=nx+1+1:=by omega
  simp [lookO,a1,a2,a3]
 have b3:¬ (e.data.length:Int)=128:=by omega
 have b4:((e.data.length:Int) != 128)=true:=by simp [b3]
 simp [St.put,b4,l1,l2,l3,hj];refine ⟨fun q=>by by_cases z:e.n=1<;>simp [z] at q ⊢;exact q,hkx _ ?_⟩
 by_cases hr:e.n=1∧d.cmd=1
 ·have hE:zAM d l e=(d,l,false):=by
   unfold zAM;rw [if_neg (by omega),if_pos hr,if_neg (fun q=>h128 q.2)]
  refine gT10 (kX2 @hr.1 @hr.2) rfl ?_;intros;apply wr;refine zAA ?_;simp [hE];refine ⟨by omega,by simp [lookO,l1,l2,l3,hj],fun i h1 h2=>?_⟩
  have a1:¬ i=nx:=by omega
  have a2:¬ i=nx+1:=by omega
  have a3:¬ i=nx+1+1:=by omega
  simp [lookO,a1,a2,a3]
 have hr2:(e.n==1&&d.cmd==1)=false:=by simpa using hr
 have hr3:(!e.n==1||!d.cmd==1)=true:=by
  cases q1:e.n==1<;>cases q2:d.cmd==1<;>simp [q1,q2] at hr2 ⊢
 by_cases hd:e.data=[]
 ·have hE:zAM d l e=(doneD d e.n,l,true):=by
   unfold zAM;rw [if_neg (by omega),if_neg hr,if_pos hd]
  have hz:¬ 0<e.data.length:=by rw [hd];simp
  simp only [hr2,hr3];refine gF10 @hz rfl ?_;intros;apply wr;refine gF00 rfl ?_;intros;apply wr;by_cases hn:e.n=1
  ·refine gT10 @hn rfl ?_;intros;apply wr;refine zAA ?_;simp [hE,doneD,hn];refine ⟨by omega,by simp [lookO,l1,l2,l3,hj],fun i h1 h2=>?_⟩
   have a1:¬ i=nx:=by omega
   have a2:¬ i=nx+1:=by omega
   have a3:¬ i=nx+1+1:=by omega
   simp [lookO,a1,a2,a3]
  refine gF10 @hn rfl ?_;intros;apply wr;refine zAA ?_;simp [hE,doneD,hn];refine ⟨by omega,by simp [lookO,l1,l2,l3,hj],fun i h1 h2=>?_⟩
  have a1:¬ i=nx:=by omega
  have a2:¬ i=nx+1:=by omega
  have a3:¬ i=nx+1+1:=by omega
  simp [lookO,a1,a2,a3]
 have hE:zAM d l e=(d,l,false):=by
  unfold zAM;rw [if_neg (by omega),if_neg hr,if_neg hd]
 have hz:0<e.data.length:=by cases q:e.data with|nil=>exact absurd q hd|cons a b=>simp
 simp only [hr2,hr3];refine gT10 @hz rfl ?_;intros;apply wr;refine zAA ?_;simp [hE];refine ⟨by omega,by simp [lookO,l1,l2,l3,hj],fun i h1 h2=>?_⟩
 have a1:¬ i=nx:=by omega
 have a2:¬ i=nx+1:=by omega
 have a3:¬ i=nx+1+1:=by omega
 simp [lookO,a1,a2,a3]
theorem zWU (i:Nat) (h:i<32):zDP zB3 i=0:=by
 have hz:∀ k:Nat,zB3.getD k 0=0:=fun k=>by
  rw [zWX,zB3,List.getElem?_replicate];split<;>rfl
 unfold zDP;simp only [hz];rfl
abbrev balO (t g:Int):Ob:=⟨40,2,true,false,[[uv t,uv g]]⟩
theorem zS6 {nx:Nat} {ob:List (Nat × Option Ob)} (j:Nat) (t g:Int) (l:List Int) (port v:Int) (hg:W32 g) (hv:W32 v) (hp:port=10∨port=11) (hj:lookO ob j=some (memO l)) (hjn:j<nx) :
  InlC Tryz.prog 204 [.st [uv t,uv g],.own j,iv port,uv v] nx ob fun r nx' ob'=>r=.st [uv t,uv (zAh g l port v).1]∧zBm nx ob j (zAh g l port v).2 nx' ob':=by
 have l1:¬ j=nx:=by omega
 have l2:¬ j=nx+1:=by omega
 have hpg:=zCP l v hv;have hpr:=zAb l;have hv0:=hv.1;rcases hp with rfl|rfl
 ·by_cases hq:v<pagesD l
  ·have h32:v<32:=by omega
   have hmin:min v.toNat 32=v.toNat:=by omega
   have e1:g.fdiv (2 ^ v.toNat)=g / 2 ^ v.toNat:=zWZ _ (zWm (zWo (by decide)))
   have e2:iand .u32 (g / 2 ^ v.toNat) 1=g / 2 ^ v.toNat % 2:=zAY (g / 2 ^ v.toNat) 1 2 (by omega) (by decide)
   have e3:IntKind.u32.wrap (2 ^ v.toNat)=2 ^ v.toNat:=by
    have:=zVZ hv0 h32;exact u32_in this.1 this.2
   refine InlC.of Tryz.func204 rfl (by kernel_rfl) rfl ?_
   simp only [Tryz.ntmps204,St.startI,argT];refine au1 (kX3 @hj @l1 @l2) ?_;intros;apply wr;refine cn1 (hpg) (kX3 @hj @l1 @l2) ?_;refine au1 (kX4 @hq @hmin @e1 @e2) ?_;intros;apply wr;by_cases hb:g / 2 ^ v.toNat % 2=0
   ·have hE:zAh g l 10 v=(ior .u32 g (2 ^ v.toNat),zBV l v zB3):=by
     unfold zAh;rw [if_neg (by omega),if_pos rfl,if_pos ⟨hq,hb⟩]
    refine gT11 (kX5 @hb @hq @hmin @e1 @e2) rfl (kX2 @hmin @e3) ?_;intros;apply wr;refine zAL (32+1) ?_;refine zEa (fun k st=>∃ (i:Nat) (T:List (Nat × V)) (o:List (Nat × Option Ob)),i+k=32∧st=⟨57,T,nx+1+1+1,o,nx⟩∧(lkT T 9=.int .i64 i∧lkT T 1=.own j∧lkT T 3=uv v∧lkT T 4=.ptr nx 2 0 0∧lkT T 8=.ptr (nx+1) 2 0 0)∧(lookO o nx=some (balO t (ior .u32 g (2 ^ v.toNat)))∧lookO o (nx+1)=some (balO 0 0))∧lookO o j=some (memO (putW l (v*32).toNat zB3 i))∧∀ q,q<nx→q≠j→lookO o q=lookO ob q) ?_ _ _ ⟨0,_,_,by simp,rfl,by simp [lkT],by simp [lookO],by simp [lookO,l1,l2,hj],fun q h1 h2=>by simp [lookO,show ¬ q=nx by omega,show ¬ q=nx+1 by omega]⟩
    rintro k st ⟨i,T,o,hk,rfl,⟨t9,t1,t3,t4,t8⟩,⟨o1,o2⟩,ho,hq2⟩ Kl hKl
    refine zH3 [(9,.int .i64 i),(1,.own j),(3,uv v),(4,.ptr nx 2 0 0),(8,.ptr (nx+1) 2 0 0)] (by simp [t9,t1,t3,t4,t8]) ?_
    simp;have hl2:=zE6 l (v*32).toNat zB3 i;have hpl:=zBo (l:=l) (by omega)
    have n1:¬ nx=j:=fun q=>l1 q.symm
    have n2:¬ nx+1=j:=fun q=>l2 q.symm
    have w1:IntKind.i64.wrap v=v:=zAB (by omega) (by omega)
    have w2:IntKind.i64.wrap (v*32)=v*32:=zAB (by omega) (by omega)
    have w3:IntKind.i64.wrap (v*32+i)=v*32+i:=zAB (by omega) (by omega)
    have w4:IntKind.i64.wrap ((i:Int)+1)=((i+1:Nat):Int):=by rw [zAB (by omega) (by omega)];omega
    have hil:=zAN .u32 (putW l (v*32).toNat zB3 i);refine au ?_;intros;apply wr;by_cases hi:i<32
    ·have c1:(i:Int)<32:=by omega
     have c2:(0:Int)≤v*32+i:=by omega
     have c3:v*32+i<(l.length:Int):=by omega
     have hnx:(putW l (v*32).toNat zB3 i).set (v*32+i).toNat 0=putW l (v*32).toNat zB3 (i+1):=by
      rw [putW,zWU i hi];congr 1;omega
     obtain ⟨w,hw⟩:∃ w,(putW l (v*32).toNat zB3 i)[(v*32+i).toNat]? =some w:=⟨_,zWa (by rw [hl2];omega)⟩
     have g1:=zBU (k:=.u32) hw;have g2:∀ h,(ints .u32 (putW l (v*32).toNat zB3 i))[(v*32+i).toNat]'h=[uv w]:=fun h=>by rw [zWa h] at g1;simpa using g1
     refine gT11 @c1 rfl (kX12 @ho @w1 @w2 @w3 @w4 @hil @hl2 @c2 @c3 @g2 @ints_set @hnx) ?_;intros;apply wr;refine hKl (k-1) _ (by omega) ⟨i+1,_,_,by omega,rfl,by simp [lkT],by simp [lookO,o1,o2,n1,n2],by simp [lookO],fun q h1 h2=>by simp [lookO,h2,hq2 q h1 h2]⟩
    have:i=32:=by omega
    subst this;refine gF01 rfl (kX3 @o1 @o2 @ho) ?_;intros;apply wr;refine zAA ?_;simp [hE];refine ⟨by omega,by simp [lookO,l1,l2,ho];rfl,fun i h1 h2=>?_⟩
    have a1:¬ i=nx:=by omega
    have a2:¬ i=nx+1:=by omega
    simp [lookO,a1,a2,hq2 i h1 h2]
   have hE:zAh g l 10 v=(g,l):=by
    unfold zAh;rw [if_neg (by omega),if_pos rfl,if_neg (fun z=>hb z.2)]
   refine gF10 (kX5 @hb @hq @hmin @e1 @e2) rfl ?_;intros;apply wr;refine gF00 rfl ?_;intros;apply wr;refine zAA ?_;simp [hE];refine ⟨by omega,by simp [lookO,l1,l2,hj],fun i h1 h2=>?_⟩
   have a1:¬ i=nx:=by omega
   have a2:¬ i=nx+1:=by omega
   simp [lookO,a1,a2]
  have hE:zAh g l 10 v=(g,l):=by
   unfold zAh;split
   ·rfl
   rw [if_pos rfl,if_neg (fun z=>hq z.1)]
  refine InlC.of Tryz.func204 rfl (by kernel_rfl) rfl ?_
  simp only [Tryz.ntmps204,St.startI,argT];refine au1 (kX3 @hj @l1 @l2) ?_;intros;apply wr;refine cn1 (hpg) (kX3 @hj @l1 @l2) ?_;refine au1 @hq ?_;intros;apply wr;refine gF10 @hq rfl ?_;intros;apply wr;refine gF00 rfl ?_;intros;apply wr;refine zAA ?_;simp [hE];refine ⟨by omega,by simp [lookO,l1,l2,hj],fun i h1 h2=>?_⟩
  have a1:¬ i=nx:=by omega
  have a2:¬ i=nx+1:=by omega
  simp [lookO,a1,a2]
 by_cases hq:v<32
 ·have hmin:min v.toNat 32=v.toNat:=by omega
  have e3:IntKind.u32.wrap (2 ^ v.toNat)=2 ^ v.toNat:=by
   have:=zVZ hv0 hq;exact u32_in this.1 this.2
  have hE:zAh g l 11 v=(zAV .u32 g (2 ^ v.toNat),l):=by
   unfold zAh;rw [if_neg (by omega),if_neg (by omega),if_pos rfl]
  refine InlC.of Tryz.func204 rfl (by kernel_rfl) rfl ?_
  simp only [Tryz.ntmps204,St.startI,argT];refine au1 (kX3 @hj @l1 @l2) ?_;intros;apply wr;refine gF00 rfl ?_;intros;apply wr;refine gT11 @hq rfl (kX2 @hmin @e3) ?_;intros;apply wr;refine zAA ?_;simp [hE];refine ⟨by omega,by simp [lookO,l1,l2,hj],fun i h1 h2=>?_⟩
  have a1:¬ i=nx:=by omega
  have a2:¬ i=nx+1:=by omega
  simp [lookO,a1,a2]
 have hE:zAh g l 11 v=(g,l):=by unfold zAh;rw [if_pos (by omega)]
 refine InlC.of Tryz.func204 rfl (by kernel_rfl) rfl ?_
 simp only [Tryz.ntmps204,St.startI,argT];refine au1 (kX3 @hj @l1 @l2) ?_;intros;apply wr;refine gF00 rfl ?_;intros;apply wr;refine gF10 @hq rfl ?_;intros;apply wr;refine zAA ?_;simp [hE];refine ⟨by omega,by simp [lookO,l1,l2,hj],fun i h1 h2=>?_⟩
 have a1:¬ i=nx:=by omega
 have a2:¬ i=nx+1:=by omega
 simp [lookO,a1,a2]
end Go.Proofs.YtoondlebmacanaaGreat
end
