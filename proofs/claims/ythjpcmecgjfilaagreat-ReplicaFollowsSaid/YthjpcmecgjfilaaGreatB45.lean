/- A part of the proof of ReplicaFollows. -/
import Derived.Test.YthjpcmecgjfilaaGreatB10
import Derived.Test.YthjpcmecgjfilaaGreatB28
import Derived.Test.YthjpcmecgjfilaaGreatB43
import Derived.Test.YthjpcmecgjfilaaGreatB44
set_option linter.unusedSimpArgs false
set_option linter.unusedVariables false
set_option maxHeartbeats 16000000
set_option maxRecDepth 100000
section
namespace Go.Proofs.YthjpcmecgjfilaaGreat
open Go.Ab Go.RowKit Tryz
theorem zKh:∀ (k n i x:Nat) (r:Str),i+k=10->n<2 ^ (64-7*i)->(0<i->0<n)->zHS i x (putu k n++r)=some (x+n*2 ^ (7*i),i+(putu k n).length)
 | 0,n,i,x,r,hi,hn,hp=>by
  obtain rfl:i=10:=by omega
  have:=hp (by decide)
  simp at hn;omega
 | k+1,n,i,x,r,hi,hn,hp=>by
  have h9:i=9->n<2:=by rintro rfl;simpa using hn
  by_cases hs:n<128
  ·rw [zIH hs,zWd,zWj,zCc,zE9 (by omega),if_neg (by omega),if_neg (by omega),if_neg (by omega),if_neg]
   ·rfl
   rintro ⟨h1,h2⟩
   have h3:(UInt8.ofNat n).toNat=0:=by rw [h1];rfl
   rw [zE9 (by omega)] at h3
   have:=hp h2;omega
  have hst:putu (k+1) n=UInt8.ofNat (n % 128+128)::putu k (n / 128):=by rw [putu,if_neg hs]
  have hi8:i<=8:=by
   have:=h9;omega
  have hn2:n / 128<2 ^ (64-7*(i+1)):=by
   rw [Nat.div_lt_iff_lt_mul (by decide),show (128:Nat)=2 ^ 7 from rfl,<- Nat.pow_add,show 64-7*(i+1)+7=64-7*i by omega];exact hn
  rw [hst,zWd,zCc,zE9 (by omega),if_neg (by omega),if_neg (by omega),if_pos (by omega),zKh k (n / 128) (i+1) _ r (by omega) hn2 (fun _=>by omega)]
  have e:(n % 128+128) % 128=n % 128:=by omega
  have hP:2 ^ (7*(i+1))=128*2 ^ (7*i):=by rw [show 7*(i+1)=7*i+7 by omega,Nat.pow_add,Nat.mul_comm]
  rw [e,hP];generalize 2 ^ (7*i)=P;have hd:n % 128*P+n / 128*(128*P)=n*P:=by
   rw [<- Nat.mul_assoc,<- zWn];congr 1;omega
  simp only [zWU,zWG,Prod.mk.injEq];omega
theorem zHR (n:Int) (h:L64 n) (r:Str):zKg (putD n++r)=some (n.toNat,(putD n).length):=by
 have h1:=h.1;have h2:=h.2;unfold zKg putD;rw [zKh 10 n.toNat 0 0 r rfl (by simp;omega) (fun z=>by omega)]
 simp
theorem zGK (n:Int) (h:L64 n) (r:Str):numD (putD n++r) false=(n.toNat,r,false):=by
 unfold numD;rw [if_neg (by decide),zHR n h r]
 simp
theorem zMm (b r:Str) (hb:b.length<=1000000):rdtD (putD b.length++(b++r)) false=(b,r,false):=by
 have hn:=zGK b.length ⟨by omega,by omega⟩ (b++r)
 unfold rdtD;rw [hn];simp
theorem zGM (n:Int) (h:L64 n) (b:Str) (hb:b.length<=500000):zG3 (slD n b)=(n.toNat,b,0):=by
 have e:slD n b=putD n++(putD b.length++(b++sumG (hshD hsh0 (slB n b)))):=by simp [slD,slB]
 have hl:=zE6 (hshD hsh0 (slB n b));have et:(slD n b).take ((slD n b).length-8)=slB n b:=by
  unfold slD;rw [zWL,hl,Nat.add_sub_cancel,List.take_left'];rfl
 unfold zG3 zI0;rw [et];rw [e,zGK n h];simp only;rw [zMm b _ (by omega)]
 simp [hl]
def zLO (p:Str) (mark:UInt8):Nat × Str × Bool:=if (zG3 p).2.2=0 then (match (zG3 p).2.1 with
 | []=>(0,[],false)
 | c::t=>if c=mark then ((zG3 p).1,t,true) else (0,[],false)) else (0,[],false)
def zFu (x:Nat × Str × Bool):V:=.tup [lv x.1,.str x.2.1,.bool x.2.2]
theorem zPp (s:Str):(zG3 s).2.1.length<=s.length:=by
 have h:∀ (q:Nat) (b r:Str) (bad:Bool),(zI0 s q b r bad).2.1.length<=b.length:=by
  intro q b r bad
  unfold zI0;split
  ·simp
  split<;>simp
 refine zWg (h _ _ _ _) ?_;have h1:=(zFW s false).1;unfold rdtD;have h2:=(zFW (numD s false).2.1 (numD s false).2.2).1;split
 ·simp
 simp only [zWS];omega
theorem zMY (p:Str) (mark:UInt8) (hs:p.length<=1000000):zAD prog 141 [.str p,.int .u8 (mark.toNat:Int)] (zFu (zLO p mark)):=by
 have ho:=zLP p hs;have hl:=zPp p;obtain ⟨q,body,e,hO⟩:∃ q b e,zG3 p=(q,b,e):=⟨_,_,_,rfl⟩;have hD:zLO p mark=if e=0 then (match body with
  | []=>(0,[],false)
  | c::t=>if c=mark then (q,t,true) else (0,[],false)) else (0,[],false):=by unfold zLO;rw [hO]
 rw [hO] at ho hl;simp only [zKJ] at ho hl;by_cases he:e=0
 ·subst he;rw [if_pos rfl] at hD;cases body with
  | nil =>
   refine sX func141 ntmps141 ?_;intros;apply wr;refine cX (ho) ?_;intros;apply wr;refine gT00 rfl ?_;intros;apply wr;refine zAB ?_;simp [hD,zFu]
  | cons c t =>
   simp only at hD;simp only [zWU] at hl;by_cases hc:c=mark
   ·have z1:((c.toNat:Int) != (mark.toNat:Int))=false:=by rw [hc];simp
    refine sX func141 ntmps141 ?_;intros;apply wr;refine cX (ho) ?_;intros;apply wr;refine gF10 (kX2 @z1 @hc) rfl ?_;intros;apply wr;refine zAG 6 [0,0,2,1,15,31] [(4,([[],[],[1],[0]],[])),(1,([],[])),(1,([],[]))] ?_;refine af ?_;intros;apply wr
    all_goals ((refine af ?_);intros;(apply wr))
    refine zAB ?_;simp [hD,zFu,hc]
   have z0:¬ c.toNat=mark.toNat:=fun z=>hc (UInt8.toNat_inj.1 z)
   have z2:¬ (c.toNat:Int)=mark.toNat:=by omega
   have z1:((c.toNat:Int) != (mark.toNat:Int))=true:=by simpa using z2
   refine sX func141 ntmps141 ?_;intros;apply wr;refine cXf (ho) ?_;intros;apply wr;refine zDK (kX4 @z1 @z0 @z2 @hc) rfl ?_;intros;apply wr;refine zAB ?_;simp [hD,zFu,hc]
 have z1:(e != 0)=true:=by simpa using he
 rw [if_neg he] at hD;refine sX func141 ntmps141 ?_;intros;apply wr;refine cXf (ho) ?_;intros;apply wr;refine zDK (kX2 @z1 @he) rfl ?_;intros;apply wr;refine zAB ?_;simp [hD,zFu]
theorem zSC (n:Int) (h:L64 n) (c:UInt8) (b:Str) (hb:b.length<=400000):zLO (slD n (c::b)) c=(n.toNat,b,true):=by
 unfold zLO;rw [zGM n h (c::b) (by simp;omega)]
 simp
def zCz (g:SegD):Str × Int:=if (zAZ g).2=0 then (putD g.from_++(putD g.known++zET (zAZ g).1),0) else ([],(zAZ g).2)
theorem zDA (g:SegD):(zAZ g).1.length<=65536:=by
 unfold zAZ;split
 ·simp
 unfold logD;split
 ·rename_i h;unfold zCq at h;split at h
  ·cases h
  split at h
  ·cases h
  split at h
  ·cases h
  split at h
  ·cases h
  show (putD _++zBn _ _).length<=65536
  omega
 simp
theorem zUX (g:SegD) (h:OkG g):zAD prog 82 [.st g.row] (.tup [.str (zCz g).1,iv (zCz g).2]):=by
 have hpl:(zET (zAZ g).1).length<=1000000:=by have:=zDp (zAZ g).1;have:=zDA g;omega
 have hl:=zGh g h;have hc:=zUM (zAZ g).1 (by have:=zDA g;omega)
 have p1:=zDq g.from_ h.f;have p2:=zDq g.known h.k;have l1:=zAS g.from_;have l2:=zAS g.known;have hD:zCz g=if (zAZ g).2=0 then (putD g.from_++(putD g.known++zET (zAZ g).1),0) else ([],(zAZ g).2):=rfl
 generalize (zAZ g).1=x at *
 generalize (zAZ g).2=e at *
 by_cases he:e=0
 ·subst he;rw [if_pos rfl] at hD;refine sX func82 ntmps82 ?_;intros;apply wr;refine cX (hl) ?_;intros;apply wr;refine gF00 rfl ?_;intros;apply wr;refine zAG 12 [0,1,3,0,8,31,63,0,191,511,1023,2047] [(9,([[],[0],[0,1],[],[3],[0,1,2,3,4],[0,1,2,3,4,5],[],[0,1,2,3,4,5,7]],[(4,2)])),(1,([],[])),(1,([],[])),(1,([],[]))] ?_;refine af ?_;intros;apply wr;refine cXf (p1) ?_;intros;apply wr;refine cXf (p2) ?_;intros;apply wr;refine cXf (hc) ?_;intros;apply wr;refine zAB ?_;simp [hD]
 have z1:(e != 0)=true:=by simpa using he
 rw [if_neg he] at hD;refine sX func82 ntmps82 ?_;intros;apply wr;refine cXf (hl) ?_;intros;apply wr;refine zDK (kX2 @z1 @he) rfl ?_;intros;apply wr;refine zAB ?_;simp [hD]
theorem zQo (s:Str) (most:Int) (hs:s.length<=100000) (h1:(s.length:Int)<=most) (h2:most<=1000000):zAD prog 192 [.str (zET s),iv most] (.tup [.str s,iv 0]):=by
 obtain ⟨g,hg⟩:=zQn s;exact unp_ok _ _ _ g hg (by have:=zDp s;omega) h1 h2
theorem zSm (n:Int) (h0:0<=n) (h1:n<=4294967295) (r:Str):rwdD (putD n++r) false=(n.toNat,r,false):=by
 unfold rwdD;rw [zGK n ⟨h0,by omega⟩ r]
 simp only;rw [if_neg (by omega)]
def RdP (nx:Nat) (ob:List (Nat × Option Ob)) (id:Nat) (r:Str) (nx':Nat) (ob':List (Nat × Option Ob)):Prop:=lookO ob' id=some (rdrO r false)/\nx<=nx'/\∀ q,q<nx->q≠id->lookO ob' q=lookO ob q
theorem zFV {nx:Nat} {ob:List (Nat × Option Ob)} (id:Nat) (n:Int) (r:Str) (h:L64 n) (hs:(putD n++r).length<=1000000) (hob:lookO ob id=some (rdrO (putD n++r) false)) (hn:id<nx) :
  InlC prog 190 [.ptr id 2 0 0] nx ob fun v nx' ob'=>v=lv n/\RdP nx ob id r nx' ob' :=
 (zMW id _ false hs hob hn).mono fun v nx' ob' ⟨h1,h2⟩=>by
  rw [zGK n h r] at h1 h2;have:=h.1;exact ⟨by rw [h1];simp only;congr;omega,h2⟩
theorem zAm {nx:Nat} {ob:List (Nat × Option Ob)} (id:Nat) (n:Int) (r:Str) (h0:0<=n) (h1:n<=4294967295) (hs:(putD n++r).length<=1000000) (hob:lookO ob id=some (rdrO (putD n++r) false)) (hn:id<nx) :
  InlC prog 314 [.ptr id 2 0 0] nx ob fun v nx' ob'=>v=uv n/\RdP nx ob id r nx' ob' :=
 (zSn id _ false hs hob hn).mono fun v nx' ob' ⟨h2,h3⟩=>by
  rw [zSm n h0 h1 r] at h2 h3;exact ⟨by rw [h2];simp only;congr;omega,h3⟩
theorem zFO {nx:Nat} {ob:List (Nat × Option Ob)} (id:Nat) (b r:Str) (hs:(putD b.length++(b++r)).length<=1000000) (hob:lookO ob id=some (rdrO (putD b.length++(b++r)) false)) (hn:id<nx) :
  InlC prog 191 [.ptr id 2 0 0] nx ob fun v nx' ob'=>v=.str b/\RdP nx ob id r nx' ob' :=
 (zMl id _ false hs hob hn).mono fun v nx' ob' ⟨h2,h3⟩=>by
  rw [zMm b r (by simp at hs;omega)] at h2 h3
  exact ⟨h2,h3⟩
theorem zTO:zAD prog 315 [] (uv 0):=by
 refine sZ func315 ntmps315 ?_;exact wx trivial trivial
theorem zL7:zAD prog 316 [] (.str []):=by
 refine sZ func316 ntmps316 ?_;exact wx trivial trivial
theorem zOv {nx:Nat} {ob:List (Nat × Option Ob)} (id:Nat) (n:Int) (hn:W32 n) (r:Str) (hs:(putD 1++(putD n++r)).length<=900000) (hob:lookO ob id=some (rdrO (putD 1++(putD n++r)) false)) (hid:id<nx) :
  InlC prog 257 [.ptr id 2 0 0] nx ob fun v nx' ob'=>v=.st [iv 1,uv n,.str []]/\RdP nx ob id r nx' ob':=by
 have q1:¬ id=nx:=by omega
 have q2:¬ nx=id:=by omega
 have wk:IntKind.i64.wrap 1=1:=zAA (by decide) (by decide)
 have n0:=hn.1;have n1:=hn.2;refine InlC.of func257 rfl (by kernel_rfl) rfl ?_
 simp only [ntmps257,St.startI,argT];refine au1 @hob ?_;intros;apply wr
 first|refine .inr ((zAm id 1 (putD n++r) (by decide) (by decide) (by simp at hs ⊢;omega) (by simp [lookO,q1,hob]) (by omega)).mono fun r nx' ob' hp=>?_)|refine (zAm id 1 (putD n++r) (by decide) (by decide) (by simp at hs ⊢;omega) (by simp [lookO,q1,hob]) (by omega)).mono fun r nx' ob' hp=>?_|refine ((zAm id 1 (putD n++r) (by decide) (by decide) (by simp at hs ⊢;omega) (by simp [lookO,q1,hob]) (by omega)).mono fun r nx' ob' hp=>?_).2
 simp only [aftI];obtain ⟨rfl,h1,h2,h3⟩:=hp
 rename Nat=>x1
 rename List (Nat × Option Ob)=>o1
 have g1:=h3 nx (by omega) q2
 simp only [lookO,if_true] at g1;have q3:¬ id=x1:=by omega
 have q4:¬ x1=id:=by omega
 have q5:¬ nx=x1:=by omega
 have q6:¬ x1=nx:=by omega
 simp;refine au1 (kX9 @h1 @g1 @q1 @q2 @q3 @q4 @q5 @q6 @wk) ?_;intros;apply wr;refine gT01 rfl (kX9 @h1 @g1 @q1 @q2 @q3 @q4 @q5 @q6 @wk) ?_;intros;apply wr;refine gT01 rfl (kX9 @h1 @g1 @q1 @q2 @q3 @q4 @q5 @q6 @wk) ?_;intros;apply wr
 first|refine .inr ((zAm id n (r) n0 (by omega) (by simp at hs ⊢;omega) (by simp [lookO,q3,h1]) (by omega)).mono fun r nx' ob' hp=>?_)|refine (zAm id n (r) n0 (by omega) (by simp at hs ⊢;omega) (by simp [lookO,q3,h1]) (by omega)).mono fun r nx' ob' hp=>?_|refine ((zAm id n (r) n0 (by omega) (by simp at hs ⊢;omega) (by simp [lookO,q3,h1]) (by omega)).mono fun r nx' ob' hp=>?_).2
 simp only [aftI];obtain ⟨rfl,i1,i2,i3⟩:=hp
 rename Nat=>x2
 rename List (Nat × Option Ob)=>o2
 have j1:=i3 nx (by omega) q2
 have j2:=i3 x1 (by omega) q4
 simp [lookO,q5,q6,g1] at j1 j2;have r1:¬ id=x2:=by omega
 simp [i1,j1,j2,q1,q2,q3,q4,q5,q6,wk];refine au1 (kX11 @i1 @j1 @j2 @q1 @q2 @q3 @q4 @q5 @q6 @wk @r1) ?_;intros;apply wr;refine cY (zL7) (kX10 @i1 @j1 @j2 @q1 @q2 @q3 @q4 @q5 @q6 @wk) ?_;intros;apply wr;refine zAB ?_;simp [lookO];refine ⟨by simp [lookO,q1,q3,i1],by omega,fun q z1 z2=>?_⟩
 have y1:¬ q=nx:=by omega
 have y2:¬ q=x1:=by omega
 have y3:=h3 q (by omega) z2
 have y4:=i3 q (by omega) z2
 simp [lookO,y1,y2] at y3 y4 ⊢;rw [y4,y3]
theorem zOx {nx:Nat} {ob:List (Nat × Option Ob)} (id:Nat) (n:Int) (hn:W32 n) (r:Str) (hs:(putD 3++(putD n++r)).length<=900000) (hob:lookO ob id=some (rdrO (putD 3++(putD n++r)) false)) (hid:id<nx) :
  InlC prog 257 [.ptr id 2 0 0] nx ob fun v nx' ob'=>v=.st [iv 3,uv n,.str []]/\RdP nx ob id r nx' ob':=by
 have q1:¬ id=nx:=by omega
 have q2:¬ nx=id:=by omega
 have wk:IntKind.i64.wrap 3=3:=zAA (by decide) (by decide)
 have n0:=hn.1;have n1:=hn.2;refine InlC.of func257 rfl (by kernel_rfl) rfl ?_
 simp only [ntmps257,St.startI,argT];refine au1 @hob ?_;intros;apply wr
 first|refine .inr ((zAm id 3 (putD n++r) (by decide) (by decide) (by simp at hs ⊢;omega) (by simp [lookO,q1,hob]) (by omega)).mono fun r nx' ob' hp=>?_)|refine (zAm id 3 (putD n++r) (by decide) (by decide) (by simp at hs ⊢;omega) (by simp [lookO,q1,hob]) (by omega)).mono fun r nx' ob' hp=>?_|refine ((zAm id 3 (putD n++r) (by decide) (by decide) (by simp at hs ⊢;omega) (by simp [lookO,q1,hob]) (by omega)).mono fun r nx' ob' hp=>?_).2
 simp only [aftI];obtain ⟨rfl,h1,h2,h3⟩:=hp
 rename Nat=>x1
 rename List (Nat × Option Ob)=>o1
 have g1:=h3 nx (by omega) q2
 simp only [lookO,if_true] at g1;have q3:¬ id=x1:=by omega
 have q4:¬ x1=id:=by omega
 have q5:¬ nx=x1:=by omega
 have q6:¬ x1=nx:=by omega
 simp;refine au1 (kX9 @h1 @g1 @q1 @q2 @q3 @q4 @q5 @q6 @wk) ?_;intros;apply wr;refine gF01 rfl (kX9 @h1 @g1 @q1 @q2 @q3 @q4 @q5 @q6 @wk) ?_;intros;apply wr;refine gT01 rfl (kX9 @h1 @g1 @q1 @q2 @q3 @q4 @q5 @q6 @wk) ?_;intros;apply wr;refine gT01 rfl (kX9 @h1 @g1 @q1 @q2 @q3 @q4 @q5 @q6 @wk) ?_;intros;apply wr
 first|refine .inr ((zAm id n (r) n0 (by omega) (by simp at hs ⊢;omega) (by simp [lookO,q3,h1]) (by omega)).mono fun r nx' ob' hp=>?_)|refine (zAm id n (r) n0 (by omega) (by simp at hs ⊢;omega) (by simp [lookO,q3,h1]) (by omega)).mono fun r nx' ob' hp=>?_|refine ((zAm id n (r) n0 (by omega) (by simp at hs ⊢;omega) (by simp [lookO,q3,h1]) (by omega)).mono fun r nx' ob' hp=>?_).2
 simp only [aftI];obtain ⟨rfl,i1,i2,i3⟩:=hp
 rename Nat=>x2
 rename List (Nat × Option Ob)=>o2
 have j1:=i3 nx (by omega) q2
 have j2:=i3 x1 (by omega) q4
 simp [lookO,q5,q6,g1] at j1 j2;have r1:¬ id=x2:=by omega
 simp [i1,j1,j2,q1,q2,q3,q4,q5,q6,wk];refine au1 (kX11 @i1 @j1 @j2 @q1 @q2 @q3 @q4 @q5 @q6 @wk @r1) ?_;intros;apply wr;refine cY (zL7) (kX10 @i1 @j1 @j2 @q1 @q2 @q3 @q4 @q5 @q6 @wk) ?_;intros;apply wr;refine zAB ?_;simp [lookO];refine ⟨by simp [lookO,q1,q3,i1],by omega,fun q z1 z2=>?_⟩
 have y1:¬ q=nx:=by omega
 have y2:¬ q=x1:=by omega
 have y3:=h3 q (by omega) z2
 have y4:=i3 q (by omega) z2
 simp [lookO,y1,y2] at y3 y4 ⊢;rw [y4,y3]
theorem zO0 {nx:Nat} {ob:List (Nat × Option Ob)} (id:Nat) (n:Int) (hn:W32 n) (r:Str) (hs:(putD 6++(putD n++r)).length<=900000) (hob:lookO ob id=some (rdrO (putD 6++(putD n++r)) false)) (hid:id<nx) :
  InlC prog 257 [.ptr id 2 0 0] nx ob fun v nx' ob'=>v=.st [iv 6,uv n,.str []]/\RdP nx ob id r nx' ob':=by
 have q1:¬ id=nx:=by omega
 have q2:¬ nx=id:=by omega
 have wk:IntKind.i64.wrap 6=6:=zAA (by decide) (by decide)
 have n0:=hn.1;have n1:=hn.2;refine InlC.of func257 rfl (by kernel_rfl) rfl ?_
 simp only [ntmps257,St.startI,argT];refine au1 @hob ?_;intros;apply wr
 first|refine .inr ((zAm id 6 (putD n++r) (by decide) (by decide) (by simp at hs ⊢;omega) (by simp [lookO,q1,hob]) (by omega)).mono fun r nx' ob' hp=>?_)|refine (zAm id 6 (putD n++r) (by decide) (by decide) (by simp at hs ⊢;omega) (by simp [lookO,q1,hob]) (by omega)).mono fun r nx' ob' hp=>?_|refine ((zAm id 6 (putD n++r) (by decide) (by decide) (by simp at hs ⊢;omega) (by simp [lookO,q1,hob]) (by omega)).mono fun r nx' ob' hp=>?_).2
 simp only [aftI];obtain ⟨rfl,h1,h2,h3⟩:=hp
 rename Nat=>x1
 rename List (Nat × Option Ob)=>o1
 have g1:=h3 nx (by omega) q2
 simp only [lookO,if_true] at g1;have q3:¬ id=x1:=by omega
 have q4:¬ x1=id:=by omega
 have q5:¬ nx=x1:=by omega
 have q6:¬ x1=nx:=by omega
 simp;refine au1 (kX9 @h1 @g1 @q1 @q2 @q3 @q4 @q5 @q6 @wk) ?_;intros;apply wr;refine gF01 rfl (kX9 @h1 @g1 @q1 @q2 @q3 @q4 @q5 @q6 @wk) ?_;intros;apply wr;refine gF01 rfl (kX9 @h1 @g1 @q1 @q2 @q3 @q4 @q5 @q6 @wk) ?_;intros;apply wr;refine gT01 rfl (kX9 @h1 @g1 @q1 @q2 @q3 @q4 @q5 @q6 @wk) ?_;intros;apply wr
 first|refine .inr ((zAm id n (r) n0 (by omega) (by simp at hs ⊢;omega) (by simp [lookO,q3,h1]) (by omega)).mono fun r nx' ob' hp=>?_)|refine (zAm id n (r) n0 (by omega) (by simp at hs ⊢;omega) (by simp [lookO,q3,h1]) (by omega)).mono fun r nx' ob' hp=>?_|refine ((zAm id n (r) n0 (by omega) (by simp at hs ⊢;omega) (by simp [lookO,q3,h1]) (by omega)).mono fun r nx' ob' hp=>?_).2
 simp only [aftI];obtain ⟨rfl,i1,i2,i3⟩:=hp
 rename Nat=>x2
 rename List (Nat × Option Ob)=>o2
 have j1:=i3 nx (by omega) q2
 have j2:=i3 x1 (by omega) q4
 simp [lookO,q5,q6,g1] at j1 j2;have r1:¬ id=x2:=by omega
 simp [i1,j1,j2,q1,q2,q3,q4,q5,q6,wk];refine au1 (kX11 @i1 @j1 @j2 @q1 @q2 @q3 @q4 @q5 @q6 @wk @r1) ?_;intros;apply wr;refine cY (zL7) (kX10 @i1 @j1 @j2 @q1 @q2 @q3 @q4 @q5 @q6 @wk) ?_;intros;apply wr;refine zAB ?_;simp [lookO];refine ⟨by simp [lookO,q1,q3,i1],by omega,fun q z1 z2=>?_⟩
 have y1:¬ q=nx:=by omega
 have y2:¬ q=x1:=by omega
 have y3:=h3 q (by omega) z2
 have y4:=i3 q (by omega) z2
 simp [lookO,y1,y2] at y3 y4 ⊢;rw [y4,y3]
theorem zOy {nx:Nat} {ob:List (Nat × Option Ob)} (id:Nat) (n:Int) (hn:W32 n) (d:Str) (r:Str) (hs:(putD 4++(putD n++(putD d.length++(d++r)))).length<=900000) (hob:lookO ob id=some (rdrO (putD 4++(putD n++(putD d.length++(d++r)))) false)) (hid:id<nx) :
  InlC prog 257 [.ptr id 2 0 0] nx ob fun v nx' ob'=>v=.st [iv 4,uv n,.str d]/\RdP nx ob id r nx' ob':=by
 have q1:¬ id=nx:=by omega
 have q2:¬ nx=id:=by omega
 have wk:IntKind.i64.wrap 4=4:=zAA (by decide) (by decide)
 have n0:=hn.1;have n1:=hn.2;refine InlC.of func257 rfl (by kernel_rfl) rfl ?_
 simp only [ntmps257,St.startI,argT];refine au1 @hob ?_;intros;apply wr
 first|refine .inr ((zAm id 4 (putD n++(putD d.length++(d++r))) (by decide) (by decide) (by simp at hs ⊢;omega) (by simp [lookO,q1,hob]) (by omega)).mono fun r nx' ob' hp=>?_)|refine (zAm id 4 (putD n++(putD d.length++(d++r))) (by decide) (by decide) (by simp at hs ⊢;omega) (by simp [lookO,q1,hob]) (by omega)).mono fun r nx' ob' hp=>?_|refine ((zAm id 4 (putD n++(putD d.length++(d++r))) (by decide) (by decide) (by simp at hs ⊢;omega) (by simp [lookO,q1,hob]) (by omega)).mono fun r nx' ob' hp=>?_).2
 simp only [aftI];obtain ⟨rfl,h1,h2,h3⟩:=hp
 rename Nat=>x1
 rename List (Nat × Option Ob)=>o1
 have g1:=h3 nx (by omega) q2
 simp only [lookO,if_true] at g1;have q3:¬ id=x1:=by omega
 have q4:¬ x1=id:=by omega
 have q5:¬ nx=x1:=by omega
 have q6:¬ x1=nx:=by omega
 simp;refine au1 (kX9 @h1 @g1 @q1 @q2 @q3 @q4 @q5 @q6 @wk) ?_;intros;apply wr;refine gF01 rfl (kX9 @h1 @g1 @q1 @q2 @q3 @q4 @q5 @q6 @wk) ?_;intros;apply wr;refine gF01 rfl (kX9 @h1 @g1 @q1 @q2 @q3 @q4 @q5 @q6 @wk) ?_;intros;apply wr;refine gF01 rfl (kX9 @h1 @g1 @q1 @q2 @q3 @q4 @q5 @q6 @wk) ?_;intros;apply wr;refine gT01 rfl (kX9 @h1 @g1 @q1 @q2 @q3 @q4 @q5 @q6 @wk) ?_;intros;apply wr
 first|refine .inr ((zAm id n (putD d.length++(d++r)) n0 (by omega) (by simp at hs ⊢;omega) (by simp [lookO,q3,h1]) (by omega)).mono fun r nx' ob' hp=>?_)|refine (zAm id n (putD d.length++(d++r)) n0 (by omega) (by simp at hs ⊢;omega) (by simp [lookO,q3,h1]) (by omega)).mono fun r nx' ob' hp=>?_|refine ((zAm id n (putD d.length++(d++r)) n0 (by omega) (by simp at hs ⊢;omega) (by simp [lookO,q3,h1]) (by omega)).mono fun r nx' ob' hp=>?_).2
 simp only [aftI];obtain ⟨rfl,i1,i2,i3⟩:=hp
 rename Nat=>x2
 rename List (Nat × Option Ob)=>o2
 have j1:=i3 nx (by omega) q2
 have j2:=i3 x1 (by omega) q4
 simp [lookO,q5,q6,g1] at j1 j2;have r1:¬ id=x2:=by omega
 simp [i1,j1,j2,q1,q2,q3,q4,q5,q6,wk];refine au1 (kX11 @i1 @j1 @j2 @q1 @q2 @q3 @q4 @q5 @q6 @wk @r1) ?_;intros;apply wr
 first|refine .inr ((zFO id d r (by simp at hs ⊢;omega) (by simp [lookO,q1,q3,i1]) (by omega)).mono fun r nx' ob' hp=>?_)|refine (zFO id d r (by simp at hs ⊢;omega) (by simp [lookO,q1,q3,i1]) (by omega)).mono fun r nx' ob' hp=>?_|refine ((zFO id d r (by simp at hs ⊢;omega) (by simp [lookO,q1,q3,i1]) (by omega)).mono fun r nx' ob' hp=>?_).2
 simp only [aftI];obtain ⟨rfl,k1,k2,k3⟩:=hp
 rename Nat=>x3
 rename List (Nat × Option Ob)=>o3
 have l1:=k3 nx (by omega) q2
 have l2:=k3 x1 (by omega) q4
 simp [lookO,q5,q6,j1,j2] at l1 l2;simp [k1,l1,l2,q1,q2,q3,q4,q5,q6,wk];refine au1 (kX10 @k1 @l1 @l2 @q1 @q2 @q3 @q4 @q5 @q6 @wk) ?_;intros;apply wr;refine zAB ?_;simp [lookO];refine ⟨by simp [lookO,q1,q3,k1],by omega,fun q z1 z2=>?_⟩
 have y1:¬ q=nx:=by omega
 have y2:¬ q=x1:=by omega
 have y3:=h3 q (by omega) z2
 have y4:=i3 q (by omega) z2
 have y5:=k3 q (by omega) z2
 simp [lookO,y1,y2] at y3 y4 y5 ⊢;rw [y5,y4,y3]
theorem zOz {nx:Nat} {ob:List (Nat × Option Ob)} (id:Nat) (d:Str) (r:Str) (hs:(putD 5++((putD d.length++(d++r)))).length<=900000) (hob:lookO ob id=some (rdrO (putD 5++((putD d.length++(d++r)))) false)) (hid:id<nx) :
  InlC prog 257 [.ptr id 2 0 0] nx ob fun v nx' ob'=>v=.st [iv 5,uv 0,.str d]/\RdP nx ob id r nx' ob':=by
 have q1:¬ id=nx:=by omega
 have q2:¬ nx=id:=by omega
 have wk:IntKind.i64.wrap 5=5:=zAA (by decide) (by decide)
 refine InlC.of func257 rfl (by kernel_rfl) rfl ?_
 simp only [ntmps257,St.startI,argT];refine au1 @hob ?_;intros;apply wr
 first|refine .inr ((zAm id 5 ((putD d.length++(d++r))) (by decide) (by decide) (by simp at hs ⊢;omega) (by simp [lookO,q1,hob]) (by omega)).mono fun r nx' ob' hp=>?_)|refine (zAm id 5 ((putD d.length++(d++r))) (by decide) (by decide) (by simp at hs ⊢;omega) (by simp [lookO,q1,hob]) (by omega)).mono fun r nx' ob' hp=>?_|refine ((zAm id 5 ((putD d.length++(d++r))) (by decide) (by decide) (by simp at hs ⊢;omega) (by simp [lookO,q1,hob]) (by omega)).mono fun r nx' ob' hp=>?_).2
 simp only [aftI];obtain ⟨rfl,h1,h2,h3⟩:=hp
 rename Nat=>x1
 rename List (Nat × Option Ob)=>o1
 have g1:=h3 nx (by omega) q2
 simp only [lookO,if_true] at g1;have q3:¬ id=x1:=by omega
 have q4:¬ x1=id:=by omega
 have q5:¬ nx=x1:=by omega
 have q6:¬ x1=nx:=by omega
 simp;refine au1 (kX9 @h1 @g1 @q1 @q2 @q3 @q4 @q5 @q6 @wk) ?_;intros;apply wr;refine gF01 rfl (kX9 @h1 @g1 @q1 @q2 @q3 @q4 @q5 @q6 @wk) ?_;intros;apply wr;refine gF01 rfl (kX9 @h1 @g1 @q1 @q2 @q3 @q4 @q5 @q6 @wk) ?_;intros;apply wr;refine gF01 rfl (kX9 @h1 @g1 @q1 @q2 @q3 @q4 @q5 @q6 @wk) ?_;intros;apply wr;refine gF01 rfl (kX9 @h1 @g1 @q1 @q2 @q3 @q4 @q5 @q6 @wk) ?_;intros;apply wr;refine gT01 rfl (kX9 @h1 @g1 @q1 @q2 @q3 @q4 @q5 @q6 @wk) ?_;intros;apply wr;refine cY (zTO) (kX9 @h1 @g1 @q1 @q2 @q3 @q4 @q5 @q6 @wk) ?_;intros;apply wr
 first|refine .inr ((zFO id d r (by simp at hs ⊢;omega) (by simp [lookO,q1,q3,h1]) (by omega)).mono fun r nx' ob' hp=>?_)|refine (zFO id d r (by simp at hs ⊢;omega) (by simp [lookO,q1,q3,h1]) (by omega)).mono fun r nx' ob' hp=>?_|refine ((zFO id d r (by simp at hs ⊢;omega) (by simp [lookO,q1,q3,h1]) (by omega)).mono fun r nx' ob' hp=>?_).2
 simp only [aftI];obtain ⟨rfl,k1,k2,k3⟩:=hp
 rename Nat=>x3
 rename List (Nat × Option Ob)=>o3
 have l1:=k3 nx (by omega) q2
 have l2:=k3 x1 (by omega) q4
 simp [lookO,q5,q6,g1] at l1 l2;simp [k1,l1,l2,q1,q2,q3,q4,q5,q6,wk];refine au1 (kX10 @k1 @l1 @l2 @q1 @q2 @q3 @q4 @q5 @q6 @wk) ?_;intros;apply wr;refine zAB ?_;simp [lookO];refine ⟨by simp [lookO,q1,q3,k1],by omega,fun q z1 z2=>?_⟩
 have y1:¬ q=nx:=by omega
 have y2:¬ q=x1:=by omega
 have y3:=h3 q (by omega) z2
 have y4:=k3 q (by omega) z2
 simp [lookO,y1,y2] at y3 y4 ⊢;rw [y4,y3]
theorem zOw {nx:Nat} {ob:List (Nat × Option Ob)} (id:Nat) (r:Str) (hs:(putD 2++r).length<=900000) (hob:lookO ob id=some (rdrO (putD 2++r) false)) (hid:id<nx) :
  InlC prog 257 [.ptr id 2 0 0] nx ob fun v nx' ob'=>v=.st [iv 2,uv 0,.str []]/\RdP nx ob id r nx' ob':=by
 have q1:¬ id=nx:=by omega
 have q2:¬ nx=id:=by omega
 have wk:IntKind.i64.wrap 2=2:=zAA (by decide) (by decide)
 refine InlC.of func257 rfl (by kernel_rfl) rfl ?_
 simp only [ntmps257,St.startI,argT];refine au1 @hob ?_;intros;apply wr
 first|refine .inr ((zAm id 2 (r) (by decide) (by decide) (by simp at hs ⊢;omega) (by simp [lookO,q1,hob]) (by omega)).mono fun r nx' ob' hp=>?_)|refine (zAm id 2 (r) (by decide) (by decide) (by simp at hs ⊢;omega) (by simp [lookO,q1,hob]) (by omega)).mono fun r nx' ob' hp=>?_|refine ((zAm id 2 (r) (by decide) (by decide) (by simp at hs ⊢;omega) (by simp [lookO,q1,hob]) (by omega)).mono fun r nx' ob' hp=>?_).2
 simp only [aftI];obtain ⟨rfl,h1,h2,h3⟩:=hp
 rename Nat=>x1
 rename List (Nat × Option Ob)=>o1
 have g1:=h3 nx (by omega) q2
 simp only [lookO,if_true] at g1;have q3:¬ id=x1:=by omega
 have q4:¬ x1=id:=by omega
 have q5:¬ nx=x1:=by omega
 have q6:¬ x1=nx:=by omega
 simp;refine au1 (kX9 @h1 @g1 @q1 @q2 @q3 @q4 @q5 @q6 @wk) ?_;intros;apply wr;refine gF01 rfl (kX9 @h1 @g1 @q1 @q2 @q3 @q4 @q5 @q6 @wk) ?_;intros;apply wr;refine gF01 rfl (kX9 @h1 @g1 @q1 @q2 @q3 @q4 @q5 @q6 @wk) ?_;intros;apply wr;refine gF01 rfl (kX9 @h1 @g1 @q1 @q2 @q3 @q4 @q5 @q6 @wk) ?_;intros;apply wr;refine gF01 rfl (kX9 @h1 @g1 @q1 @q2 @q3 @q4 @q5 @q6 @wk) ?_;intros;apply wr;refine gF01 rfl (kX9 @h1 @g1 @q1 @q2 @q3 @q4 @q5 @q6 @wk) ?_;intros;apply wr;refine cY (zTO) (kX9 @h1 @g1 @q1 @q2 @q3 @q4 @q5 @q6 @wk) ?_;intros;apply wr;refine cY (zL7) (kX9 @h1 @g1 @q1 @q2 @q3 @q4 @q5 @q6 @wk) ?_;intros;apply wr;refine zAB ?_;simp [lookO];refine ⟨by simp [lookO,q1,q3,h1],by omega,fun q z1 z2=>?_⟩
 have y1:¬ q=nx:=by omega
 have y2:¬ q=x1:=by omega
 have y3:=h3 q (by omega) z2
 simp [lookO,y1,y2] at y3 ⊢;rw [y3]
theorem zId {nx:Nat} {ob:List (Nat × Option Ob)} (id:Nat) (e:EvD) (r:Str) (hv:evVal e=true) (hn:W32 e.n) (hs:(zCi e++r).length<=900000) (hob:lookO ob id=some (rdrO (zCi e++r) false)) (hid:id<nx) :
  InlC prog 257 [.ptr id 2 0 0] nx ob fun v nx' ob'=>v=.st e.row/\RdP nx ob id r nx' ob':=by
 obtain ⟨k,n,d⟩:=e;unfold evVal at hv;unfold zCi at hs hob;simp only at hv hn hs hob ⊢;by_cases k1:k=1\/k=3\/k=6
 ·have hd:d=[]:=by rcases k1 with rfl|rfl|rfl<;>simp at hv<;>first|exact hv|exact hv.2
  subst hd;rw [if_pos k1,zWW] at hs hob;rcases k1 with rfl|rfl|rfl
  ·exact zOv id n hn r hs hob hid
  ·exact zOx id n hn r hs hob hid
  exact zO0 id n hn r hs hob hid
 rw [if_neg k1] at hs hob;by_cases k4:k=4
 ·subst k4;rw [if_pos rfl,zWW,zWW,zWW] at hs hob;exact zOy id n hn d r hs hob hid
 rw [if_neg k4] at hs hob;by_cases k5:k=5
 ·subst k5;simp at hv;obtain ⟨⟨rfl,-⟩,-⟩:=hv;rw [if_pos rfl,zWW,zWW] at hs hob;exact zOz id d r hs hob hid
 rw [if_neg k5] at hs hob;have k2:k=2:=by
  by_cases z:k=2
  ·exact z
  exfalso
  simp [z,k4,k5,show ¬ k=1 by omega,show ¬ k=3 by omega,show ¬ k=6 by omega] at hv
 subst k2;have hz:n=0/\d=[]:=by simpa using hv
 obtain ⟨rfl,rfl⟩:=hz;exact zOw id r hs hob hid
theorem zNZ (f:Int) (e:EntD) (r:List EntD):zBn f (e::r)=putD (e.at_-f)++(zCi e.ev++zBn e.at_ r):=rfl
theorem zUQ (l:List EntD) (f:Int) (hf:L64 f) (hE:∀ e∈l,OkT e) (hb:l.length<=100000) (h0:zCq l f=0):zAD prog 193 [.str (logD l f).1,lv f] (.tup [zBV l,iv 0]):=by
 have he:=zOs l f hf hE hb;have hS:logD l f=(putD l.length++zBn f l,0):=by unfold logD;rw [if_pos h0]
 rw [hS] at he ⊢;simp only at he ⊢;have hp:l.length<=400/\(l.all fun e=>evVal e.ev)=true/\ordD l=true/\firstOk f l=true/\(putD l.length++zBn f l).length<=65536:=by
  unfold zCq at h0;split at h0
  ·cases h0
  split at h0
  ·cases h0
  split at h0
  ·cases h0
  split at h0
  ·cases h0
  rename_i a1 a2 a3 a4;simp only [not_or,Bool.not_eq_false] at a2 a3;exact ⟨by omega,a2,a3.1,a3.2,by omega⟩
 obtain ⟨p1,p2,p3,p4,p5⟩:=hp;have p6:(zBn f l).length<=65536:=by rw [zWL] at p5;omega
 have c1:¬ (400:Int)<l.length:=by omega
 obtain ⟨S,hSS⟩:∃ S,S=putD l.length++zBn f l:=⟨_,rfl⟩;refine sX func193 ntmps193 ?_;intros;apply wr
 first|refine .inr ((zFV 0 l.length (zBn f l) ⟨by omega,by omega⟩ (by omega) (by simp [lookO]) (by decide)).mono fun r nx' ob' hp=>?_)|refine (zFV 0 l.length (zBn f l) ⟨by omega,by omega⟩ (by omega) (by simp [lookO]) (by decide)).mono fun r nx' ob' hp=>?_|refine ((zFV 0 l.length (zBn f l) ⟨by omega,by omega⟩ (by omega) (by simp [lookO]) (by decide)).mono fun r nx' ob' hp=>?_).2
 simp only [aftI];obtain ⟨rfl,h1,h2,h3⟩:=hp
 rename Nat=>x1
 rename List (Nat × Option Ob)=>o1
 simp [h1];refine au1 (kX2 @h1 @c1) ?_;intros;apply wr;refine gF11 @c1 rfl @h1 ?_;intros;apply wr;refine zAT 8 84 4 (by decide) rfl ?_
 rw [<- hSS] at he ⊢;clear hS h3;refine zAW (l.length+1) ?_;refine zA2 (fun c stt=>∃ (T:List (Nat × V)) (i q x:Nat) (a:Int) (o:List (Nat × Option Ob)),stt=⟨55,T,x,o,0⟩/\(lkT T 22=.int .u64 i/\lkT T 21=lv l.length/\lkT T 9=lv a/\lkT T 8=.own q/\lkT T 6=.ptr 0 2 0 0/\lkT T 1=lv f/\lkT T 0=.str S)/\i+c=l.length/\lookO o 0=some (rdrO (zBn a (l.drop i)) false)/\lookO o q=some ⟨84,4,false,false,ents (l.take i)⟩/\q<x/\0<q/\L64 a/\(zBn a (l.drop i)).length<=65536/\firstOk a (l.drop i)=true/\ordD (l.drop i)=true) ?_ _ _ ⟨_,0,x1,_,f,_,rfl,by simp [lkT],by omega,by simp [lookO,show ¬ 0=x1 by omega,h1],by simp [lookO],Nat.lt_succ_self _,by omega,hf,p6,p4,p3⟩
 rintro c stt ⟨T,i,q,x,a,o,rfl,⟨t22,t21,t9,t8,t6,t1,t0⟩,hic,ho,hq,hqx,hq0,ha,hlen,hfi,hor⟩ Kl hKl
 refine zBS [(22,.int .u64 i),(21,lv l.length),(9,lv a),(8,.own q),(6,.ptr 0 2 0 0),(1,lv f),(0,.str S)] (by simp [t22,t21,t9,t8,t6,t1,t0]) ?_
 refine au ?_;intros;apply wr;by_cases hlt:i<l.length
 ·have k1:(i:Int)<l.length:=by omega
  obtain ⟨c,rfl⟩:∃ d,c=d+1:=⟨c-1,by omega⟩
  obtain ⟨e,hg,hd,ht,hmem⟩:=get_at hlt;have hv:=List.all_eq_true.1 p2 e hmem;have hT:=hE e hmem;rw [hd,zNZ] at hlen ho;rw [hd] at hfi hor;simp only [firstOk,decide_eq_true_eq] at hfi;obtain ⟨g1,g2⟩:=zMc hor;have ha2:=hT.a;have w1:IntKind.u64.wrap (a+(e.at_-a))=e.at_:=by rw [IntKind.wrap_u64];have:=ha2.1;have:=ha2.2;omega
  have w2:IntKind.u64.wrap ((i:Int)+1)=(i:Int)+1:=by rw [IntKind.wrap_u64];omega
  refine gT10 (kX2 @hlt @k1) rfl ?_;intros;apply wr
  first|refine .inr ((zFV 0 (e.at_-a) (zCi e.ev++zBn e.at_ (l.drop (i+1))) ⟨by omega,by have:=ha2.2;have:=ha.1;omega⟩ (by omega) ho (by omega)).mono fun r nx' ob' hp=>?_)|refine (zFV 0 (e.at_-a) (zCi e.ev++zBn e.at_ (l.drop (i+1))) ⟨by omega,by have:=ha2.2;have:=ha.1;omega⟩ (by omega) ho (by omega)).mono fun r nx' ob' hp=>?_|refine ((zFV 0 (e.at_-a) (zCi e.ev++zBn e.at_ (l.drop (i+1))) ⟨by omega,by have:=ha2.2;have:=ha.1;omega⟩ (by omega) ho (by omega)).mono fun r nx' ob' hp=>?_).2
  simp only [aftI];obtain ⟨rfl,m1,m2,m3⟩:=hp
  rename Nat=>x2
  rename List (Nat × Option Ob)=>o2
  have m4:=m3 q hqx (by omega)
  rw [hq] at m4;simp [m1,w1];refine au1 (kX2 @m1 @w1) ?_;intros;apply wr
  first|refine .inr ((zId 0 e.ev (zBn e.at_ (l.drop (i+1))) hv hT.n (by simp at hlen ⊢;omega) m1 (by omega)).mono fun r nx' ob' hp=>?_)|refine (zId 0 e.ev (zBn e.at_ (l.drop (i+1))) hv hT.n (by simp at hlen ⊢;omega) m1 (by omega)).mono fun r nx' ob' hp=>?_|refine ((zId 0 e.ev (zBn e.at_ (l.drop (i+1))) hv hT.n (by simp at hlen ⊢;omega) m1 (by omega)).mono fun r nx' ob' hp=>?_).2
  simp only [aftI];obtain ⟨rfl,n1,n2,n3⟩:=hp
  rename Nat=>x3
  rename List (Nat × Option Ob)=>o3
  have n4:=n3 q (by omega) (by omega)
  rw [m4] at n4;have b1:¬ 0=x3:=by omega
  have b2:¬ q=x3:=by omega
  have b3:¬ 0=q:=by omega
  have b4:¬ x3=q:=by omega
  have b5:¬ q=x3+1:=by omega
  have b6:¬ x3+1=q:=by omega
  have hel:=zAn (l.take i);have htl:(l.take i).length=i:=by rw [zWS];omega
  simp [n1,n4,b1,b2,b3,b4];refine au1 (kX6 @n1 @n4 @b1 @b2 @b3 @b4) ?_;intros;apply wr;refine gF01 rfl (kX12 @n1 @n4 @b1 @b2 @b3 @b4 @b5 @b6 @w2 @hel @htl @maxLen.eq_1) ?_;intros;apply wr;have b7:¬ 0=x3+1+1:=by omega
  have b8:¬ 0=x3+1:=by omega
  refine hKl c _ rfl ⟨_,i+1,x3+1+1,x3+1+1+1,e.at_,_,rfl,by simp [lkT],by omega,by simp [lookO,b1,b3,b7,b8,n1],by simp [lookO,ht,zIa,zL6],by omega,by omega,ha2,by simp at hlen;omega,g1,g2⟩
 have k1:¬ (i:Int)<l.length:=by omega
 have htk:l.take i=l:=List.take_of_length_le (by omega)
 rw [htk] at hq;refine gF11 (kX2 @hlt @k1) rfl @hq ?_;intros;apply wr;refine cZ (he) @hq @hq ?_;intros;apply wr;refine gF00 rfl ?_;intros;apply wr;refine zAI ?_;refine zAB ?_;simp
theorem zNA (n:Int) (r:Str) (h:L64 n) (hs:(putD n++r).length<=1000000):zAD prog 142 [.str (putD n++r)] (.tup [lv n,iv (putD n).length,.bool true]):=by
 have hu:=zLh (putD n++r) hs;rw [zHR n h r] at hu;have e:((n.toNat:Nat):Int)=n:=by have:=h.1;omega
 simpa [zJL,e] using hu
theorem zQW {g:SegD} (h:zDO g=true):(zAZ g).2=0/\g.from_<=g.known/\zCI g.ents g.known=false/\zCq g.ents g.from_=0/\(zAZ g).1=(logD g.ents g.from_).1:=by
 have h0:(zAZ g).2=0:=by unfold zDO at h;simpa using h
 refine ⟨h0,?_⟩;unfold zAZ at h0 ⊢;split at h0
 ·cases h0
 rename_i q;rw [if_neg q];refine ⟨by omega,by simpa using fun z=>q (.inr z),?_,rfl⟩
 unfold logD at h0;split at h0
 ·assumption
 exact h0
theorem zUP (g:SegD) (h:OkG g) (ho:zDO g=true):zAD prog 147 [.str (zCz g).1] (.tup [.st g.row,iv 0]):=by
 obtain ⟨h0,h1,h2,h3,h4⟩:=zQW ho;have hE:(zCz g).1=putD g.from_++(putD g.known++zET (zAZ g).1):=by unfold zCz;rw [if_pos h0]
 have hsl:=zDA g;have hpl:=zDp (zAZ g).1;have l1:=zAS g.from_;have l2:=zAS g.known;have u1:=zNA g.from_ (putD g.known++zET (zAZ g).1) h.f (by simp;omega)
 have u2:=zNA g.known (zET (zAZ g).1) h.k (by simp;omega)
 have un:=zQo (zAZ g).1 65536 (by omega) (by omega) (by decide)
 have dl:=zUQ g.ents g.from_ h.f h.e (by have:=h.n;omega) h3
 rw [<- h4] at dl;have be:=zJZ g.ents g.known;rw [h2] at be;have c1:¬ g.known<g.from_:=by omega
 rw [hE];generalize zET (zAZ g).1=C at *
 generalize (zAZ g).1=L at *
 generalize putD g.from_=A at *
 generalize putD g.known=B at *
 have t1:List.drop A.length (List.take ((A.length:Int)+((B.length:Int)+(C.length:Int))).toNat (A++(B++C)))=B++C:=by
  rw [List.take_of_length_le (by simp;omega),List.drop_left]
 have t2:List.drop B.length (List.take ((B.length:Int)+(C.length:Int)).toNat (B++C))=C:=by
  rw [List.take_of_length_le (by simp;omega),List.drop_left]
 refine sX func147 ntmps147 ?_;intros;apply wr;refine cY (u1) @t1 ?_;intros;apply wr;refine gF01 rfl @t1 ?_;intros;apply wr;refine cZ (u2) @t1 @t2 ?_;intros;apply wr;refine gF11 @c1 rfl @t2 ?_;intros;apply wr;refine cc1 (un) @t2 ?_;refine au ?_;intros;apply wr;refine gF00 rfl ?_;intros;apply wr;refine cX (dl) ?_;intros;apply wr;refine gF00 rfl ?_;intros;apply wr;refine cX (be) ?_;intros;apply wr;refine gF00 rfl ?_;intros;apply wr;refine zAB ?_;simp
abbrev earO (xs:List (List V)):Ob:=⟨154,4,false,false,xs⟩
theorem zHz (a b:Int):zAD prog 146 [.st [lv a,lv b,.sl 4 false []]] (.st [lv a,lv b,.new 154 4 []]):=by
 have w:IntKind.i64.wrap 1=1:=zAA (by decide) (by decide)
 refine sZ func146 ntmps146 ?_;refine aum1 (kX2 @maxLen.eq_1 @w) ?_;(repeat intro K hK);apply wr
 (refine af1 (kX2 @maxLen.eq_1 @w) ?_;(repeat intro K hK);apply wr)
 repeat' ((first|(refine zAC rfl (fun h=>?_) (fun h=>?_)<;>(first|(simp [maxLen,w] at h;done)|(simp [maxLen,w] at h)|skip)<;>(first|(exfalso;omega)|skip))|refine zAW 1 ?_|refine zAj fun K hK=>?_|(refine zAG 10 [0,0,2,0,8,24,62,126,255,511] [(8,([[],[],[1],[],[3],[3,4],[1,2,3,4,5],[1,2,3,4,5,6]],[(2,5)])),(1,([],[])),(1,([],[]))] ?_)|exact rt1 (kX2 @maxLen.eq_1 @w)|fail)<;>(refine af1 (kX2 @maxLen.eq_1 @w) ?_;(repeat intro K hK);apply wr))
theorem zKR (n k:Int) (h1:1<=n) (h2:n<=4611686018427387904):zAD prog 84 [.st [lv n,lv k,.sl 4 false []]] (.bool true):=by
 have c1:¬ n<1:=by omega
 have c2:¬ 4611686018427387904<n:=by omega
 refine sY func84 ntmps84 (kX2 @c1 @c2) ?_;(repeat intro K hK);apply wr
 (refine au1 (kX2 @c1 @c2) ?_;(repeat intro K hK);apply wr)
 repeat' ((first|(refine zAC rfl (fun h=>?_) (fun h=>?_)<;>(first|(simp [c1,c2] at h;done)|(simp [c1,c2] at h)|skip)<;>(first|(exfalso;omega)|skip))|refine zAW 1 ?_|refine zAj fun K hK=>?_|exact rt1 (kX2 @c1 @c2)|fail)<;>(refine au1 (kX2 @c1 @c2) ?_;(repeat intro K hK);apply wr))
theorem zSZ (n k:Int) (h1:1<=n) (h2:n<=4611686018427387904) (hk:L64 k):zAD prog 35 [.st [lv n,lv k,.sl 4 false []]] (.str (slD n (65::putD k))):=by
 have l1:=zAS k;have hs:=zQZ n (65::putD k) ⟨by omega,by omega⟩ (by simp;omega)
 refine sZ func35 ntmps35 ?_
 (refine af ?_;intros;apply wr)
 repeat' ((first|(refine zAC rfl (fun h=>?_) (fun h=>?_)<;>(first|(simp at h;done)|(simp at h)|skip)<;>(first|(exfalso;omega)|skip))|refine cc (zKR n k h1 h2) ?_|refine cc (zDq k hk) ?_|refine cc (hs) ?_|(refine zAG 8 [0,1,0,4,12,28,63,127] [(6,([[],[0],[],[2],[2,3],[2,3,4]],[(1,4)])),(1,([],[])),(1,([],[]))] ?_)|exact rt|fail)<;>(refine af ?_;intros;apply wr))
theorem find_ok (k:Int) (f:V) (hf:okGs [f]):zAD prog 148 [.sl 4 false [],lv k,f] (.tup [iv 0,.bool false]):=by
 refine sX func148 ntmps148 ?_;(repeat intro K hK);apply wr
 (refine au ?_;(repeat intro K hK);apply wr)
 repeat' ((first|(refine zAC rfl (fun h=>?_) (fun h=>?_)<;>(first|(simp at h;done)|(simp at h)|skip)<;>(first|(exfalso;omega)|skip))|refine zAW 1 ?_|refine zAj fun K hK=>?_|exact rt|fail)<;>(refine au ?_;(repeat intro K hK);apply wr))
theorem zTW {nx:Nat} {ob:List (Nat × Option Ob)} (i k:Nat) (y:List V) (hi:lookO ob i=some (earO [])) (hk:lookO ob k=some (earO [y])) (hne:k≠i) :
  InlC prog 151 [.own i,iv 0,.own k] nx ob fun r nx' ob'=>r=.own nx/\nx'=nx+1/\ob'=(nx,some (earO [y]))::(i,none)::ob:=by
 refine InlC.of func151 rfl (by kernel_rfl) rfl ?_
 simp only [ntmps151,St.startI,argT];refine au1 (kX2 @hi @hk) ?_;intros;apply wr
 (refine af1 (kX6 @hi @hk @hne @maxLen.eq_1 @prtV.eq_1 @prtP.eq_1) ?_;intros;apply wr)
 repeat' ((first|(refine zAC rfl (fun h=>?_) (fun h=>?_)<;>(first|(simp [hi,hk,hne,maxLen,prtV,prtP] at h;done)|(simp [hi,hk,hne,maxLen,prtV,prtP] at h)|skip)<;>(first|(exfalso;omega)|skip))|(refine zAG (rid:=11) 9 [0,0,0,6,15,0,0,96,255] [(8,([[],[],[],[1,2],[0,1,2,3],[],[],[5,6]],[])),(1,([],[]))] ?_)|(refine zAG (rid:=15) 9 [0,0,0,6,15,0,0,96,255] [(8,([[],[],[],[1,2],[0,1,2,3],[],[],[5,6]],[])),(1,([],[]))] ?_)|exact rt1 (kX6 @hi @hk @hne @maxLen.eq_1 @prtV.eq_1 @prtP.eq_1)|fail)<;>(refine af1 (kX6 @hi @hk @hne @maxLen.eq_1 @prtV.eq_1 @prtP.eq_1) ?_;intros;apply wr))
theorem zTJ {nx:Nat} {ob:List (Nat × Option Ob)} (i:Nat) (y:List V) (hi:lookO ob i=some (earO [y])) (hy:y.length=4) :
  InlC prog 152 [.own i,iv 0,iv 1] nx ob fun r nx' ob'=>r=.own nx/\nx'=nx+1/\ob'=(nx,some (earO []))::(i,none)::(i,some (earO [[lv 0,lv 0,lv 0,.sl 0 true []]]))::(i,some (earO [y]))::ob:=by
 refine InlC.of func152 rfl (by kernel_rfl) rfl ?_
 simp only [ntmps152,St.startI,argT];refine au1 @hi ?_;intros;apply wr
 (refine af1 (kX3 @hi @hy @maxLen.eq_1) ?_;intros;apply wr)
 repeat' ((first|(refine zAC rfl (fun h=>?_) (fun h=>?_)<;>(first|(simp [hi,hy,maxLen] at h;done)|(simp [hi,hy,maxLen] at h)|skip)<;>(first|(exfalso;omega)|skip))|(refine zAG 8 [0,0,3,0,0,24,63,127] [(6,([[],[],[0,1],[],[],[3,4]],[])),(1,([],[])),(1,([],[]))] ?_)|exact rt1 (kX3 @hi @hy @maxLen.eq_1)|fail)<;>(refine af1 (kX3 @hi @hy @maxLen.eq_1) ?_;intros;apply wr))
 refine zJW (sz:=4) (k:=0) 6 i (by simp [lkT]) (by simp [lookO];rfl) rfl rfl (Nat.zero_le _) ?_
 refine zAB ?_;simp
theorem zSw (n k:Int) (g:SegD) (h1:1<=n) (h2:n<=4611686018427387904) (h:OkG g) (ho:zDO g=true) (hf:g.from_=k):zAD prog 89 [.st [lv n,lv k,.sl 4 false []],.str (slD n (68::(zCz g).1))] (.tup [.st [lv (n+1),lv g.known,.sl 4 false []],.sl 3 false [g.row],.bool true]):=by
 have hd:=zUP g h ho;have hL:L64 n:=⟨by omega,by omega⟩
 have hel:(zCz g).1.length<=300000:=by
  have:=zDA g;have:=zDp (zAZ g).1;have:=zAS g.from_;have:=zAS g.known;unfold zCz;split<;>simp<;>omega
 have hsl:(slD n (68::(zCz g).1)).length<=1000000:=by
  have:=zAS n;have:=zAS ((68::(zCz g).1).length:Int);have:=zE6 (hshD hsh0 (slB n (68::(zCz g).1)));unfold slD;rw [zWL,this];simp only [slB,zWL,zWU] at *
  omega
 have hb:=zMY (slD n (68::(zCz g).1)) 68 hsl;rw [zSC n hL 68 _ (by omega)] at hb
 have en:((n.toNat:Nat):Int)=n:=by omega
 simp only [zFu,en] at hb;have hb:zAD prog 141 [.str (slD n (68::(zCz g).1)),.int .u8 68] (.tup [lv n,.str (zCz g).1,.bool true]):=hb;have w1:IntKind.u64.wrap (n+8)=n+8:=by rw [IntKind.wrap_u64];omega
 have w2:IntKind.u64.wrap (n+1)=n+1:=by rw [IntKind.wrap_u64];omega
 have c1:¬ n+8<=n:=by omega
 have c2:¬ n=n+1:=by omega
 generalize slD n (68::(zCz g).1)=p at *
 generalize (zCz g).1=b at *
 subst hf;refine sX func89 ntmps89 ?_;(repeat intro K hK);apply wr
 (refine af1 (kX5 @maxLen.eq_1 @w1 @w2 @c1 @c2) ?_;(repeat intro K hK);apply wr)
 repeat' ((first|(refine zAC rfl (fun h=>?_) (fun h=>?_)<;>(first|(simp [maxLen,w1,w2,c1,c2] at h;done)|(simp [maxLen,w1,w2,c1,c2] at h)|skip)<;>(first|(exfalso;omega)|skip))|((first|refine .inl ⟨1,_,find_ok n (.fn 149) (by simp [okGs,okG]),?_⟩|refine ⟨1,_,find_ok n (.fn 149) (by simp [okGs,okG]),?_⟩);simp [aftC,aftE,noX,noXc,noX1,maxLen,w1,w2,c1,c2];first|refine And.intro zAO ?_|skip)|((first|refine .inr ((zTW 4 17 [lv n,lv g.from_,lv g.known,zBV g.ents] (by simp [lookO]) (by simp [lookO]) (by decide)).mono fun r nx' ob' hp=>?_)|refine (zTW 4 17 [lv n,lv g.from_,lv g.known,zBV g.ents] (by simp [lookO]) (by simp [lookO]) (by decide)).mono fun r nx' ob' hp=>?_);obtain ⟨rfl,rfl,rfl⟩:=hp;simp [aftI,maxLen,w1,w2,c1,c2])|((first|refine .inr ((zTJ 18 [lv n,lv g.from_,lv g.known,zBV g.ents] (by simp [lookO]) rfl).mono fun r nx' ob' hp=>?_)|refine (zTJ 18 [lv n,lv g.from_,lv g.known,zBV g.ents] (by simp [lookO]) rfl).mono fun r nx' ob' hp=>?_);obtain ⟨rfl,rfl,rfl⟩:=hp;simp [aftI,maxLen,w1,w2,c1,c2])|refine cc1 (zHz n g.from_) (kX5 @maxLen.eq_1 @w1 @w2 @c1 @c2) ?_|refine cc1 (hb) (kX5 @maxLen.eq_1 @w1 @w2 @c1 @c2) ?_|refine cc1 (zKR n g.from_ h1 h2) (kX5 @maxLen.eq_1 @w1 @w2 @c1 @c2) ?_|refine cc1 (hd) (kX5 @maxLen.eq_1 @w1 @w2 @c1 @c2) ?_|refine zAW 2 ?_|refine zAj fun K hK=>?_|(refine zAG 14 [0,1,3,7,15,31,63,127,255,511,31,1055,4095,8191] [(1,([],[])),(1,([],[])),(1,([],[])),(1,([],[])),(1,([],[])),(7,([[],[0],[0,1],[0,1,2],[0,1,2,3],[],[5]],[])),(1,([],[])),(1,([],[]))] ?_)|exact rt1 (kX5 @maxLen.eq_1 @w1 @w2 @c1 @c2)|fail)<;>(refine af1 (kX5 @maxLen.eq_1 @w1 @w2 @c1 @c2) ?_;(repeat intro K hK);apply wr))
theorem zSv (n k:Int) (p:Str) (x:Nat) (b:Str) (hb:zAD prog 141 [.str p,.int .u8 68] (.tup [lv x,.str b,.bool false])):zAD prog 89 [.st [lv n,lv k,.sl 4 false []],.str p] (.tup [.st [lv n,lv k,.sl 4 false []],.sl 3 false [],.bool false]):=by
 refine sZ func89 ntmps89 ?_
 (refine af ?_;intros;apply wr)
 repeat' ((first|(refine zAC rfl (fun h=>?_) (fun h=>?_)<;>(first|(simp at h;done)|(simp at h)|skip)<;>(first|(exfalso;omega)|skip))|refine cc (zHz n k) ?_|refine cc (hb) ?_|(refine zAG 14 [0,1,3,7,15,31,63,127,255,511,31,1055,4095,8191] [(1,([],[])),(1,([],[])),(1,([],[])),(1,([],[])),(1,([],[])),(7,([[],[0],[0,1],[0,1,2],[0,1,2,3],[],[5]],[])),(1,([],[])),(1,([],[]))] ?_)|exact rt|fail)<;>(refine af ?_;intros;apply wr))
abbrev pkD (b:Int) (g:SegD):Str:=slD b (68::(zCz g).1)
def pksL:Int->List SegD->List Str
 | _,[]=>[]
 | b,g::r=>pkD b g::pksL (b+1) r
theorem zUY (g:SegD):(zCz g).1.length<=300000:=by
 have:=zDA g;have:=zDp (zAZ g).1;have:=zAS g.from_;have:=zAS g.known;unfold zCz;split<;>simp<;>omega
theorem zTq (n:Int) (b:Str):(slD n b).length<=b.length+30:=by
 have:=zAS n;have:=zAS (b.length:Int);have:=zE6 (hshD hsh0 (slB n b));unfold slD;rw [zWL,this];simp only [slB,zWL];omega
theorem zJe:∀ (l:List SegD) (a:Int),chainOk a l=true->∀ g∈l,zDO g=true
 | [],_,_,g,h=>by simp at h
 | x::l,a,h,g,hg=>by
  rw [chainOk,zWJ,zWJ] at h;rcases List.mem_cons.1 hg with rfl|q
  ·exact h.1.2
  exact zJe l _ h.2 g q
theorem zEI {s:SndD} (h:zBR s=true):1<=s.base/\s.base<=4611686018427387904/\s.queue.length<=8/\∀ g∈s.queue,zDO g=true:=by
 unfold zBR at h;split at h
 ·cases h
 rename_i q;refine ⟨by omega,by omega,by omega,?_⟩
 cases hq:s.queue with
 | nil=>simp
 | cons g r =>
  simp only [hq] at h;rw [zWJ,zWJ] at h;exact zJe _ _ h.1.2
theorem spk_ok (s:SndD) (h:∀ g∈s.queue,OkG g) (ho:zBR s=true):zAD prog 34 [.st s.row] (.new 9 1 (strs (pksL s.base s.queue))):=by
 have hso:=zEJ s h;rw [ho] at hso;obtain ⟨b1,b2,b3,hseg⟩:=zEI ho;have hl:=zCX s.queue;have hnil:strs []=[]:=rfl;refine sX func34 ntmps34 ?_;intros;apply wr;refine cX (hso) ?_;intros;apply wr;refine gF01 rfl @hl ?_;intros;apply wr;refine zAT 3 9 1 (by decide) rfl ?_
 obtain ⟨I,hI⟩:∃ I:Nat->St->Prop,I=(fun kk ss=>∃ (i:Nat) (acc:List Str),i<=s.queue.length/\kk=s.queue.length-i/\(acc++pksL (s.base+i) (s.queue.drop i)=pksL s.base s.queue/\acc.length=i)/\ss=⟨37,[(14,.int .i64 i),(13,.int .i64 s.queue.length),(12,.sl 3 false (segs s.queue)),(1,.ptr 0 4 0 0),(3,.own 2)],3,[(2,some ⟨9,1,false,false,strs acc⟩),(0,some ⟨54,4,true,false,[s.row]⟩)],0⟩):=⟨_,rfl⟩
 refine lX1 I (id) (by rw [hI];exact ⟨0,[],by simp,rfl,⟨by simp,rfl⟩,rfl⟩) @hnil ?_
 intro kk ss hIk _
 rw [hI] at hIk;obtain ⟨i,acc,hi,rfl,hx,rfl⟩:=hIk;obtain ⟨hx1,hx2⟩:=hx;refine au1 @hl ?_;intros;apply wr;refine zAC rfl (fun hh=>?_) (fun hh=>?_)
 ·simp at hh;obtain ⟨g,hg,hd,-,hmem⟩:=get_at hh;have hget:=zE4 hg;have he:=zUX g (h g hmem);have hel:=zUY g;have hw1:IntKind.u64.wrap (i:Int)=i:=by rw [IntKind.wrap_u64];omega
  have hw2:IntKind.u64.wrap (s.base+i)=s.base+i:=by rw [IntKind.wrap_u64];omega
  have hs:=zQZ (s.base+i) (68::(zCz g).1) ⟨by omega,by omega⟩ (by simp;omega)
  have hal:=zCA acc;rw [hd,pksL] at hx1;refine au1 @hget ?_;intros;apply wr;refine cY (he) (kX2 @hw1 @hw2) ?_;intros;apply wr;refine cZ (hs) (kX2 @hw1 @hw2) (kX3 @hal @hx2 @maxLen.eq_1) ?_;intros;apply wr;have e1:s.base+((i+1:Nat):Int)=s.base+i+1:=by omega
  have hst:strs (acc++[pkD (s.base+i) g])=strs acc++[[.str (pkD (s.base+i) g)]]:=by simp [strs]
  exact aX (fun x=>if x=2 then 8 else x) (by rw [hI];exact ⟨i+1,(acc++[pkD (s.base+i) g]),by omega,rfl,⟨by rw [e1,<- hx1];simp,by simp [hx2]⟩,rfl⟩) (kX2 (zAA (n:=(i:Int)+1) (by omega) (by omega)) @hst)
 simp at hh;rw [zBd hh,pksL,zWh] at hx1;refine au ?_;intros;apply wr;refine zAB ?_;simp [hx1]
theorem zOl {nx:Nat} {ob:List (Nat × Option Ob)} (i:Nat) (y:List V) (hi:lookO ob i=some ⟨150,3,false,false,[y]⟩) (hy:y.length=3) :
  InlC prog 143 [.own i,iv 0,iv 1] nx ob fun r nx' ob'=>r=.own nx/\nx'=nx+1/\ob'=(nx,some ⟨150,3,false,false,[]⟩)::(i,none)::(i,some ⟨150,3,false,false,[[lv 0,lv 0,.sl 0 true []]]⟩)::(i,some ⟨150,3,false,false,[y]⟩)::ob:=by
 refine InlC.of func143 rfl (by kernel_rfl) rfl ?_
 simp only [ntmps143,St.startI,argT];refine au1 @hi ?_;intros;apply wr
 (refine af1 (kX3 @hi @hy @maxLen.eq_1) ?_;intros;apply wr)
 repeat' ((first|(refine zAC rfl (fun h=>?_) (fun h=>?_)<;>(first|(simp [hi,hy,maxLen] at h;done)|(simp [hi,hy,maxLen] at h)|skip)<;>(first|(exfalso;omega)|skip))|(refine zAG 8 [0,0,3,0,0,24,63,127] [(6,([[],[],[0,1],[],[],[3,4]],[])),(1,([],[])),(1,([],[]))] ?_)|exact rt1 (kX3 @hi @hy @maxLen.eq_1)|fail)<;>(refine af1 (kX3 @hi @hy @maxLen.eq_1) ?_;intros;apply wr))
 refine zJW (sz:=3) (k:=0) 6 i (by simp [lkT]) (by simp [lookO];rfl) rfl rfl (Nat.zero_le _) ?_
 refine zAB ?_;simp
theorem zSD (n:Int) (c m:UInt8) (t:Str) (h:L64 n) (ht:t.length<=300000):zAD prog 141 [.str (slD n (c::t)),.int .u8 (m.toNat:Int)] (if c=m then .tup [lv n,.str t,.bool true] else .tup [lv 0,.str [],.bool false]):=by
 have hb:=zMY (slD n (c::t)) m (by have:=zTq n (c::t);simp at this;omega)
 have en:((n.toNat:Nat):Int)=n:=by have:=h.1;omega
 have e:zLO (slD n (c::t)) m=if c=m then (n.toNat,t,true) else (0,[],false):=by
  unfold zLO;rw [zGM n h (c::t) (by simp;omega)]
  rfl
 rw [e] at hb;split
 ·rename_i q;rw [if_pos q] at hb;simpa [zFu,en] using hb
 rename_i q;rw [if_neg q] at hb;simpa [zFu] using hb
theorem zTz (s:SndD) (g:SegD) (hq:s.queue=[g]) (h:OkG g) (ho:zBR s=true):zAD prog 86 [.st s.row,.str (slD (s.base+1) (65::putD g.known))] (.tup [.st (SndD.row ⟨s.base+1,s.tail,g.known,[]⟩),.bool true]):=by
 obtain ⟨b1,b2,b3,hseg⟩:=zEI ho;have hcp:=zD1 s (by rw [hq];simp;have:=h.n;omega) (by rw [hq];simp)
 have hso:=zEJ s (by rw [hq];simpa using h)
 rw [ho] at hso;have l1:=zAS g.known;have hop:=zSD (s.base+1) 65 65 (putD g.known) ⟨by omega,by omega⟩ (by omega)
 rw [if_pos rfl] at hop;have hop:zAD prog 141 [.str (slD (s.base+1) (65::putD g.known)),.int .u8 65] (.tup [lv (s.base+1),.str (putD g.known),.bool true]):=hop;have hu:=zNA g.known [] h.k (by simp;omega)
 rw [zWh] at hu;generalize slD (s.base+1) (65::putD g.known)=p at *
 generalize putD g.known=t at *
 have w1:IntKind.u64.wrap (s.base+1-s.base)=1:=by rw [IntKind.wrap_u64];omega
 have c1:¬ s.base+1<=s.base:=by omega
 have w2:IntKind.i64.wrap 1=1:=zAA (by decide) (by decide)
 have w3:IntKind.u64.wrap 1=1:=by decide
 have w4:IntKind.i64.wrap 0=0:=zAA (by decide) (by decide)
 obtain ⟨a,b,c,q⟩:=s;simp only at *
 subst hq;refine sX func86 ntmps86 ?_;intros;apply wr
 (refine au1 (kX6 @w1 @w2 @w3 @w4 @c1 @zAs) ?_;intros;apply wr)
 repeat' ((first|(refine zAC rfl (fun h=>?_) (fun h=>?_)<;>(first|(simp [w1,w2,w3,w4,c1,zAs] at h;done)|(simp [w1,w2,w3,w4,c1,zAs] at h)|skip)<;>(first|(exfalso;omega)|skip))|((first|refine .inr ((zOl 5 g.row (by simp [lookO]) rfl).mono fun r nx' ob' hp=>?_)|refine (zOl 5 g.row (by simp [lookO]) rfl).mono fun r nx' ob' hp=>?_);obtain ⟨rfl,rfl,rfl⟩:=hp;simp [aftI,w1,w2,w3,w4,c1,zAs])|refine cc1 (hcp) (kX6 @w1 @w2 @w3 @w4 @c1 @zAs) ?_|refine cc1 (hop) (kX6 @w1 @w2 @w3 @w4 @c1 @zAs) ?_|refine cc1 (hso) (kX6 @w1 @w2 @w3 @w4 @c1 @zAs) ?_|refine cc1 (hu) (kX6 @w1 @w2 @w3 @w4 @c1 @zAs) ?_|exact rt1 (kX6 @w1 @w2 @w3 @w4 @c1 @zAs)|fail)<;>(refine au1 (kX6 @w1 @w2 @w3 @w4 @c1 @zAs) ?_;intros;apply wr))
theorem zTy (s:SndD) (x:Int) (hq:s.queue=[]) (hx:L64 x) (ho:zBR s=true):zAD prog 86 [.st s.row,.str (slD s.base (65::putD x))] (.tup [.st s.row,.bool false]):=by
 obtain ⟨b1,b2,b3,hseg⟩:=zEI ho;have hcp:=zD1 s (by rw [hq];simp) (by rw [hq];simp)
 have hso:=zEJ s (by rw [hq];simp)
 rw [ho] at hso;have l1:=zAS x;have hop:=zSD s.base 65 65 (putD x) ⟨by omega,by omega⟩ (by omega)
 rw [if_pos rfl] at hop;have hop:zAD prog 141 [.str (slD s.base (65::putD x)),.int .u8 65] (.tup [lv s.base,.str (putD x),.bool true]):=hop;have hu:=zNA x [] hx (by simp;omega)
 rw [zWh] at hu;generalize slD s.base (65::putD x)=p at *
 generalize putD x=t at *
 obtain ⟨a,b,c,q⟩:=s;simp only at *
 subst hq;refine sZ func86 ntmps86 ?_;exact wx (qX4 (hcp) (hop) (hso) (hu)) trivial
theorem zT0 (s:SndD) (p:Str) (x:Int) (b:Str) (hs:∀ g∈s.queue,OkG g) (hn:s.queue.length<=1000) (hb:zAD prog 141 [.str p,.int .u8 65] (.tup [lv x,.str b,.bool false])):zAD prog 86 [.st s.row,.str p] (.tup [.st s.row,.bool false]):=by
 have hcp:=zD1 s (fun g hg=>by have:=(hs g hg).n;omega) hn
 refine sZ func86 ntmps86 ?_;exact wx (qX2 (hcp) (hb)) trivial
end Go.Proofs.YthjpcmecgjfilaaGreat
end
