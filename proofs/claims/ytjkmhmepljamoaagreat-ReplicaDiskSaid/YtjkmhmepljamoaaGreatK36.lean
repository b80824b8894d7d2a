/- A part of the proof of ReplicaDisk. -/
import Derived.Test.YtjkmhmepljamoaaGreatK06
import Derived.Test.YtjkmhmepljamoaaGreatK14
import Derived.Test.YtjkmhmepljamoaaGreatK34
import Derived.Test.YtjkmhmepljamoaaGreatK35
set_option linter.all false
set_option maxHeartbeats 16000000
set_option maxRecDepth 100000
section
namespace Go.Proofs.YtjkmhmepljamoaaGreat
open Go.Ab Go.RowKit Tryz
def EK(g:SegD):Str×Int:=if(Ai g).2=0 then(BG g.from_++(BG g.known++GV (Ai g).1),0)else([],(Ai g).2)
theorem E4(g:SegD):(Ai g).1.length<=65536:=by
 unfold Ai;split
 ·simp
 unfold Ly;split
 ·rename_i h;unfold Dx at h;split at h
  ·cases h
  split at h
  ·cases h
  split at h
  ·cases h
  split at h
  ·cases h
  show(BG _++Dt _ _).length<=65536;omega
 simp
theorem aW(g:SegD)(h:OkG g):AC prog 73 [.st g.row] (.tup [.str (EK g).1,iv (EK g).2]):=by
 have hpl:(GV (Ai g).1).length<=1000000:=by have:=FS (Ai g).1;have:=E4 g;omega
 have hl:=JA g h;have hc:=aI (Ai g).1 (by have:=E4 g;omega);have p1:=FV g.from_ h.f;have p2:=FV g.known h.k;have l1:=Ae g.from_;have l2:=Ae g.known;have hD:EK g=if(Ai g).2=0 then(BG g.from_++(BG g.known++GV (Ai g).1),0)else([],(Ai g).2):=rfl
 generalize (Ai g).1=x at *;generalize (Ai g).2=e at *;by_cases he:e=0
 ·subst he;rw[if_pos rfl]at hD;refine sX func73 ntmps73 ?_;refine cX (hl) ?_;refine C3 ?_;intros;apply wr;refine AD 12 [0,1,3,0,8,31,63,0,191,511,1023,2047] [(9,([[],[0],[0,1],[],[3],[0,1,2,3,4],[0,1,2,3,4,5],[],[0,1,2,3,4,5,7]],[(4,2)])),(1,([],[])),(1,([],[])),(1,([],[]))] ?_;refine af ?_;refine cXf (p1) ?_;refine cXf (p2) ?_;refine cXf (hc) ?_;refine ar ?_;simp[hD]
 have z1:(e != 0)=true:=by simpa using he
 rw[if_neg he]at hD;refine sX func73 ntmps73 ?_;refine cXf (hl) ?_;refine Ei (kX2 @z1 @he) ?_;refine ar ?_;simp[hD]
def RdP(nx:Nat)(ob:List (Nat×Option Ob))(id:Nat)(r:Str)(nx':Nat)(ob':List (Nat×Option Ob)):Prop:=lookO ob' id=some (Lz r false)/\nx<=nx'/\∀q,q<nx->q≠id->lookO ob' q=lookO ob q
theorem UG{nx:Nat}{ob:List (Nat×Option Ob)}(id:Nat)(n:Int)(r:Str)(h:L64 n)(hs:(BG n++r).length<=1000000)(hob:lookO ob id=some (Lz (BG n++r) false))(hn:id<nx):
  Bt prog 189 [.ptr id 2 0 0] nx ob fun v nx' ob'=>v=lv n/\RdP nx ob id r nx' ob' :=
 (K5 id _ false hs hob hn).mono fun v nx' ob' ⟨h1,h2⟩=>by
  rw[I4 n h r]at h1 h2;have:=h.1;exact⟨by rw[h1];simp only;congr;omega,h2⟩
theorem EM{nx:Nat}{ob:List (Nat×Option Ob)}(id:Nat)(n:Int)(r:Str)(h0:0<=n)(h1:n<=4294967295)(hs:(BG n++r).length<=1000000)(hob:lookO ob id=some (Lz (BG n++r) false))(hn:id<nx):
  Bt prog 315 [.ptr id 2 0 0] nx ob fun v nx' ob'=>v=uv n/\RdP nx ob id r nx' ob' :=
 (YN id _ false hs hob hn).mono fun v nx' ob' ⟨h2,h3⟩=>by
  rw[YM n h0 h1 r]at h2 h3;exact⟨by rw[h2];simp only;congr;omega,h3⟩
theorem Sx{nx:Nat}{ob:List (Nat×Option Ob)}(id:Nat)(b r:Str)(hs:(BG b.length++(b++r)).length<=1000000)(hob:lookO ob id=some (Lz (BG b.length++(b++r)) false))(hn:id<nx):
  Bt prog 190 [.ptr id 2 0 0] nx ob fun v nx' ob'=>v=.str b/\RdP nx ob id r nx' ob' :=
 (QJ id _ false hs hob hn).mono fun v nx' ob' ⟨h2,h3⟩=>by
  rw[QK b r (by simp at hs;omega)]at h2 h3;exact⟨h2,h3⟩
theorem Yz:AC prog 316 [] (uv 0):=by
 refine sZ func316 ntmps316 ?_;exact wx trivial trivial
theorem P2:AC prog 317 [] (.str []):=by
 refine sZ func317 ntmps317 ?_;exact wx trivial trivial
theorem TJ{nx:Nat}{ob:List (Nat×Option Ob)}(id:Nat)(n:Int)(hn:W32 n)(r:Str)(hs:(BG 1++(BG n++r)).length<=900000)(hob:lookO ob id=some (Lz (BG 1++(BG n++r)) false))(hid:id<nx):
  Bt prog 257 [.ptr id 2 0 0] nx ob fun v nx' ob'=>v=.st [iv 1,uv n,.str []]/\RdP nx ob id r nx' ob':=by
 have q1:¬id=nx:=by omega
 have q2:¬nx=id:=by omega
 have wk:IntKind.i64.wrap 1=1:=AA (by decide) (by decide);have n0:=hn.1;have n1:=hn.2;refine sIY func257 ntmps257 @hob ?_;intros;apply wr;refine cO ?_;refine(EM id 1 (BG n++r) (by decide) (by decide) (by simp at hs ⊢;omega) (by simp[lookO,q1,hob]) (by omega)).mono fun r nx' ob' hp=>?_;simp only[BX];obtain⟨rfl,h1,h2,h3⟩:=hp
 rename Nat=>x1
 rename List (Nat×Option Ob)=>o1
 have g1:=h3 nx (by omega) q2;simp only[lookO,if_true]at g1;have q3:¬id=x1:=by omega
 have q4:¬x1=id:=by omega
 have q5:¬nx=x1:=by omega
 have q6:¬x1=nx:=by omega
 simp;refine au1 (kX9 @h1 @g1 @q1 @q2 @q3 @q4 @q5 @q6 @wk) ?_;refine IZ (kX9 @h1 @g1 @q1 @q2 @q3 @q4 @q5 @q6 @wk) ?_;refine IZ (kX9 @h1 @g1 @q1 @q2 @q3 @q4 @q5 @q6 @wk) ?_;intros;apply wr;refine((EM id n (r) n0 (by omega) (by simp at hs ⊢;omega) (by simp[lookO,q3,h1]) (by omega)).mono fun r nx' ob' hp=>?_).2;simp only[BX];obtain⟨rfl,i1,i2,i3⟩:=hp
 rename Nat=>x2
 rename List (Nat×Option Ob)=>o2
 have j1:=i3 nx (by omega) q2;have j2:=i3 x1 (by omega) q4;simp[lookO,q5,q6,g1]at j1 j2;have r1:¬id=x2:=by omega
 simp[i1,j1,j2,q1,q2,q3,q4,q5,q6,wk];refine au1 (SL @i1 @j1 @j2 @q1 @q2 @q3 @q4 @q5 @q6 @wk @r1) ?_;refine cY (P2) (RQ @i1 @j1 @j2 @q1 @q2 @q3 @q4 @q5 @q6 @wk) ?_;intros;apply wr;refine ar ?_;simp[lookO];refine⟨by simp[lookO,q1,q3,i1],by omega,fun q z1 z2=>?_⟩;have y1:¬q=nx:=by omega
 have y2:¬q=x1:=by omega
 have y3:=h3 q (by omega) z2;have y4:=i3 q (by omega) z2;simp[lookO,y1,y2]at y3 y4 ⊢;rw[y4,y3]
theorem TL{nx:Nat}{ob:List (Nat×Option Ob)}(id:Nat)(n:Int)(hn:W32 n)(r:Str)(hs:(BG 3++(BG n++r)).length<=900000)(hob:lookO ob id=some (Lz (BG 3++(BG n++r)) false))(hid:id<nx):
  Bt prog 257 [.ptr id 2 0 0] nx ob fun v nx' ob'=>v=.st [iv 3,uv n,.str []]/\RdP nx ob id r nx' ob':=by
 have q1:¬id=nx:=by omega
 have q2:¬nx=id:=by omega
 have wk:IntKind.i64.wrap 3=3:=AA (by decide) (by decide);have n0:=hn.1;have n1:=hn.2;refine sIY func257 ntmps257 @hob ?_;intros;apply wr;refine cO ?_;refine(EM id 3 (BG n++r) (by decide) (by decide) (by simp at hs ⊢;omega) (by simp[lookO,q1,hob]) (by omega)).mono fun r nx' ob' hp=>?_;simp only[BX];obtain⟨rfl,h1,h2,h3⟩:=hp
 rename Nat=>x1
 rename List (Nat×Option Ob)=>o1
 have g1:=h3 nx (by omega) q2;simp only[lookO,if_true]at g1;have q3:¬id=x1:=by omega
 have q4:¬x1=id:=by omega
 have q5:¬nx=x1:=by omega
 have q6:¬x1=nx:=by omega
 simp;refine au1 (kX9 @h1 @g1 @q1 @q2 @q3 @q4 @q5 @q6 @wk) ?_;refine EG (kX9 @h1 @g1 @q1 @q2 @q3 @q4 @q5 @q6 @wk) ?_;refine IZ (kX9 @h1 @g1 @q1 @q2 @q3 @q4 @q5 @q6 @wk) ?_;refine IZ (kX9 @h1 @g1 @q1 @q2 @q3 @q4 @q5 @q6 @wk) ?_;intros;apply wr;refine((EM id n (r) n0 (by omega) (by simp at hs ⊢;omega) (by simp[lookO,q3,h1]) (by omega)).mono fun r nx' ob' hp=>?_).2;simp only[BX];obtain⟨rfl,i1,i2,i3⟩:=hp
 rename Nat=>x2
 rename List (Nat×Option Ob)=>o2
 have j1:=i3 nx (by omega) q2;have j2:=i3 x1 (by omega) q4;simp[lookO,q5,q6,g1]at j1 j2;have r1:¬id=x2:=by omega
 simp[i1,j1,j2,q1,q2,q3,q4,q5,q6,wk];refine au1 (SL @i1 @j1 @j2 @q1 @q2 @q3 @q4 @q5 @q6 @wk @r1) ?_;refine cY (P2) (RQ @i1 @j1 @j2 @q1 @q2 @q3 @q4 @q5 @q6 @wk) ?_;intros;apply wr;refine ar ?_;simp[lookO];refine⟨by simp[lookO,q1,q3,i1],by omega,fun q z1 z2=>?_⟩;have y1:¬q=nx:=by omega
 have y2:¬q=x1:=by omega
 have y3:=h3 q (by omega) z2;have y4:=i3 q (by omega) z2;simp[lookO,y1,y2]at y3 y4 ⊢;rw[y4,y3]
theorem TO{nx:Nat}{ob:List (Nat×Option Ob)}(id:Nat)(n:Int)(hn:W32 n)(r:Str)(hs:(BG 6++(BG n++r)).length<=900000)(hob:lookO ob id=some (Lz (BG 6++(BG n++r)) false))(hid:id<nx):
  Bt prog 257 [.ptr id 2 0 0] nx ob fun v nx' ob'=>v=.st [iv 6,uv n,.str []]/\RdP nx ob id r nx' ob':=by
 have q1:¬id=nx:=by omega
 have q2:¬nx=id:=by omega
 have wk:IntKind.i64.wrap 6=6:=AA (by decide) (by decide);have n0:=hn.1;have n1:=hn.2;refine sIY func257 ntmps257 @hob ?_;intros;apply wr;refine cO ?_;refine(EM id 6 (BG n++r) (by decide) (by decide) (by simp at hs ⊢;omega) (by simp[lookO,q1,hob]) (by omega)).mono fun r nx' ob' hp=>?_;simp only[BX];obtain⟨rfl,h1,h2,h3⟩:=hp
 rename Nat=>x1
 rename List (Nat×Option Ob)=>o1
 have g1:=h3 nx (by omega) q2;simp only[lookO,if_true]at g1;have q3:¬id=x1:=by omega
 have q4:¬x1=id:=by omega
 have q5:¬nx=x1:=by omega
 have q6:¬x1=nx:=by omega
 simp;refine au1 (kX9 @h1 @g1 @q1 @q2 @q3 @q4 @q5 @q6 @wk) ?_;refine EG (kX9 @h1 @g1 @q1 @q2 @q3 @q4 @q5 @q6 @wk) ?_;refine EG (kX9 @h1 @g1 @q1 @q2 @q3 @q4 @q5 @q6 @wk) ?_;refine IZ (kX9 @h1 @g1 @q1 @q2 @q3 @q4 @q5 @q6 @wk) ?_;intros;apply wr;refine((EM id n (r) n0 (by omega) (by simp at hs ⊢;omega) (by simp[lookO,q3,h1]) (by omega)).mono fun r nx' ob' hp=>?_).2;simp only[BX];obtain⟨rfl,i1,i2,i3⟩:=hp
 rename Nat=>x2
 rename List (Nat×Option Ob)=>o2
 have j1:=i3 nx (by omega) q2;have j2:=i3 x1 (by omega) q4;simp[lookO,q5,q6,g1]at j1 j2;have r1:¬id=x2:=by omega
 simp[i1,j1,j2,q1,q2,q3,q4,q5,q6,wk];refine au1 (SL @i1 @j1 @j2 @q1 @q2 @q3 @q4 @q5 @q6 @wk @r1) ?_;refine cY (P2) (RQ @i1 @j1 @j2 @q1 @q2 @q3 @q4 @q5 @q6 @wk) ?_;intros;apply wr;refine ar ?_;simp[lookO];refine⟨by simp[lookO,q1,q3,i1],by omega,fun q z1 z2=>?_⟩;have y1:¬q=nx:=by omega
 have y2:¬q=x1:=by omega
 have y3:=h3 q (by omega) z2;have y4:=i3 q (by omega) z2;simp[lookO,y1,y2]at y3 y4 ⊢;rw[y4,y3]
theorem TM{nx:Nat}{ob:List (Nat×Option Ob)}(id:Nat)(n:Int)(hn:W32 n)(d:Str)(r:Str)(hs:(BG 4++(BG n++(BG d.length++(d++r)))).length<=900000)(hob:lookO ob id=some (Lz (BG 4++(BG n++(BG d.length++(d++r)))) false))(hid:id<nx):
  Bt prog 257 [.ptr id 2 0 0] nx ob fun v nx' ob'=>v=.st [iv 4,uv n,.str d]/\RdP nx ob id r nx' ob':=by
 have q1:¬id=nx:=by omega
 have q2:¬nx=id:=by omega
 have wk:IntKind.i64.wrap 4=4:=AA (by decide) (by decide);have n0:=hn.1;have n1:=hn.2;refine sIY func257 ntmps257 @hob ?_;intros;apply wr;refine cO ?_;refine(EM id 4 (BG n++(BG d.length++(d++r))) (by decide) (by decide) (by simp at hs ⊢;omega) (by simp[lookO,q1,hob]) (by omega)).mono fun r nx' ob' hp=>?_;simp only[BX];obtain⟨rfl,h1,h2,h3⟩:=hp
 rename Nat=>x1
 rename List (Nat×Option Ob)=>o1
 have g1:=h3 nx (by omega) q2;simp only[lookO,if_true]at g1;have q3:¬id=x1:=by omega
 have q4:¬x1=id:=by omega
 have q5:¬nx=x1:=by omega
 have q6:¬x1=nx:=by omega
 simp;refine au1 (kX9 @h1 @g1 @q1 @q2 @q3 @q4 @q5 @q6 @wk) ?_;refine EG (kX9 @h1 @g1 @q1 @q2 @q3 @q4 @q5 @q6 @wk) ?_;refine EG (kX9 @h1 @g1 @q1 @q2 @q3 @q4 @q5 @q6 @wk) ?_;refine EG (kX9 @h1 @g1 @q1 @q2 @q3 @q4 @q5 @q6 @wk) ?_;refine IZ (kX9 @h1 @g1 @q1 @q2 @q3 @q4 @q5 @q6 @wk) ?_;intros;apply wr;refine((EM id n (BG d.length++(d++r)) n0 (by omega) (by simp at hs ⊢;omega) (by simp[lookO,q3,h1]) (by omega)).mono fun r nx' ob' hp=>?_).2;simp only[BX];obtain⟨rfl,i1,i2,i3⟩:=hp
 rename Nat=>x2
 rename List (Nat×Option Ob)=>o2
 have j1:=i3 nx (by omega) q2;have j2:=i3 x1 (by omega) q4;simp[lookO,q5,q6,g1]at j1 j2;have r1:¬id=x2:=by omega
 simp[i1,j1,j2,q1,q2,q3,q4,q5,q6,wk];refine au1 (SL @i1 @j1 @j2 @q1 @q2 @q3 @q4 @q5 @q6 @wk @r1) ?_;intros;apply wr;refine cO ?_;refine(Sx id d r (by simp at hs ⊢;omega) (by simp[lookO,q1,q3,i1]) (by omega)).mono fun r nx' ob' hp=>?_;simp only[BX];obtain⟨rfl,k1,k2,k3⟩:=hp
 rename Nat=>x3
 rename List (Nat×Option Ob)=>o3
 have l1:=k3 nx (by omega) q2;have l2:=k3 x1 (by omega) q4;simp[lookO,q5,q6,j1,j2]at l1 l2;simp[k1,l1,l2,q1,q2,q3,q4,q5,q6,wk];refine au1 (RQ @k1 @l1 @l2 @q1 @q2 @q3 @q4 @q5 @q6 @wk) ?_;intros;apply wr;refine ar ?_;simp[lookO];refine⟨by simp[lookO,q1,q3,k1],by omega,fun q z1 z2=>?_⟩;have y1:¬q=nx:=by omega
 have y2:¬q=x1:=by omega
 have y3:=h3 q (by omega) z2;have y4:=i3 q (by omega) z2;have y5:=k3 q (by omega) z2;simp[lookO,y1,y2]at y3 y4 y5 ⊢;rw[y5,y4,y3]
theorem TN{nx:Nat}{ob:List (Nat×Option Ob)}(id:Nat)(d:Str)(r:Str)(hs:(BG 5++((BG d.length++(d++r)))).length<=900000)(hob:lookO ob id=some (Lz (BG 5++((BG d.length++(d++r)))) false))(hid:id<nx):
  Bt prog 257 [.ptr id 2 0 0] nx ob fun v nx' ob'=>v=.st [iv 5,uv 0,.str d]/\RdP nx ob id r nx' ob':=by
 have q1:¬id=nx:=by omega
 have q2:¬nx=id:=by omega
 have wk:IntKind.i64.wrap 5=5:=AA (by decide) (by decide);refine sIY func257 ntmps257 @hob ?_;intros;apply wr;refine cO ?_;refine(EM id 5 ((BG d.length++(d++r))) (by decide) (by decide) (by simp at hs ⊢;omega) (by simp[lookO,q1,hob]) (by omega)).mono fun r nx' ob' hp=>?_;simp only[BX];obtain⟨rfl,h1,h2,h3⟩:=hp
 rename Nat=>x1
 rename List (Nat×Option Ob)=>o1
 have g1:=h3 nx (by omega) q2;simp only[lookO,if_true]at g1;have q3:¬id=x1:=by omega
 have q4:¬x1=id:=by omega
 have q5:¬nx=x1:=by omega
 have q6:¬x1=nx:=by omega
 simp;refine au1 (kX9 @h1 @g1 @q1 @q2 @q3 @q4 @q5 @q6 @wk) ?_;refine EG (kX9 @h1 @g1 @q1 @q2 @q3 @q4 @q5 @q6 @wk) ?_;refine EG (kX9 @h1 @g1 @q1 @q2 @q3 @q4 @q5 @q6 @wk) ?_;refine EG (kX9 @h1 @g1 @q1 @q2 @q3 @q4 @q5 @q6 @wk) ?_;refine EG (kX9 @h1 @g1 @q1 @q2 @q3 @q4 @q5 @q6 @wk) ?_;refine IZ (kX9 @h1 @g1 @q1 @q2 @q3 @q4 @q5 @q6 @wk) ?_;refine cY (Yz) (kX9 @h1 @g1 @q1 @q2 @q3 @q4 @q5 @q6 @wk) ?_;intros;apply wr;refine cO ?_;refine(Sx id d r (by simp at hs ⊢;omega) (by simp[lookO,q1,q3,h1]) (by omega)).mono fun r nx' ob' hp=>?_;simp only[BX];obtain⟨rfl,k1,k2,k3⟩:=hp
 rename Nat=>x3
 rename List (Nat×Option Ob)=>o3
 have l1:=k3 nx (by omega) q2;have l2:=k3 x1 (by omega) q4;simp[lookO,q5,q6,g1]at l1 l2;simp[k1,l1,l2,q1,q2,q3,q4,q5,q6,wk];refine au1 (RQ @k1 @l1 @l2 @q1 @q2 @q3 @q4 @q5 @q6 @wk) ?_;intros;apply wr;refine ar ?_;simp[lookO];refine⟨by simp[lookO,q1,q3,k1],by omega,fun q z1 z2=>?_⟩;have y1:¬q=nx:=by omega
 have y2:¬q=x1:=by omega
 have y3:=h3 q (by omega) z2;have y4:=k3 q (by omega) z2;simp[lookO,y1,y2]at y3 y4 ⊢;rw[y4,y3]
theorem TK{nx:Nat}{ob:List (Nat×Option Ob)}(id:Nat)(r:Str)(hs:(BG 2++r).length<=900000)(hob:lookO ob id=some (Lz (BG 2++r) false))(hid:id<nx):
  Bt prog 257 [.ptr id 2 0 0] nx ob fun v nx' ob'=>v=.st [iv 2,uv 0,.str []]/\RdP nx ob id r nx' ob':=by
 have q1:¬id=nx:=by omega
 have q2:¬nx=id:=by omega
 have wk:IntKind.i64.wrap 2=2:=AA (by decide) (by decide);refine sIY func257 ntmps257 @hob ?_;intros;apply wr;refine cO ?_;refine(EM id 2 (r) (by decide) (by decide) (by simp at hs ⊢;omega) (by simp[lookO,q1,hob]) (by omega)).mono fun r nx' ob' hp=>?_;simp only[BX];obtain⟨rfl,h1,h2,h3⟩:=hp
 rename Nat=>x1
 rename List (Nat×Option Ob)=>o1
 have g1:=h3 nx (by omega) q2;simp only[lookO,if_true]at g1;have q3:¬id=x1:=by omega
 have q4:¬x1=id:=by omega
 have q5:¬nx=x1:=by omega
 have q6:¬x1=nx:=by omega
 simp;refine au1 (kX9 @h1 @g1 @q1 @q2 @q3 @q4 @q5 @q6 @wk) ?_;refine EG (kX9 @h1 @g1 @q1 @q2 @q3 @q4 @q5 @q6 @wk) ?_;refine EG (kX9 @h1 @g1 @q1 @q2 @q3 @q4 @q5 @q6 @wk) ?_;refine EG (kX9 @h1 @g1 @q1 @q2 @q3 @q4 @q5 @q6 @wk) ?_;refine EG (kX9 @h1 @g1 @q1 @q2 @q3 @q4 @q5 @q6 @wk) ?_;refine EG (kX9 @h1 @g1 @q1 @q2 @q3 @q4 @q5 @q6 @wk) ?_;refine cY (Yz) (kX9 @h1 @g1 @q1 @q2 @q3 @q4 @q5 @q6 @wk) ?_;refine cY (P2) (kX9 @h1 @g1 @q1 @q2 @q3 @q4 @q5 @q6 @wk) ?_;intros;apply wr;refine ar ?_;simp[lookO];refine⟨by simp[lookO,q1,q3,h1],by omega,fun q z1 z2=>?_⟩;have y1:¬q=nx:=by omega
 have y2:¬q=x1:=by omega
 have y3:=h3 q (by omega) z2;simp[lookO,y1,y2]at y3 ⊢;rw[y3]
theorem Wd{nx:Nat}{ob:List (Nat×Option Ob)}(id:Nat)(e:EvD)(r:Str)(hv:evVal e=true)(hn:W32 e.n)(hs:(Ef e++r).length<=900000)(hob:lookO ob id=some (Lz (Ef e++r) false))(hid:id<nx):
  Bt prog 257 [.ptr id 2 0 0] nx ob fun v nx' ob'=>v=.st e.row/\RdP nx ob id r nx' ob':=by
 obtain⟨k,n,d⟩:=e;unfold evVal at hv;unfold Ef at hs hob;simp only at hv hn hs hob ⊢;by_cases k1:k=1\/k=3\/k=6
 ·have hd:d=[]:=by rcases k1 with rfl|rfl|rfl<;>simp at hv<;>first|exact hv|exact hv.2
  subst hd;rw[if_pos k1,iH]at hs hob;rcases k1 with rfl|rfl|rfl
  ·exact TJ id n hn r hs hob hid
  ·exact TL id n hn r hs hob hid
  exact TO id n hn r hs hob hid
 rw[if_neg k1]at hs hob;by_cases k4:k=4
 ·subst k4;rw[if_pos rfl,iH,iH,iH]at hs hob;exact TM id n hn d r hs hob hid
 rw[if_neg k4]at hs hob;by_cases k5:k=5
 ·subst k5;simp at hv;obtain⟨⟨rfl,-⟩,-⟩:=hv;rw[if_pos rfl,iH,iH]at hs hob;exact TN id d r hs hob hid
 rw[if_neg k5]at hs hob;have k2:k=2:=by
  by_cases z:k=2
  ·exact z
  exfalso;simp[z,k4,k5,show ¬k=1 by omega,show ¬k=3 by omega,show ¬k=6 by omega]at hv
 subst k2;have hz:n=0/\d=[]:=by simpa using hv
 obtain⟨rfl,rfl⟩:=hz;exact TK id r hs hob hid
theorem RG(f:Int)(e:EntD)(r:List EntD):Dt f (e::r)=BG (e.at_-f)++(Ef e.ev++Dt e.at_ r):=rfl
theorem aM(l:List EntD)(f:Int)(hf:L64 f)(hE:∀e∈l,OkT e)(hb:l.length<=100000)(h0:Dx l f=0):AC prog 192 [.str (Ly l f).1,lv f] (.tup [Bo l,iv 0]):=by
 have he:=TF l f hf hE hb;have hS:Ly l f=(BG l.length++Dt f l,0):=by unfold Ly;rw[if_pos h0]
 rw[hS]at he ⊢;simp only at he ⊢;have hp:l.length<=400/\(l.all fun e=>evVal e.ev)=true/\ordD l=true/\firstOk f l=true/\(BG l.length++Dt f l).length<=65536:=by
  unfold Dx at h0;split at h0
  ·cases h0
  split at h0
  ·cases h0
  split at h0
  ·cases h0
  split at h0
  ·cases h0
  rename_i a1 a2 a3 a4;simp only[not_or,Bool.not_eq_false]at a2 a3;exact⟨by omega,a2,a3.1,a3.2,by omega⟩
 obtain⟨p1,p2,p3,p4,p5⟩:=hp;have p6:(Dt f l).length<=65536:=by rw[gV]at p5;omega
 have c1:¬(400:Int)<l.length:=by omega
 obtain⟨S,hSS⟩:∃S,S=BG l.length++Dt f l:=⟨_,rfl⟩;refine sX func192 ntmps192 ?_;intros;apply wr;refine cO ?_;refine(UG 0 l.length (Dt f l) ⟨by omega,by omega⟩ (by omega) (by simp[lookO]) (by decide)).mono fun r nx' ob' hp=>?_;simp only[BX];obtain⟨rfl,h1,h2,h3⟩:=hp
 rename Nat=>x1
 rename List (Nat×Option Ob)=>o1
 simp[h1];refine au1 (kX2 @h1 @c1) ?_;refine EP @c1 @h1 ?_;intros;apply wr;refine AT 8 108 4 (by decide) rfl ?_;rw[<- hSS]at he ⊢;clear hS h3;refine Aa (l.length+1) ?_;refine BM (fun c stt=>∃(T:List (Nat×V))(i q x:Nat)(a:Int)(o:List (Nat×Option Ob)),stt=⟨55,T,x,o,0⟩/\(lkT T 22=.int .u64 i/\lkT T 21=lv l.length/\lkT T 9=lv a/\lkT T 8=.own q/\lkT T 6=.ptr 0 2 0 0/\lkT T 1=lv f/\lkT T 0=.str S)/\i+c=l.length/\lookO o 0=some (Lz (Dt a (l.drop i)) false)/\lookO o q=some ⟨108,4,false,false,ents (l.take i)⟩/\q<x/\0<q/\L64 a/\(Dt a (l.drop i)).length<=65536/\firstOk a (l.drop i)=true/\ordD (l.drop i)=true) ?_ _ _ ⟨_,0,x1,_,f,_,rfl,by simp[lkT],by omega,by simp[lookO,show ¬0=x1 by omega,h1],by simp[lookO],Nat.lt_succ_self _,by omega,hf,p6,p4,p3⟩;rintro c stt ⟨T,i,q,x,a,o,rfl,⟨t22,t21,t9,t8,t6,t1,t0⟩,hic,ho,hq,hqx,hq0,ha,hlen,hfi,hor⟩ Kl hKl;refine Bq [(22,.int .u64 i),(21,lv l.length),(9,lv a),(8,.own q),(6,.ptr 0 2 0 0),(1,lv f),(0,.str S)] (by simp[t22,t21,t9,t8,t6,t1,t0]) ?_;refine au ?_;intros;apply wr;by_cases hlt:i<l.length
 ·have k1:(i:Int)<l.length:=by omega
  obtain⟨c,rfl⟩:∃d,c=d+1:=⟨c-1,by omega⟩;obtain⟨e,hg,hd,ht,hmem⟩:=get_at hlt;have hv:=List.all_eq_true.1 p2 e hmem;have hT:=hE e hmem;rw[hd,RG]at hlen ho;rw[hd]at hfi hor;simp only[firstOk,decide_eq_true_eq]at hfi;obtain⟨g1,g2⟩:=Py hor;have ha2:=hT.a;have w1:IntKind.u64.wrap (a+(e.at_-a))=e.at_:=by rw[IntKind.wrap_u64];have:=ha2.1;have:=ha2.2;omega
  have w2:IntKind.u64.wrap ((i:Int)+1)=(i:Int)+1:=by rw[IntKind.wrap_u64];omega
  refine ED (kX2 @hlt @k1) ?_;intros;apply wr;refine cO ?_;refine(UG 0 (e.at_-a) (Ef e.ev++Dt e.at_ (l.drop (i+1))) ⟨by omega,by have:=ha2.2;have:=ha.1;omega⟩ (by omega) ho (by omega)).mono fun r nx' ob' hp=>?_;simp only[BX];obtain⟨rfl,m1,m2,m3⟩:=hp
  rename Nat=>x2
  rename List (Nat×Option Ob)=>o2
  have m4:=m3 q hqx (by omega);rw[hq]at m4;simp[m1,w1];refine au1 (kX2 @m1 @w1) ?_;intros;apply wr;refine cO ?_;refine(Wd 0 e.ev (Dt e.at_ (l.drop (i+1))) hv hT.n (by simp at hlen ⊢;omega) m1 (by omega)).mono fun r nx' ob' hp=>?_;simp only[BX];obtain⟨rfl,n1,n2,n3⟩:=hp
  rename Nat=>x3
  rename List (Nat×Option Ob)=>o3
  have n4:=n3 q (by omega) (by omega);rw[m4]at n4;have b1:¬0=x3:=by omega
  have b2:¬q=x3:=by omega
  have b3:¬0=q:=by omega
  have b4:¬x3=q:=by omega
  have b5:¬q=x3+1:=by omega
  have b6:¬x3+1=q:=by omega
  have hel:=Ay (l.take i);have htl:(l.take i).length=i:=by rw[iD];omega
  simp[n1,n4,b1,b2,b3,b4];refine au1 (kX6 @n1 @n4 @b1 @b2 @b3 @b4) ?_;refine EG (ZI @n1 @n4 @b1 @b2 @b3 @b4 @b5 @b6 @w2 @hel @htl @maxLen.eq_1) ?_;intros;apply wr;have b7:¬0=x3+1+1:=by omega
  have b8:¬0=x3+1:=by omega
  refine hKl c _ rfl ⟨_,i+1,x3+1+1,x3+1+1+1,e.at_,_,rfl,by simp[lkT],by omega,by simp[lookO,b1,b3,b7,b8,n1],by simp[lookO,ht,LF,P1],by omega,by omega,ha2,by simp at hlen;omega,g1,g2⟩
 have k1:¬(i:Int)<l.length:=by omega
 have htk:l.take i=l:=iZ (by omega);rw[htk]at hq;refine EP (kX2 @hlt @k1) @hq ?_;refine cZ (he) @hq @hq ?_;refine C3 ?_;refine aw ?_;simp
theorem Qe(n:Int)(r:Str)(h:L64 n)(hs:(BG n++r).length<=1000000):AC prog 131 [.str (BG n++r)] (.tup [lv n,iv (BG n).length,.bool true]):=by
 have hu:=PC (BG n++r) hs;rw[Jh n h r]at hu;have e:((n.toNat:Nat):Int)=n:=by have:=h.1;omega
 simpa[Ls,e]using hu
theorem VM{g:SegD}(h:En g=true):(Ai g).2=0/\g.from_<=g.known/\DY g.ents g.known=false/\Dx g.ents g.from_=0/\(Ai g).1=(Ly g.ents g.from_).1:=by
 have h0:(Ai g).2=0:=by unfold En at h;simpa using h
 refine⟨h0,?_⟩;unfold Ai at h0 ⊢;split at h0
 ·cases h0
 rename_i q;rw[if_neg q];refine⟨by omega,by simpa using fun z=>q (.inr z),?_,rfl⟩;unfold Ly at h0;split at h0
 ·assumption
 exact h0
theorem aK(g:SegD)(h:OkG g)(ho:En g=true):AC prog 135 [.str (EK g).1] (.tup [.st g.row,iv 0]):=by
 obtain⟨h0,h1,h2,h3,h4⟩:=VM ho;have hE:(EK g).1=BG g.from_++(BG g.known++GV (Ai g).1):=by unfold EK;rw[if_pos h0]
 have hsl:=E4 g;have hpl:=FS (Ai g).1;have l1:=Ae g.from_;have l2:=Ae g.known;have u1:=Qe g.from_ (BG g.known++GV (Ai g).1) h.f (by simp;omega);have u2:=Qe g.known (GV (Ai g).1) h.k (by simp;omega);have un:=V7 (Ai g).1 65536 (by omega) (by omega) (by decide);have dl:=aM g.ents g.from_ h.f h.e (by have:=h.n;omega) h3;rw[<- h4]at dl;have be:=MJ g.ents g.known;rw[h2]at be;have c1:¬g.known<g.from_:=by omega
 rw[hE];generalize GV (Ai g).1=C at *;generalize (Ai g).1=L at *;generalize BG g.from_=A at *;generalize BG g.known=B at *;have t1:List.drop A.length (List.take ((A.length:Int)+((B.length:Int)+(C.length:Int))).toNat (A++(B++C)))=B++C:=by
  rw[iZ (by simp;omega),List.drop_left]
 have t2:List.drop B.length (List.take ((B.length:Int)+(C.length:Int)).toNat (B++C))=C:=by
  rw[iZ (by simp;omega),List.drop_left]
 refine sX func135 ntmps135 ?_;refine cY (u1) @t1 ?_;refine EG @t1 ?_;refine cZ (u2) @t1 @t2 ?_;refine EP @c1 @t2 ?_;refine cc1 (un) @t2 ?_;refine au ?_;refine C3 ?_;refine cX (dl) ?_;refine C3 ?_;refine cX (be) ?_;refine C3 ?_;refine ar ?_;simp
abbrev aU(xs:List (List V)):Ob:=⟨149,4,false,false,xs⟩
theorem KT(a b:Int):AC prog 134 [.st [lv a,lv b,.sl 4 false []]] (.st [lv a,lv b,.new 149 4 []]):=by
 have w:IntKind.i64.wrap 1=1:=AA (by decide) (by decide);refine sZ func134 ntmps134 ?_;refine Jn (kX2 @maxLen.eq_1 @w) ?_;(repeat intro K hK);apply wr
 (refine af1 (kX2 @maxLen.eq_1 @w) ?_;(repeat intro K hK);apply wr)
 repeat' ((first|(refine AB rfl (fun h=>?_) (fun h=>?_)<;>(first|(simp[maxLen,w]at h;done)|(simp[maxLen,w]at h)|skip)<;>(first|(exfalso;omega)|skip))|refine Aa 1 ?_|refine BD fun K hK=>?_|(refine AD 10 [0,0,2,0,8,24,62,126,255,511] [(8,([[],[],[1],[],[3],[3,4],[1,2,3,4,5],[1,2,3,4,5,6]],[(2,5)])),(1,([],[])),(1,([],[]))] ?_)|exact rt1 (kX2 @maxLen.eq_1 @w)|fail)<;>(refine af1 (kX2 @maxLen.eq_1 @w) ?_;(repeat intro K hK);apply wr))
theorem NN(n k:Int)(h1:1<=n)(h2:n<=4611686018427387904):AC prog 75 [.st [lv n,lv k,.sl 4 false []]] (.bool true):=by
 have c1:¬n<1:=by omega
 have c2:¬4611686018427387904<n:=by omega
 refine sY func75 ntmps75 (kX2 @c1 @c2) ?_;(repeat intro K hK);apply wr
 (refine au1 (kX2 @c1 @c2) ?_;(repeat intro K hK);apply wr)
 repeat' ((first|(refine AB rfl (fun h=>?_) (fun h=>?_)<;>(first|(simp[c1,c2]at h;done)|(simp[c1,c2]at h)|skip)<;>(first|(exfalso;omega)|skip))|refine Aa 1 ?_|refine BD fun K hK=>?_|exact rt1 (kX2 @c1 @c2)|fail)<;>(refine au1 (kX2 @c1 @c2) ?_;(repeat intro K hK);apply wr))
theorem Xt(n k:Int)(h1:1<=n)(h2:n<=4611686018427387904)(hk:L64 k):AC prog 30 [.st [lv n,lv k,.sl 4 false []]] (.str (slD n (65::BG k))):=by
 have l1:=Ae k;have hs:=VP n (65::BG k) ⟨by omega,by omega⟩ (by simp;omega);refine sZ func30 ntmps30 ?_
 (refine af ?_;intros;apply wr)
 repeat' ((first|(refine AB rfl (fun h=>?_) (fun h=>?_)<;>(first|(simp at h;done)|(simp at h)|skip)<;>(first|(exfalso;omega)|skip))|refine cc (NN n k h1 h2) ?_|refine cc (FV k hk) ?_|refine cc (hs) ?_|(refine AD 8 [0,1,0,4,12,28,63,127] [(6,([[],[0],[],[2],[2,3],[2,3,4]],[(1,4)])),(1,([],[])),(1,([],[]))] ?_)|exact rt|fail)<;>(refine af ?_;intros;apply wr))
theorem find_ok(k:Int)(f:V)(hf:ND [f]):AC prog 136 [.sl 4 false [],lv k,f] (.tup [iv 0,.bool false]):=by
 refine sX func136 ntmps136 ?_;(repeat intro K hK);apply wr
 (refine au ?_;(repeat intro K hK);apply wr)
 repeat' ((first|(refine AB rfl (fun h=>?_) (fun h=>?_)<;>(first|(simp at h;done)|(simp at h)|skip)<;>(first|(exfalso;omega)|skip))|refine Aa 1 ?_|refine BD fun K hK=>?_|exact rt|fail)<;>(refine au ?_;(repeat intro K hK);apply wr))
theorem ZG{nx:Nat}{ob:List (Nat×Option Ob)}(i k:Nat)(y:List V)(hi:lookO ob i=some (aU []))(hk:lookO ob k=some (aU [y]))(hne:k≠i):
  Bt prog 139 [.own i,iv 0,.own k] nx ob fun r nx' ob'=>r=.own nx/\nx'=nx+1/\ob'=(nx,some (aU [y]))::(i,none)::ob:=by
 refine sIY func139 ntmps139 (kX2 @hi @hk) ?_;intros;apply wr
 (refine af1 (kX6 @hi @hk @hne @maxLen.eq_1 @Vq.eq_1 @dG.eq_1) ?_;intros;apply wr)
 repeat' ((first|(refine AB rfl (fun h=>?_) (fun h=>?_)<;>(first|(simp[hi,hk,hne,maxLen,Vq,dG]at h;done)|(simp[hi,hk,hne,maxLen,Vq,dG]at h)|skip)<;>(first|(exfalso;omega)|skip))|(refine AD (rid:=11) 9 [0,0,0,6,15,0,0,96,255] [(8,([[],[],[],[1,2],[0,1,2,3],[],[],[5,6]],[])),(1,([],[]))] ?_)|(refine AD (rid:=15) 9 [0,0,0,6,15,0,0,96,255] [(8,([[],[],[],[1,2],[0,1,2,3],[],[],[5,6]],[])),(1,([],[]))] ?_)|exact rt1 (kX6 @hi @hk @hne @maxLen.eq_1 @Vq.eq_1 @dG.eq_1)|fail)<;>(refine af1 (kX6 @hi @hk @hne @maxLen.eq_1 @Vq.eq_1 @dG.eq_1) ?_;intros;apply wr))
theorem Ys{nx:Nat}{ob:List (Nat×Option Ob)}(i:Nat)(y:List V)(hi:lookO ob i=some (aU [y]))(hy:y.length=4):
  Bt prog 140 [.own i,iv 0,iv 1] nx ob fun r nx' ob'=>r=.own nx/\nx'=nx+1/\ob'=(nx,some (aU []))::(i,none)::(i,some (aU [[lv 0,lv 0,lv 0,.sl 0 true []]]))::(i,some (aU [y]))::ob:=by
 refine sIY func140 ntmps140 @hi ?_;intros;apply wr
 (refine af1 (kX3 @hi @hy @maxLen.eq_1) ?_;intros;apply wr)
 repeat' ((first|(refine AB rfl (fun h=>?_) (fun h=>?_)<;>(first|(simp[hi,hy,maxLen]at h;done)|(simp[hi,hy,maxLen]at h)|skip)<;>(first|(exfalso;omega)|skip))|(refine AD 8 [0,0,3,0,0,24,63,127] [(6,([[],[],[0,1],[],[],[3,4]],[])),(1,([],[])),(1,([],[]))] ?_)|exact rt1 (kX3 @hi @hy @maxLen.eq_1)|fail)<;>(refine af1 (kX3 @hi @hy @maxLen.eq_1) ?_;intros;apply wr))
 refine MF (sz:=4) (k:=0) 6 i (by simp[lkT]) (by simp[lookO];rfl) rfl rfl (Nat.zero_le _) ?_;refine ar ?_;simp
theorem YY(n k:Int)(g:SegD)(h1:1<=n)(h2:n<=4611686018427387904)(h:OkG g)(ho:En g=true)(hf:g.from_=k):AC prog 80 [.st [lv n,lv k,.sl 4 false []],.str (slD n (68::(EK g).1))] (.tup [.st [lv (n+1),lv g.known,.sl 4 false []],.sl 3 false [g.row],.bool true]):=by
 have hd:=aK g h ho;have hL:L64 n:=⟨by omega,by omega⟩;have hel:(EK g).1.length<=300000:=by
  have:=E4 g;have:=FS (Ai g).1;have:=Ae g.from_;have:=Ae g.known;unfold EK;split<;>simp<;>omega
 have hsl:(slD n (68::(EK g).1)).length<=1000000:=by
  have:=Ae n;have:=Ae ((68::(EK g).1).length:Int);have:=HC (LK Pd (slB n (68::(EK g).1)));unfold slD;rw[gV,this];simp only[slB,gV,iO]at *;omega
 have hb:=Pt (slD n (68::(EK g).1)) 68 hsl;rw[XQ n hL 68 _ (by omega)]at hb;have en:((n.toNat:Nat):Int)=n:=by omega
 simp only[Ht,en]at hb;have hb:AC prog 130 [.str (slD n (68::(EK g).1)),.int .u8 68] (.tup [lv n,.str (EK g).1,.bool true]):=hb;have w1:IntKind.u64.wrap (n+8)=n+8:=by rw[IntKind.wrap_u64];omega
 have w2:IntKind.u64.wrap (n+1)=n+1:=by rw[IntKind.wrap_u64];omega
 have c1:¬n+8<=n:=by omega
 have c2:¬n=n+1:=by omega
 generalize slD n (68::(EK g).1)=p at *;generalize (EK g).1=b at *;subst hf;refine sX func80 ntmps80 ?_;(repeat intro K hK);apply wr
 (refine af1 (kX5 @maxLen.eq_1 @w1 @w2 @c1 @c2) ?_;(repeat intro K hK);apply wr)
 repeat' ((first|(refine AB rfl (fun h=>?_) (fun h=>?_)<;>(first|(simp[maxLen,w1,w2,c1,c2]at h;done)|(simp[maxLen,w1,w2,c1,c2]at h)|skip)<;>(first|(exfalso;omega)|skip))|((first|refine .inl ⟨1,_,find_ok n (.fn 137) (by simp[ND,okG]),?_⟩|refine⟨1,_,find_ok n (.fn 137) (by simp[ND,okG]),?_⟩);simp[C0,Cd,noX,Cx,C9,maxLen,w1,w2,c1,c2];first|refine And.intro AQ ?_|skip)|((first|refine .inr ((ZG 4 17 [lv n,lv g.from_,lv g.known,Bo g.ents] (by simp[lookO]) (by simp[lookO]) (by decide)).mono fun r nx' ob' hp=>?_)|refine(ZG 4 17 [lv n,lv g.from_,lv g.known,Bo g.ents] (by simp[lookO]) (by simp[lookO]) (by decide)).mono fun r nx' ob' hp=>?_);obtain⟨rfl,rfl,rfl⟩:=hp;simp[BX,maxLen,w1,w2,c1,c2])|((first|refine .inr ((Ys 18 [lv n,lv g.from_,lv g.known,Bo g.ents] (by simp[lookO]) rfl).mono fun r nx' ob' hp=>?_)|refine(Ys 18 [lv n,lv g.from_,lv g.known,Bo g.ents] (by simp[lookO]) rfl).mono fun r nx' ob' hp=>?_);obtain⟨rfl,rfl,rfl⟩:=hp;simp[BX,maxLen,w1,w2,c1,c2])|refine cc1 (KT n g.from_) (kX5 @maxLen.eq_1 @w1 @w2 @c1 @c2) ?_|refine cc1 (hb) (kX5 @maxLen.eq_1 @w1 @w2 @c1 @c2) ?_|refine cc1 (NN n g.from_ h1 h2) (kX5 @maxLen.eq_1 @w1 @w2 @c1 @c2) ?_|refine cc1 (hd) (kX5 @maxLen.eq_1 @w1 @w2 @c1 @c2) ?_|refine Aa 2 ?_|refine BD fun K hK=>?_|(refine AD 14 [0,1,3,7,15,31,63,127,255,511,31,1055,4095,8191] [(1,([],[])),(1,([],[])),(1,([],[])),(1,([],[])),(1,([],[])),(7,([[],[0],[0,1],[0,1,2],[0,1,2,3],[],[5]],[])),(1,([],[])),(1,([],[]))] ?_)|exact rt1 (kX5 @maxLen.eq_1 @w1 @w2 @c1 @c2)|fail)<;>(refine af1 (kX5 @maxLen.eq_1 @w1 @w2 @c1 @c2) ?_;(repeat intro K hK);apply wr))
theorem YX(n k:Int)(p:Str)(x:Nat)(b:Str)(hb:AC prog 130 [.str p,.int .u8 68] (.tup [lv x,.str b,.bool false])):AC prog 80 [.st [lv n,lv k,.sl 4 false []],.str p] (.tup [.st [lv n,lv k,.sl 4 false []],.sl 3 false [],.bool false]):=by
 refine sZ func80 ntmps80 ?_
 (refine af ?_;intros;apply wr)
 repeat' ((first|(refine AB rfl (fun h=>?_) (fun h=>?_)<;>(first|(simp at h;done)|(simp at h)|skip)<;>(first|(exfalso;omega)|skip))|refine cc (KT n k) ?_|refine cc (hb) ?_|(refine AD 14 [0,1,3,7,15,31,63,127,255,511,31,1055,4095,8191] [(1,([],[])),(1,([],[])),(1,([],[])),(1,([],[])),(1,([],[])),(7,([[],[0],[0,1],[0,1,2],[0,1,2,3],[],[5]],[])),(1,([],[])),(1,([],[]))] ?_)|exact rt|fail)<;>(refine af ?_;intros;apply wr))
abbrev pkD(b:Int)(g:SegD):Str:=slD b (68::(EK g).1)
def Ka:Int->List SegD->List Str
 | _,[]=>[]
 | b,g::r=>pkD b g::Ka (b+1) r
theorem aY(g:SegD):(EK g).1.length<=300000:=by
 have:=E4 g;have:=FS (Ai g).1;have:=Ae g.from_;have:=Ae g.known;unfold EK;split<;>simp<;>omega
theorem Z8(n:Int)(b:Str):(slD n b).length<=b.length+30:=by
 have:=Ae n;have:=Ae (b.length:Int);have:=HC (LK Pd (slB n b));unfold slD;rw[gV,this];simp only[slB,gV];omega
theorem MQ:∀(l:List SegD)(a:Int),chainOk a l=true->∀g∈l,En g=true
 | [],_,_,g,h=>by simp at h
 | x::l,a,h,g,hg=>by
  rw[chainOk,gX,gX]at h;rcases List.mem_cons.1 hg with rfl|q
  ·exact h.1.2
  exact MQ l _ h.2 g q
theorem Fy{s:SndD}(h:CH s=true):1<=s.base/\s.base<=4611686018427387904/\s.queue.length<=8/\∀g∈s.queue,En g=true:=by
 unfold CH at h;split at h
 ·cases h
 rename_i q;refine⟨by omega,by omega,by omega,?_⟩;cases hq:s.queue with
 | nil=>simp
 | cons g r =>
  simp only[hq]at h;rw[gX,gX]at h;exact MQ _ _ h.1.2
theorem spk_ok(s:SndD)(h:∀g∈s.queue,OkG g)(ho:CH s=true):AC prog 29 [.st s.row] (.new 9 1 (strs (Ka s.base s.queue))):=by
 have hso:=Fz s h;rw[ho]at hso;obtain⟨b1,b2,b3,hseg⟩:=Fy ho;have hl:=Df s.queue;have hnil:strs []=[]:=rfl;refine sX func29 ntmps29 ?_;refine cX (hso) ?_;refine EG @hl ?_;intros;apply wr;refine AT 3 9 1 (by decide) rfl ?_;obtain⟨I,hI⟩:∃I:Nat->St->Prop,I=(fun kk ss=>∃(i:Nat)(acc:List Str),i<=s.queue.length/\kk=s.queue.length-i/\(acc++Ka (s.base+i) (s.queue.drop i)=Ka s.base s.queue/\acc.length=i)/\ss=⟨37,[(14,.int .i64 i),(13,.int .i64 s.queue.length),(12,.sl 3 false (segs s.queue)),(1,.ptr 0 4 0 0),(3,.own 2)],3,[(2,some ⟨9,1,false,false,strs acc⟩),(0,some ⟨54,4,true,false,[s.row]⟩)],0⟩):=⟨_,rfl⟩;refine lX1 I (id) (by rw[hI];exact⟨0,[],by simp,rfl,⟨by simp,rfl⟩,rfl⟩) @hnil ?_;intro kk ss hIk _;rw[hI]at hIk;obtain⟨i,acc,hi,rfl,hx,rfl⟩:=hIk;obtain⟨hx1,hx2⟩:=hx;refine au1 @hl ?_;intros;apply wr;refine AB rfl (fun hh=>?_) (fun hh=>?_)
 ·simp at hh;obtain⟨g,hg,hd,-,hmem⟩:=get_at hh;have hget:=HA hg;have he:=aW g (h g hmem);have hel:=aY g;have hw1:IntKind.u64.wrap (i:Int)=i:=by rw[IntKind.wrap_u64];omega
  have hw2:IntKind.u64.wrap (s.base+i)=s.base+i:=by rw[IntKind.wrap_u64];omega
  have hs:=VP (s.base+i) (68::(EK g).1) ⟨by omega,by omega⟩ (by simp;omega);have hal:=BV acc;rw[hd,Ka]at hx1;refine au1 @hget ?_;refine cY (he) (kX2 @hw1 @hw2) ?_;refine cZ (hs) (kX2 @hw1 @hw2) (kX3 @hal @hx2 @maxLen.eq_1) ?_;intros;apply wr;have e1:s.base+((i+1:Nat):Int)=s.base+i+1:=by omega
  have hst:strs (acc++[pkD (s.base+i) g])=strs acc++[[.str (pkD (s.base+i) g)]]:=by simp[strs]
  exact aX (fun x=>if x=2 then 8 else x) (by rw[hI];exact⟨i+1,(acc++[pkD (s.base+i) g]),by omega,rfl,⟨by rw[e1,<- hx1];simp,by simp[hx2]⟩,rfl⟩) (kX2 (AA (n:=(i:Int)+1)) @hst)
 simp at hh;rw[Cf hh,Ka,iU]at hx1;refine au ?_;refine ar ?_;simp[hx1]
theorem Sy{nx:Nat}{ob:List (Nat×Option Ob)}(i:Nat)(y:List V)(hi:lookO ob i=some ⟨145,3,false,false,[y]⟩)(hy:y.length=3):
  Bt prog 132 [.own i,iv 0,iv 1] nx ob fun r nx' ob'=>r=.own nx/\nx'=nx+1/\ob'=(nx,some ⟨145,3,false,false,[]⟩)::(i,none)::(i,some ⟨145,3,false,false,[[lv 0,lv 0,.sl 0 true []]]⟩)::(i,some ⟨145,3,false,false,[y]⟩)::ob:=by
 refine sIY func132 ntmps132 @hi ?_;intros;apply wr
 (refine af1 (kX3 @hi @hy @maxLen.eq_1) ?_;intros;apply wr)
 repeat' ((first|(refine AB rfl (fun h=>?_) (fun h=>?_)<;>(first|(simp[hi,hy,maxLen]at h;done)|(simp[hi,hy,maxLen]at h)|skip)<;>(first|(exfalso;omega)|skip))|(refine AD 8 [0,0,3,0,0,24,63,127] [(6,([[],[],[0,1],[],[],[3,4]],[])),(1,([],[])),(1,([],[]))] ?_)|exact rt1 (kX3 @hi @hy @maxLen.eq_1)|fail)<;>(refine af1 (kX3 @hi @hy @maxLen.eq_1) ?_;intros;apply wr))
 refine MF (sz:=3) (k:=0) 6 i (by simp[lkT]) (by simp[lookO];rfl) rfl rfl (Nat.zero_le _) ?_;refine ar ?_;simp
theorem XR(n:Int)(c m:UInt8)(t:Str)(h:L64 n)(ht:t.length<=300000):AC prog 130 [.str (slD n (c::t)),.int .u8 (m.toNat:Int)] (if c=m then .tup [lv n,.str t,.bool true]else .tup [lv 0,.str [],.bool false]):=by
 have hb:=Pt (slD n (c::t)) m (by have:=Z8 n (c::t);simp at this;omega);have en:((n.toNat:Nat):Int)=n:=by have:=h.1;omega
 have e:O3 (slD n (c::t)) m=if c=m then(n.toNat,t,true)else(0,[],false):=by
  unfold O3;rw[I6 n h (c::t) (by simp;omega)];rfl
 rw[e]at hb;split
 ·rename_i q;rw[if_pos q]at hb;simpa[Ht,en]using hb
 rename_i q;rw[if_neg q]at hb;simpa[Ht]using hb
theorem Zh(s:SndD)(g:SegD)(hq:s.queue=[g])(h:OkG g)(ho:CH s=true):AC prog 77 [.st s.row,.str (slD (s.base+1) (65::BG g.known))] (.tup [.st (SndD.row ⟨s.base+1,s.tail,g.known,[]⟩),.bool true]):=by
 obtain⟨b1,b2,b3,hseg⟩:=Fy ho;have hcp:=Fb s (by rw[hq];simp;have:=h.n;omega) (by rw[hq];simp);have hso:=Fz s (by rw[hq];simpa using h);rw[ho]at hso;have l1:=Ae g.known;have hop:=XR (s.base+1) 65 65 (BG g.known) ⟨by omega,by omega⟩ (by omega);rw[if_pos rfl]at hop;have hop:AC prog 130 [.str (slD (s.base+1) (65::BG g.known)),.int .u8 65] (.tup [lv (s.base+1),.str (BG g.known),.bool true]):=hop;have hu:=Qe g.known [] h.k (by simp;omega);rw[iU]at hu;generalize slD (s.base+1) (65::BG g.known)=p at *;generalize BG g.known=t at *;have w1:IntKind.u64.wrap (s.base+1-s.base)=1:=by rw[IntKind.wrap_u64];omega
 have c1:¬s.base+1<=s.base:=by omega
 have w2:IntKind.i64.wrap 1=1:=AA (by decide) (by decide);have w3:IntKind.u64.wrap 1=1:=by decide
 have w4:IntKind.i64.wrap 0=0:=AA (by decide) (by decide);obtain⟨a,b,c,q⟩:=s;simp only at *;subst hq;refine sX func77 ntmps77 ?_;intros;apply wr
 (refine au1 (kX6 @w1 @w2 @w3 @w4 @c1 @BL) ?_;intros;apply wr)
 repeat' ((first|(refine AB rfl (fun h=>?_) (fun h=>?_)<;>(first|(simp[w1,w2,w3,w4,c1,BL]at h;done)|(simp[w1,w2,w3,w4,c1,BL]at h)|skip)<;>(first|(exfalso;omega)|skip))|((first|refine .inr ((Sy 5 g.row (by simp[lookO]) rfl).mono fun r nx' ob' hp=>?_)|refine(Sy 5 g.row (by simp[lookO]) rfl).mono fun r nx' ob' hp=>?_);obtain⟨rfl,rfl,rfl⟩:=hp;simp[BX,w1,w2,w3,w4,c1,BL])|refine cc1 (hcp) (kX6 @w1 @w2 @w3 @w4 @c1 @BL) ?_|refine cc1 (hop) (kX6 @w1 @w2 @w3 @w4 @c1 @BL) ?_|refine cc1 (hso) (kX6 @w1 @w2 @w3 @w4 @c1 @BL) ?_|refine cc1 (hu) (kX6 @w1 @w2 @w3 @w4 @c1 @BL) ?_|exact rt1 (kX6 @w1 @w2 @w3 @w4 @c1 @BL)|fail)<;>(refine au1 (kX6 @w1 @w2 @w3 @w4 @c1 @BL) ?_;intros;apply wr))
theorem Zg(s:SndD)(x:Int)(hq:s.queue=[])(hx:L64 x)(ho:CH s=true):AC prog 77 [.st s.row,.str (slD s.base (65::BG x))] (.tup [.st s.row,.bool false]):=by
 obtain⟨b1,b2,b3,hseg⟩:=Fy ho;have hcp:=Fb s (by rw[hq];simp) (by rw[hq];simp);have hso:=Fz s (by rw[hq];simp);rw[ho]at hso;have l1:=Ae x;have hop:=XR s.base 65 65 (BG x) ⟨by omega,by omega⟩ (by omega);rw[if_pos rfl]at hop;have hop:AC prog 130 [.str (slD s.base (65::BG x)),.int .u8 65] (.tup [lv s.base,.str (BG x),.bool true]):=hop;have hu:=Qe x [] hx (by simp;omega);rw[iU]at hu;generalize slD s.base (65::BG x)=p at *;generalize BG x=t at *;obtain⟨a,b,c,q⟩:=s;simp only at *;subst hq;refine sZ func77 ntmps77 ?_;exact wx (qX4 (hcp) (hop) (hso) (hu)) trivial
theorem Zj(s:SndD)(p:Str)(x:Int)(b:Str)(hs:∀g∈s.queue,OkG g)(hn:s.queue.length<=1000)(hb:AC prog 130 [.str p,.int .u8 65] (.tup [lv x,.str b,.bool false])):AC prog 77 [.st s.row,.str p] (.tup [.st s.row,.bool false]):=by
 have hcp:=Fb s (fun g hg=>by have:=(hs g hg).n;omega) hn;refine sZ func77 ntmps77 ?_;exact wx (qX2 (hcp) (hb)) trivial
end Go.Proofs.YtjkmhmepljamoaaGreat
end
