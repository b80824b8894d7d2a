/- A part of the proof of ReplicaTakes. -/
import Derived.Test.YtjkmhmepljamoaaGreatT07
import Derived.Test.YtjkmhmepljamoaaGreatT18
import Derived.Test.YtjkmhmepljamoaaGreatT42
import Derived.Test.YtjkmhmepljamoaaGreatT43
set_option linter.all false
set_option maxHeartbeats 16000000
set_option maxRecDepth 100000
section
namespace Go.Proofs.YtjkmhmepljamoaaGreat
open Go.Ab Go.RowKit Tryz
def EI(g:SegD):Str×Int:=if(Af g).2=0 then(BQ g.from_++(BQ g.known++GI (Af g).1),0)else([],(Af g).2)
theorem E4(g:SegD):(Af g).1.length<=65536:=by
 unfold Af;split
 ·simp
 unfold Lh;split
 ·rename_i h;unfold Dt at h;split at h
  ·cases h
  split at h
  ·cases h
  split at h
  ·cases h
  split at h
  ·cases h
  show(BQ _++Dn _ _).length<=65536;omega
 simp
theorem Zu(g:SegD)(h:OkG g):AC prog 73 [.st g.row] (.tup [.str (EI g).1,iv (EI g).2]):=by
 have hpl:(GI (Af g).1).length<=1000000:=by have:=FO (Af g).1;have:=E4 g;omega
 have hl:=Ib g h;have hc:=Zg (Af g).1 (by have:=E4 g;omega);have p1:=Fv g.from_ h.f;have p2:=Fv g.known h.k;have l1:=Aj g.from_;have l2:=Aj g.known;have hD:EI g=if(Af g).2=0 then(BQ g.from_++(BQ g.known++GI (Af g).1),0)else([],(Af g).2):=rfl
 generalize (Af g).1=x at *;generalize (Af g).2=e at *;by_cases he:e=0
 ·subst he;rw[if_pos rfl]at hD;refine sX func73 ntmps73 ?_;refine cX (hl) ?_;refine CX ?_;intros;apply wr;refine AG 12 [0,1,3,0,8,31,63,0,191,511,1023,2047] [(9,([[],[0],[0,1],[],[3],[0,1,2,3,4],[0,1,2,3,4,5],[],[0,1,2,3,4,5,7]],[(4,2)])),(1,([],[])),(1,([],[])),(1,([],[]))] ?_;refine af ?_;refine cXf (p1) ?_;refine cXf (p2) ?_;refine cXf (hc) ?_;refine ar ?_;simp[hD]
 have z1:(e != 0)=true:=by simpa using he
 rw[if_neg he]at hD;refine sX func73 ntmps73 ?_;refine cXf (hl) ?_;refine Eh (kX2 @z1 @he) ?_;refine ar ?_;simp[hD]
def RdP(nx:Nat)(ob:List (Nat×Option Ob))(id:Nat)(r:Str)(nx':Nat)(ob':List (Nat×Option Ob)):Prop:=lookO ob' id=some (Li r false)/\nx<=nx'/\∀q,q<nx->q≠id->lookO ob' q=lookO ob q
theorem Tm{nx:Nat}{ob:List (Nat×Option Ob)}(id:Nat)(n:Int)(r:Str)(h:L64 n)(hs:(BQ n++r).length<=1000000)(hob:lookO ob id=some (Li (BQ n++r) false))(hn:id<nx):
  Bt prog 189 [.ptr id 2 0 0] nx ob fun v nx' ob'=>v=lv n/\RdP nx ob id r nx' ob' :=
 (KJ id _ false hs hob hn).mono fun v nx' ob' ⟨h1,h2⟩=>by
  rw[IP n h r]at h1 h2;have:=h.1;exact⟨by rw[h1];simp only;congr;omega,h2⟩
theorem EK{nx:Nat}{ob:List (Nat×Option Ob)}(id:Nat)(n:Int)(r:Str)(h0:0<=n)(h1:n<=4294967295)(hs:(BQ n++r).length<=1000000)(hob:lookO ob id=some (Li (BQ n++r) false))(hn:id<nx):
  Bt prog 315 [.ptr id 2 0 0] nx ob fun v nx' ob'=>v=uv n/\RdP nx ob id r nx' ob' :=
 (Xo id _ false hs hob hn).mono fun v nx' ob' ⟨h2,h3⟩=>by
  rw[Xn n h0 h1 r]at h2 h3;exact⟨by rw[h2];simp only;congr;omega,h3⟩
theorem S9{nx:Nat}{ob:List (Nat×Option Ob)}(id:Nat)(b r:Str)(hs:(BQ b.length++(b++r)).length<=1000000)(hob:lookO ob id=some (Li (BQ b.length++(b++r)) false))(hn:id<nx):
  Bt prog 190 [.ptr id 2 0 0] nx ob fun v nx' ob'=>v=.str b/\RdP nx ob id r nx' ob' :=
 (Pp id _ false hs hob hn).mono fun v nx' ob' ⟨h2,h3⟩=>by
  rw[Pq b r (by simp at hs;omega)]at h2 h3;exact⟨h2,h3⟩
theorem Y8:AC prog 316 [] (uv 0):=by
 refine sZ func316 ntmps316 ?_;exact wx trivial trivial
theorem PL:AC prog 317 [] (.str []):=by
 refine sZ func317 ntmps317 ?_;exact wx trivial trivial
theorem Sl{nx:Nat}{ob:List (Nat×Option Ob)}(id:Nat)(n:Int)(hn:W32 n)(r:Str)(hs:(BQ 1++(BQ n++r)).length<=900000)(hob:lookO ob id=some (Li (BQ 1++(BQ n++r)) false))(hid:id<nx):
  Bt prog 257 [.ptr id 2 0 0] nx ob fun v nx' ob'=>v=.st [iv 1,uv n,.str []]/\RdP nx ob id r nx' ob':=by
 have q1:¬id=nx:=by omega
 have q2:¬nx=id:=by omega
 have wk:IntKind.i64.wrap 1=1:=AA (by decide) (by decide);have n0:=hn.1;have n1:=hn.2;refine sIY func257 ntmps257 @hob ?_;intros;apply wr;refine cO ?_;refine(EK id 1 (BQ n++r) (by decide) (by decide) (by simp at hs ⊢;omega) (by simp[lookO,q1,hob]) (by omega)).mono fun r nx' ob' hp=>?_;simp only[BS];obtain⟨rfl,h1,h2,h3⟩:=hp
 rename Nat=>x1
 rename List (Nat×Option Ob)=>o1
 have g1:=h3 nx (by omega) q2;simp only[lookO,if_true]at g1;have q3:¬id=x1:=by omega
 have q4:¬x1=id:=by omega
 have q5:¬nx=x1:=by omega
 have q6:¬x1=nx:=by omega
 simp;refine au1 (kX9 @h1 @g1 @q1 @q2 @q3 @q4 @q5 @q6 @wk) ?_;refine II (kX9 @h1 @g1 @q1 @q2 @q3 @q4 @q5 @q6 @wk) ?_;refine II (kX9 @h1 @g1 @q1 @q2 @q3 @q4 @q5 @q6 @wk) ?_;intros;apply wr;refine((EK id n (r) n0 (by omega) (by simp at hs ⊢;omega) (by simp[lookO,q3,h1]) (by omega)).mono fun r nx' ob' hp=>?_).2;simp only[BS];obtain⟨rfl,i1,i2,i3⟩:=hp
 rename Nat=>x2
 rename List (Nat×Option Ob)=>o2
 have j1:=i3 nx (by omega) q2;have j2:=i3 x1 (by omega) q4;simp[lookO,q5,q6,g1]at j1 j2;have r1:¬id=x2:=by omega
 simp[i1,j1,j2,q1,q2,q3,q4,q5,q6,wk];refine au1 (Rl @i1 @j1 @j2 @q1 @q2 @q3 @q4 @q5 @q6 @wk @r1) ?_;refine cY (PL) (Qs @i1 @j1 @j2 @q1 @q2 @q3 @q4 @q5 @q6 @wk) ?_;intros;apply wr;refine ar ?_;simp[lookO];refine⟨by simp[lookO,q1,q3,i1],by omega,fun q z1 z2=>?_⟩;have y1:¬q=nx:=by omega
 have y2:¬q=x1:=by omega
 have y3:=h3 q (by omega) z2;have y4:=i3 q (by omega) z2;simp[lookO,y1,y2]at y3 y4 ⊢;rw[y4,y3]
theorem So{nx:Nat}{ob:List (Nat×Option Ob)}(id:Nat)(n:Int)(hn:W32 n)(r:Str)(hs:(BQ 3++(BQ n++r)).length<=900000)(hob:lookO ob id=some (Li (BQ 3++(BQ n++r)) false))(hid:id<nx):
  Bt prog 257 [.ptr id 2 0 0] nx ob fun v nx' ob'=>v=.st [iv 3,uv n,.str []]/\RdP nx ob id r nx' ob':=by
 have q1:¬id=nx:=by omega
 have q2:¬nx=id:=by omega
 have wk:IntKind.i64.wrap 3=3:=AA (by decide) (by decide);have n0:=hn.1;have n1:=hn.2;refine sIY func257 ntmps257 @hob ?_;intros;apply wr;refine cO ?_;refine(EK id 3 (BQ n++r) (by decide) (by decide) (by simp at hs ⊢;omega) (by simp[lookO,q1,hob]) (by omega)).mono fun r nx' ob' hp=>?_;simp only[BS];obtain⟨rfl,h1,h2,h3⟩:=hp
 rename Nat=>x1
 rename List (Nat×Option Ob)=>o1
 have g1:=h3 nx (by omega) q2;simp only[lookO,if_true]at g1;have q3:¬id=x1:=by omega
 have q4:¬x1=id:=by omega
 have q5:¬nx=x1:=by omega
 have q6:¬x1=nx:=by omega
 simp;refine au1 (kX9 @h1 @g1 @q1 @q2 @q3 @q4 @q5 @q6 @wk) ?_;refine EE (kX9 @h1 @g1 @q1 @q2 @q3 @q4 @q5 @q6 @wk) ?_;refine II (kX9 @h1 @g1 @q1 @q2 @q3 @q4 @q5 @q6 @wk) ?_;refine II (kX9 @h1 @g1 @q1 @q2 @q3 @q4 @q5 @q6 @wk) ?_;intros;apply wr;refine((EK id n (r) n0 (by omega) (by simp at hs ⊢;omega) (by simp[lookO,q3,h1]) (by omega)).mono fun r nx' ob' hp=>?_).2;simp only[BS];obtain⟨rfl,i1,i2,i3⟩:=hp
 rename Nat=>x2
 rename List (Nat×Option Ob)=>o2
 have j1:=i3 nx (by omega) q2;have j2:=i3 x1 (by omega) q4;simp[lookO,q5,q6,g1]at j1 j2;have r1:¬id=x2:=by omega
 simp[i1,j1,j2,q1,q2,q3,q4,q5,q6,wk];refine au1 (Rl @i1 @j1 @j2 @q1 @q2 @q3 @q4 @q5 @q6 @wk @r1) ?_;refine cY (PL) (Qs @i1 @j1 @j2 @q1 @q2 @q3 @q4 @q5 @q6 @wk) ?_;intros;apply wr;refine ar ?_;simp[lookO];refine⟨by simp[lookO,q1,q3,i1],by omega,fun q z1 z2=>?_⟩;have y1:¬q=nx:=by omega
 have y2:¬q=x1:=by omega
 have y3:=h3 q (by omega) z2;have y4:=i3 q (by omega) z2;simp[lookO,y1,y2]at y3 y4 ⊢;rw[y4,y3]
theorem Sr{nx:Nat}{ob:List (Nat×Option Ob)}(id:Nat)(n:Int)(hn:W32 n)(r:Str)(hs:(BQ 6++(BQ n++r)).length<=900000)(hob:lookO ob id=some (Li (BQ 6++(BQ n++r)) false))(hid:id<nx):
  Bt prog 257 [.ptr id 2 0 0] nx ob fun v nx' ob'=>v=.st [iv 6,uv n,.str []]/\RdP nx ob id r nx' ob':=by
 have q1:¬id=nx:=by omega
 have q2:¬nx=id:=by omega
 have wk:IntKind.i64.wrap 6=6:=AA (by decide) (by decide);have n0:=hn.1;have n1:=hn.2;refine sIY func257 ntmps257 @hob ?_;intros;apply wr;refine cO ?_;refine(EK id 6 (BQ n++r) (by decide) (by decide) (by simp at hs ⊢;omega) (by simp[lookO,q1,hob]) (by omega)).mono fun r nx' ob' hp=>?_;simp only[BS];obtain⟨rfl,h1,h2,h3⟩:=hp
 rename Nat=>x1
 rename List (Nat×Option Ob)=>o1
 have g1:=h3 nx (by omega) q2;simp only[lookO,if_true]at g1;have q3:¬id=x1:=by omega
 have q4:¬x1=id:=by omega
 have q5:¬nx=x1:=by omega
 have q6:¬x1=nx:=by omega
 simp;refine au1 (kX9 @h1 @g1 @q1 @q2 @q3 @q4 @q5 @q6 @wk) ?_;refine EE (kX9 @h1 @g1 @q1 @q2 @q3 @q4 @q5 @q6 @wk) ?_;refine EE (kX9 @h1 @g1 @q1 @q2 @q3 @q4 @q5 @q6 @wk) ?_;refine II (kX9 @h1 @g1 @q1 @q2 @q3 @q4 @q5 @q6 @wk) ?_;intros;apply wr;refine((EK id n (r) n0 (by omega) (by simp at hs ⊢;omega) (by simp[lookO,q3,h1]) (by omega)).mono fun r nx' ob' hp=>?_).2;simp only[BS];obtain⟨rfl,i1,i2,i3⟩:=hp
 rename Nat=>x2
 rename List (Nat×Option Ob)=>o2
 have j1:=i3 nx (by omega) q2;have j2:=i3 x1 (by omega) q4;simp[lookO,q5,q6,g1]at j1 j2;have r1:¬id=x2:=by omega
 simp[i1,j1,j2,q1,q2,q3,q4,q5,q6,wk];refine au1 (Rl @i1 @j1 @j2 @q1 @q2 @q3 @q4 @q5 @q6 @wk @r1) ?_;refine cY (PL) (Qs @i1 @j1 @j2 @q1 @q2 @q3 @q4 @q5 @q6 @wk) ?_;intros;apply wr;refine ar ?_;simp[lookO];refine⟨by simp[lookO,q1,q3,i1],by omega,fun q z1 z2=>?_⟩;have y1:¬q=nx:=by omega
 have y2:¬q=x1:=by omega
 have y3:=h3 q (by omega) z2;have y4:=i3 q (by omega) z2;simp[lookO,y1,y2]at y3 y4 ⊢;rw[y4,y3]
theorem Sp{nx:Nat}{ob:List (Nat×Option Ob)}(id:Nat)(n:Int)(hn:W32 n)(d:Str)(r:Str)(hs:(BQ 4++(BQ n++(BQ d.length++(d++r)))).length<=900000)(hob:lookO ob id=some (Li (BQ 4++(BQ n++(BQ d.length++(d++r)))) false))(hid:id<nx):
  Bt prog 257 [.ptr id 2 0 0] nx ob fun v nx' ob'=>v=.st [iv 4,uv n,.str d]/\RdP nx ob id r nx' ob':=by
 have q1:¬id=nx:=by omega
 have q2:¬nx=id:=by omega
 have wk:IntKind.i64.wrap 4=4:=AA (by decide) (by decide);have n0:=hn.1;have n1:=hn.2;refine sIY func257 ntmps257 @hob ?_;intros;apply wr;refine cO ?_;refine(EK id 4 (BQ n++(BQ d.length++(d++r))) (by decide) (by decide) (by simp at hs ⊢;omega) (by simp[lookO,q1,hob]) (by omega)).mono fun r nx' ob' hp=>?_;simp only[BS];obtain⟨rfl,h1,h2,h3⟩:=hp
 rename Nat=>x1
 rename List (Nat×Option Ob)=>o1
 have g1:=h3 nx (by omega) q2;simp only[lookO,if_true]at g1;have q3:¬id=x1:=by omega
 have q4:¬x1=id:=by omega
 have q5:¬nx=x1:=by omega
 have q6:¬x1=nx:=by omega
 simp;refine au1 (kX9 @h1 @g1 @q1 @q2 @q3 @q4 @q5 @q6 @wk) ?_;refine EE (kX9 @h1 @g1 @q1 @q2 @q3 @q4 @q5 @q6 @wk) ?_;refine EE (kX9 @h1 @g1 @q1 @q2 @q3 @q4 @q5 @q6 @wk) ?_;refine EE (kX9 @h1 @g1 @q1 @q2 @q3 @q4 @q5 @q6 @wk) ?_;refine II (kX9 @h1 @g1 @q1 @q2 @q3 @q4 @q5 @q6 @wk) ?_;intros;apply wr;refine((EK id n (BQ d.length++(d++r)) n0 (by omega) (by simp at hs ⊢;omega) (by simp[lookO,q3,h1]) (by omega)).mono fun r nx' ob' hp=>?_).2;simp only[BS];obtain⟨rfl,i1,i2,i3⟩:=hp
 rename Nat=>x2
 rename List (Nat×Option Ob)=>o2
 have j1:=i3 nx (by omega) q2;have j2:=i3 x1 (by omega) q4;simp[lookO,q5,q6,g1]at j1 j2;have r1:¬id=x2:=by omega
 simp[i1,j1,j2,q1,q2,q3,q4,q5,q6,wk];refine au1 (Rl @i1 @j1 @j2 @q1 @q2 @q3 @q4 @q5 @q6 @wk @r1) ?_;intros;apply wr;refine cO ?_;refine(S9 id d r (by simp at hs ⊢;omega) (by simp[lookO,q1,q3,i1]) (by omega)).mono fun r nx' ob' hp=>?_;simp only[BS];obtain⟨rfl,k1,k2,k3⟩:=hp
 rename Nat=>x3
 rename List (Nat×Option Ob)=>o3
 have l1:=k3 nx (by omega) q2;have l2:=k3 x1 (by omega) q4;simp[lookO,q5,q6,j1,j2]at l1 l2;simp[k1,l1,l2,q1,q2,q3,q4,q5,q6,wk];refine au1 (Qs @k1 @l1 @l2 @q1 @q2 @q3 @q4 @q5 @q6 @wk) ?_;intros;apply wr;refine ar ?_;simp[lookO];refine⟨by simp[lookO,q1,q3,k1],by omega,fun q z1 z2=>?_⟩;have y1:¬q=nx:=by omega
 have y2:¬q=x1:=by omega
 have y3:=h3 q (by omega) z2;have y4:=i3 q (by omega) z2;have y5:=k3 q (by omega) z2;simp[lookO,y1,y2]at y3 y4 y5 ⊢;rw[y5,y4,y3]
theorem Sq{nx:Nat}{ob:List (Nat×Option Ob)}(id:Nat)(d:Str)(r:Str)(hs:(BQ 5++((BQ d.length++(d++r)))).length<=900000)(hob:lookO ob id=some (Li (BQ 5++((BQ d.length++(d++r)))) false))(hid:id<nx):
  Bt prog 257 [.ptr id 2 0 0] nx ob fun v nx' ob'=>v=.st [iv 5,uv 0,.str d]/\RdP nx ob id r nx' ob':=by
 have q1:¬id=nx:=by omega
 have q2:¬nx=id:=by omega
 have wk:IntKind.i64.wrap 5=5:=AA (by decide) (by decide);refine sIY func257 ntmps257 @hob ?_;intros;apply wr;refine cO ?_;refine(EK id 5 ((BQ d.length++(d++r))) (by decide) (by decide) (by simp at hs ⊢;omega) (by simp[lookO,q1,hob]) (by omega)).mono fun r nx' ob' hp=>?_;simp only[BS];obtain⟨rfl,h1,h2,h3⟩:=hp
 rename Nat=>x1
 rename List (Nat×Option Ob)=>o1
 have g1:=h3 nx (by omega) q2;simp only[lookO,if_true]at g1;have q3:¬id=x1:=by omega
 have q4:¬x1=id:=by omega
 have q5:¬nx=x1:=by omega
 have q6:¬x1=nx:=by omega
 simp;refine au1 (kX9 @h1 @g1 @q1 @q2 @q3 @q4 @q5 @q6 @wk) ?_;refine EE (kX9 @h1 @g1 @q1 @q2 @q3 @q4 @q5 @q6 @wk) ?_;refine EE (kX9 @h1 @g1 @q1 @q2 @q3 @q4 @q5 @q6 @wk) ?_;refine EE (kX9 @h1 @g1 @q1 @q2 @q3 @q4 @q5 @q6 @wk) ?_;refine EE (kX9 @h1 @g1 @q1 @q2 @q3 @q4 @q5 @q6 @wk) ?_;refine II (kX9 @h1 @g1 @q1 @q2 @q3 @q4 @q5 @q6 @wk) ?_;refine cY (Y8) (kX9 @h1 @g1 @q1 @q2 @q3 @q4 @q5 @q6 @wk) ?_;intros;apply wr;refine cO ?_;refine(S9 id d r (by simp at hs ⊢;omega) (by simp[lookO,q1,q3,h1]) (by omega)).mono fun r nx' ob' hp=>?_;simp only[BS];obtain⟨rfl,k1,k2,k3⟩:=hp
 rename Nat=>x3
 rename List (Nat×Option Ob)=>o3
 have l1:=k3 nx (by omega) q2;have l2:=k3 x1 (by omega) q4;simp[lookO,q5,q6,g1]at l1 l2;simp[k1,l1,l2,q1,q2,q3,q4,q5,q6,wk];refine au1 (Qs @k1 @l1 @l2 @q1 @q2 @q3 @q4 @q5 @q6 @wk) ?_;intros;apply wr;refine ar ?_;simp[lookO];refine⟨by simp[lookO,q1,q3,k1],by omega,fun q z1 z2=>?_⟩;have y1:¬q=nx:=by omega
 have y2:¬q=x1:=by omega
 have y3:=h3 q (by omega) z2;have y4:=k3 q (by omega) z2;simp[lookO,y1,y2]at y3 y4 ⊢;rw[y4,y3]
theorem Sm{nx:Nat}{ob:List (Nat×Option Ob)}(id:Nat)(r:Str)(hs:(BQ 2++r).length<=900000)(hob:lookO ob id=some (Li (BQ 2++r) false))(hid:id<nx):
  Bt prog 257 [.ptr id 2 0 0] nx ob fun v nx' ob'=>v=.st [iv 2,uv 0,.str []]/\RdP nx ob id r nx' ob':=by
 have q1:¬id=nx:=by omega
 have q2:¬nx=id:=by omega
 have wk:IntKind.i64.wrap 2=2:=AA (by decide) (by decide);refine sIY func257 ntmps257 @hob ?_;intros;apply wr;refine cO ?_;refine(EK id 2 (r) (by decide) (by decide) (by simp at hs ⊢;omega) (by simp[lookO,q1,hob]) (by omega)).mono fun r nx' ob' hp=>?_;simp only[BS];obtain⟨rfl,h1,h2,h3⟩:=hp
 rename Nat=>x1
 rename List (Nat×Option Ob)=>o1
 have g1:=h3 nx (by omega) q2;simp only[lookO,if_true]at g1;have q3:¬id=x1:=by omega
 have q4:¬x1=id:=by omega
 have q5:¬nx=x1:=by omega
 have q6:¬x1=nx:=by omega
 simp;refine au1 (kX9 @h1 @g1 @q1 @q2 @q3 @q4 @q5 @q6 @wk) ?_;refine EE (kX9 @h1 @g1 @q1 @q2 @q3 @q4 @q5 @q6 @wk) ?_;refine EE (kX9 @h1 @g1 @q1 @q2 @q3 @q4 @q5 @q6 @wk) ?_;refine EE (kX9 @h1 @g1 @q1 @q2 @q3 @q4 @q5 @q6 @wk) ?_;refine EE (kX9 @h1 @g1 @q1 @q2 @q3 @q4 @q5 @q6 @wk) ?_;refine EE (kX9 @h1 @g1 @q1 @q2 @q3 @q4 @q5 @q6 @wk) ?_;refine cY (Y8) (kX9 @h1 @g1 @q1 @q2 @q3 @q4 @q5 @q6 @wk) ?_;refine cY (PL) (kX9 @h1 @g1 @q1 @q2 @q3 @q4 @q5 @q6 @wk) ?_;intros;apply wr;refine ar ?_;simp[lookO];refine⟨by simp[lookO,q1,q3,h1],by omega,fun q z1 z2=>?_⟩;have y1:¬q=nx:=by omega
 have y2:¬q=x1:=by omega
 have y3:=h3 q (by omega) z2;simp[lookO,y1,y2]at y3 ⊢;rw[y3]
theorem WQ{nx:Nat}{ob:List (Nat×Option Ob)}(id:Nat)(e:EvD)(r:Str)(hv:evVal e=true)(hn:W32 e.n)(hs:(Ee e++r).length<=900000)(hob:lookO ob id=some (Li (Ee e++r) false))(hid:id<nx):
  Bt prog 257 [.ptr id 2 0 0] nx ob fun v nx' ob'=>v=.st e.row/\RdP nx ob id r nx' ob':=by
 obtain⟨k,n,d⟩:=e;unfold evVal at hv;unfold Ee at hs hob;simp only at hv hn hs hob ⊢;by_cases k1:k=1\/k=3\/k=6
 ·have hd:d=[]:=by rcases k1 with rfl|rfl|rfl<;>simp at hv<;>first|exact hv|exact hv.2
  subst hd;rw[if_pos k1,fL]at hs hob;rcases k1 with rfl|rfl|rfl
  ·exact Sl id n hn r hs hob hid
  ·exact So id n hn r hs hob hid
  exact Sr id n hn r hs hob hid
 rw[if_neg k1]at hs hob;by_cases k4:k=4
 ·subst k4;rw[if_pos rfl,fL,fL,fL]at hs hob;exact Sp id n hn d r hs hob hid
 rw[if_neg k4]at hs hob;by_cases k5:k=5
 ·subst k5;simp at hv;obtain⟨⟨rfl,-⟩,-⟩:=hv;rw[if_pos rfl,fL,fL]at hs hob;exact Sq id d r hs hob hid
 rw[if_neg k5]at hs hob;have k2:k=2:=by
  by_cases z:k=2
  ·exact z
  exfalso;simp[z,k4,k5,show ¬k=1 by omega,show ¬k=3 by omega,show ¬k=6 by omega]at hv
 subst k2;have hz:n=0/\d=[]:=by simpa using hv
 obtain⟨rfl,rfl⟩:=hz;exact Sm id r hs hob hid
theorem Ql(f:Int)(e:EntD)(r:List EntD):Dn f (e::r)=BQ (e.at_-f)++(Ee e.ev++Dn e.at_ r):=rfl
theorem Zk(l:List EntD)(f:Int)(hf:L64 f)(hE:∀e∈l,OkT e)(hb:l.length<=100000)(h0:Dt l f=0):AC prog 192 [.str (Lh l f).1,lv f] (.tup [Br l,iv 0]):=by
 have he:=Si l f hf hE hb;have hS:Lh l f=(BQ l.length++Dn f l,0):=by unfold Lh;rw[if_pos h0]
 rw[hS]at he ⊢;simp only at he ⊢;have hp:l.length<=400/\(l.all fun e=>evVal e.ev)=true/\ordD l=true/\firstOk f l=true/\(BQ l.length++Dn f l).length<=65536:=by
  unfold Dt at h0;split at h0
  ·cases h0
  split at h0
  ·cases h0
  split at h0
  ·cases h0
  split at h0
  ·cases h0
  rename_i a1 a2 a3 a4;simp only[not_or,Bool.not_eq_false]at a2 a3;exact⟨by omega,a2,a3.1,a3.2,by omega⟩
 obtain⟨p1,p2,p3,p4,p5⟩:=hp;have p6:(Dn f l).length<=65536:=by rw[eX]at p5;omega
 have c1:¬(400:Int)<l.length:=by omega
 obtain⟨S,hSS⟩:∃S,S=BQ l.length++Dn f l:=⟨_,rfl⟩;refine sX func192 ntmps192 ?_;intros;apply wr;refine cO ?_;refine(Tm 0 l.length (Dn f l) ⟨by omega,by omega⟩ (by omega) (by simp[lookO]) (by decide)).mono fun r nx' ob' hp=>?_;simp only[BS];obtain⟨rfl,h1,h2,h3⟩:=hp
 rename Nat=>x1
 rename List (Nat×Option Ob)=>o1
 simp[h1];refine au1 (kX2 @h1 @c1) ?_;refine EL @c1 @h1 ?_;intros;apply wr;refine AU 8 108 4 (by decide) rfl ?_;rw[<- hSS]at he ⊢;clear hS h3;refine Ad (l.length+1) ?_;refine BH (fun c stt=>∃(T:List (Nat×V))(i q x:Nat)(a:Int)(o:List (Nat×Option Ob)),stt=⟨55,T,x,o,0⟩/\(lkT T 22=.int .u64 i/\lkT T 21=lv l.length/\lkT T 9=lv a/\lkT T 8=.own q/\lkT T 6=.ptr 0 2 0 0/\lkT T 1=lv f/\lkT T 0=.str S)/\i+c=l.length/\lookO o 0=some (Li (Dn a (l.drop i)) false)/\lookO o q=some ⟨108,4,false,false,ents (l.take i)⟩/\q<x/\0<q/\L64 a/\(Dn a (l.drop i)).length<=65536/\firstOk a (l.drop i)=true/\ordD (l.drop i)=true) ?_ _ _ ⟨_,0,x1,_,f,_,rfl,by simp[lkT],by omega,by simp[lookO,show ¬0=x1 by omega,h1],by simp[lookO],Nat.lt_succ_self _,by omega,hf,p6,p4,p3⟩;rintro c stt ⟨T,i,q,x,a,o,rfl,⟨t22,t21,t9,t8,t6,t1,t0⟩,hic,ho,hq,hqx,hq0,ha,hlen,hfi,hor⟩ Kl hKl;refine Bp [(22,.int .u64 i),(21,lv l.length),(9,lv a),(8,.own q),(6,.ptr 0 2 0 0),(1,lv f),(0,.str S)] (by simp[t22,t21,t9,t8,t6,t1,t0]) ?_;refine au ?_;intros;apply wr;by_cases hlt:i<l.length
 ·have k1:(i:Int)<l.length:=by omega
  obtain⟨c,rfl⟩:∃d,c=d+1:=⟨c-1,by omega⟩;obtain⟨e,hg,hd,ht,hmem⟩:=get_at hlt;have hv:=List.all_eq_true.1 p2 e hmem;have hT:=hE e hmem;rw[hd,Ql]at hlen ho;rw[hd]at hfi hor;simp only[firstOk,decide_eq_true_eq]at hfi;obtain⟨g1,g2⟩:=Ph hor;have ha2:=hT.a;have w1:IntKind.u64.wrap (a+(e.at_-a))=e.at_:=by rw[IntKind.wrap_u64];have:=ha2.1;have:=ha2.2;omega
  have w2:IntKind.u64.wrap ((i:Int)+1)=(i:Int)+1:=by rw[IntKind.wrap_u64];omega
  refine EM (kX2 @hlt @k1) ?_;intros;apply wr;refine cO ?_;refine(Tm 0 (e.at_-a) (Ee e.ev++Dn e.at_ (l.drop (i+1))) ⟨by omega,by have:=ha2.2;have:=ha.1;omega⟩ (by omega) ho (by omega)).mono fun r nx' ob' hp=>?_;simp only[BS];obtain⟨rfl,m1,m2,m3⟩:=hp
  rename Nat=>x2
  rename List (Nat×Option Ob)=>o2
  have m4:=m3 q hqx (by omega);rw[hq]at m4;simp[m1,w1];refine au1 (kX2 @m1 @w1) ?_;intros;apply wr;refine cO ?_;refine(WQ 0 e.ev (Dn e.at_ (l.drop (i+1))) hv hT.n (by simp at hlen ⊢;omega) m1 (by omega)).mono fun r nx' ob' hp=>?_;simp only[BS];obtain⟨rfl,n1,n2,n3⟩:=hp
  rename Nat=>x3
  rename List (Nat×Option Ob)=>o3
  have n4:=n3 q (by omega) (by omega);rw[m4]at n4;have b1:¬0=x3:=by omega
  have b2:¬q=x3:=by omega
  have b3:¬0=q:=by omega
  have b4:¬x3=q:=by omega
  have b5:¬q=x3+1:=by omega
  have b6:¬x3+1=q:=by omega
  have hel:=BA (l.take i);have htl:(l.take i).length=i:=by rw[fE];omega
  simp[n1,n4,b1,b2,b3,b4];refine au1 (kX6 @n1 @n4 @b1 @b2 @b3 @b4) ?_;refine EE (Yh @n1 @n4 @b1 @b2 @b3 @b4 @b5 @b6 @w2 @hel @htl @maxLen.eq_1) ?_;intros;apply wr;have b7:¬0=x3+1+1:=by omega
  have b8:¬0=x3+1:=by omega
  refine hKl c _ rfl ⟨_,i+1,x3+1+1,x3+1+1+1,e.at_,_,rfl,by simp[lkT],by omega,by simp[lookO,b1,b3,b7,b8,n1],by simp[lookO,ht,Kj,PK],by omega,by omega,ha2,by simp at hlen;omega,g1,g2⟩
 have k1:¬(i:Int)<l.length:=by omega
 have htk:l.take i=l:=fZ (by omega);rw[htk]at hq;refine EL (kX2 @hlt @k1) @hq ?_;refine cZ (he) @hq @hq ?_;refine CX ?_;refine aw ?_;simp
theorem ZL(n:Int)(r:Str)(h:L64 n)(hs:(BQ n++r).length<=1000000):AC prog 131 [.str (BQ n++r)] (.tup [lv n,iv (BQ n).length,.bool true]):=by
 have hu:=Oh (BQ n++r) hs;rw[JY n h r]at hu;have e:((n.toNat:Nat):Int)=n:=by have:=h.1;omega
 simpa[La,e]using hu
theorem Uq{g:SegD}(h:segOk g=true):(Af g).2=0/\g.from_<=g.known/\DV g.ents g.known=false/\Dt g.ents g.from_=0/\(Af g).1=(Lh g.ents g.from_).1:=by
 have h0:(Af g).2=0:=by unfold segOk at h;simpa using h
 refine⟨h0,?_⟩;unfold Af at h0 ⊢;split at h0
 ·cases h0
 rename_i q;rw[if_neg q];refine⟨by omega,by simpa using fun z=>q (.inr z),?_,rfl⟩;unfold Lh at h0;split at h0
 ·assumption
 exact h0
theorem Zi(g:SegD)(h:OkG g)(ho:segOk g=true):AC prog 135 [.str (EI g).1] (.tup [.st g.row,iv 0]):=by
 obtain⟨h0,h1,h2,h3,h4⟩:=Uq ho;have hE:(EI g).1=BQ g.from_++(BQ g.known++GI (Af g).1):=by unfold EI;rw[if_pos h0]
 have hsl:=E4 g;have hpl:=FO (Af g).1;have l1:=Aj g.from_;have l2:=Aj g.known;have u1:=ZL g.from_ (BQ g.known++GI (Af g).1) h.f (by simp;omega);have u2:=ZL g.known (GI (Af g).1) h.k (by simp;omega);have un:=VK (Af g).1 65536 (by omega) (by omega) (by decide);have dl:=Zk g.ents g.from_ h.f h.e (by have:=h.n;omega) h3;rw[<- h4]at dl;have be:=Ls g.ents g.known;rw[h2]at be;have c1:¬g.known<g.from_:=by omega
 rw[hE];generalize GI (Af g).1=C at *;generalize (Af g).1=L at *;generalize BQ g.from_=A at *;generalize BQ g.known=B at *;have t1:List.drop A.length (List.take ((A.length:Int)+((B.length:Int)+(C.length:Int))).toNat (A++(B++C)))=B++C:=by
  rw[fZ (by simp;omega),List.drop_left]
 have t2:List.drop B.length (List.take ((B.length:Int)+(C.length:Int)).toNat (B++C))=C:=by
  rw[fZ (by simp;omega),List.drop_left]
 refine sX func135 ntmps135 ?_;refine cY (u1) @t1 ?_;refine EE @t1 ?_;refine cZ (u2) @t1 @t2 ?_;refine EL @c1 @t2 ?_;refine cc1 (un) @t2 ?_;refine au ?_;refine CX ?_;refine cX (dl) ?_;refine CX ?_;refine cX (be) ?_;refine CX ?_;refine ar ?_;simp
abbrev Zr(xs:List (List V)):Ob:=⟨149,4,false,false,xs⟩
theorem Jx(a b:Int):AC prog 134 [.st [lv a,lv b,.sl 4 false []]] (.st [lv a,lv b,.new 149 4 []]):=by
 have w:IntKind.i64.wrap 1=1:=AA (by decide) (by decide);refine sZ func134 ntmps134 ?_;refine J4 (kX2 @maxLen.eq_1 @w) ?_;(repeat intro K hK);apply wr
 (refine af1 (kX2 @maxLen.eq_1 @w) ?_;(repeat intro K hK);apply wr)
 repeat' ((first|(refine AB rfl (fun h=>?_) (fun h=>?_)<;>(first|(simp[maxLen,w]at h;done)|(simp[maxLen,w]at h)|skip)<;>(first|(exfalso;omega)|skip))|refine Ad 1 ?_|refine BE fun K hK=>?_|(refine AG 10 [0,0,2,0,8,24,62,126,255,511] [(8,([[],[],[1],[],[3],[3,4],[1,2,3,4,5],[1,2,3,4,5,6]],[(2,5)])),(1,([],[])),(1,([],[]))] ?_)|exact rt1 (kX2 @maxLen.eq_1 @w)|fail)<;>(refine af1 (kX2 @maxLen.eq_1 @w) ?_;(repeat intro K hK);apply wr))
theorem UV(n k:Int)(h1:1<=n)(h2:n<=4611686018427387904):AC prog 75 [.st [lv n,lv k,.sl 4 false []]] (.bool true):=by
 have c1:¬n<1:=by omega
 have c2:¬4611686018427387904<n:=by omega
 refine sY func75 ntmps75 (kX2 @c1 @c2) ?_;(repeat intro K hK);apply wr
 (refine au1 (kX2 @c1 @c2) ?_;(repeat intro K hK);apply wr)
 repeat' ((first|(refine AB rfl (fun h=>?_) (fun h=>?_)<;>(first|(simp[c1,c2]at h;done)|(simp[c1,c2]at h)|skip)<;>(first|(exfalso;omega)|skip))|refine Ad 1 ?_|refine BE fun K hK=>?_|exact rt1 (kX2 @c1 @c2)|fail)<;>(refine au1 (kX2 @c1 @c2) ?_;(repeat intro K hK);apply wr))
theorem find_ok(k:Int)(f:V)(hf:Ml [f]):AC prog 136 [.sl 4 false [],lv k,f] (.tup [iv 0,.bool false]):=by
 refine sX func136 ntmps136 ?_;(repeat intro K hK);apply wr
 (refine au ?_;(repeat intro K hK);apply wr)
 repeat' ((first|(refine AB rfl (fun h=>?_) (fun h=>?_)<;>(first|(simp at h;done)|(simp at h)|skip)<;>(first|(exfalso;omega)|skip))|refine Ad 1 ?_|refine BE fun K hK=>?_|exact rt|fail)<;>(refine au ?_;(repeat intro K hK);apply wr))
theorem Yf{nx:Nat}{ob:List (Nat×Option Ob)}(i k:Nat)(y:List V)(hi:lookO ob i=some (Zr []))(hk:lookO ob k=some (Zr [y]))(hne:k≠i):
  Bt prog 139 [.own i,iv 0,.own k] nx ob fun r nx' ob'=>r=.own nx/\nx'=nx+1/\ob'=(nx,some (Zr [y]))::(i,none)::ob:=by
 refine sIY func139 ntmps139 (kX2 @hi @hk) ?_;intros;apply wr
 (refine af1 (kX6 @hi @hk @hne @maxLen.eq_1 @V1.eq_1 @bZ.eq_1) ?_;intros;apply wr)
 repeat' ((first|(refine AB rfl (fun h=>?_) (fun h=>?_)<;>(first|(simp[hi,hk,hne,maxLen,V1,bZ]at h;done)|(simp[hi,hk,hne,maxLen,V1,bZ]at h)|skip)<;>(first|(exfalso;omega)|skip))|(refine AG (rid:=11) 9 [0,0,0,6,15,0,0,96,255] [(8,([[],[],[],[1,2],[0,1,2,3],[],[],[5,6]],[])),(1,([],[]))] ?_)|(refine AG (rid:=15) 9 [0,0,0,6,15,0,0,96,255] [(8,([[],[],[],[1,2],[0,1,2,3],[],[],[5,6]],[])),(1,([],[]))] ?_)|exact rt1 (kX6 @hi @hk @hne @maxLen.eq_1 @V1.eq_1 @bZ.eq_1)|fail)<;>(refine af1 (kX6 @hi @hk @hne @maxLen.eq_1 @V1.eq_1 @bZ.eq_1) ?_;intros;apply wr))
theorem Y2{nx:Nat}{ob:List (Nat×Option Ob)}(i:Nat)(y:List V)(hi:lookO ob i=some (Zr [y]))(hy:y.length=4):
  Bt prog 140 [.own i,iv 0,iv 1] nx ob fun r nx' ob'=>r=.own nx/\nx'=nx+1/\ob'=(nx,some (Zr []))::(i,none)::(i,some (Zr [[lv 0,lv 0,lv 0,.sl 0 true []]]))::(i,some (Zr [y]))::ob:=by
 refine sIY func140 ntmps140 @hi ?_;intros;apply wr
 (refine af1 (kX3 @hi @hy @maxLen.eq_1) ?_;intros;apply wr)
 repeat' ((first|(refine AB rfl (fun h=>?_) (fun h=>?_)<;>(first|(simp[hi,hy,maxLen]at h;done)|(simp[hi,hy,maxLen]at h)|skip)<;>(first|(exfalso;omega)|skip))|(refine AG 8 [0,0,3,0,0,24,63,127] [(6,([[],[],[0,1],[],[],[3,4]],[])),(1,([],[])),(1,([],[]))] ?_)|exact rt1 (kX3 @hi @hy @maxLen.eq_1)|fail)<;>(refine af1 (kX3 @hi @hy @maxLen.eq_1) ?_;intros;apply wr))
 refine SH (sz:=4) (k:=0) 6 i (by simp[lkT]) (by simp[lookO];rfl) rfl rfl (Nat.zero_le _) ?_;refine ar ?_;simp
theorem QT(n k:Int)(g:SegD)(h1:1<=n)(h2:n<=4611686018427387904)(h:OkG g)(ho:segOk g=true)(hf:g.from_=k):AC prog 80 [.st [lv n,lv k,.sl 4 false []],.str (slD n (68::(EI g).1))] (.tup [.st [lv (n+1),lv g.known,.sl 4 false []],.sl 3 false [g.row],.bool true]):=by
 have hd:=Zi g h ho;have hL:L64 n:=⟨by omega,by omega⟩;have hel:(EI g).1.length<=300000:=by
  have:=E4 g;have:=FO (Af g).1;have:=Aj g.from_;have:=Aj g.known;unfold EI;split<;>simp<;>omega
 have hsl:(slD n (68::(EI g).1)).length<=1000000:=by
  have:=Aj n;have:=Aj ((68::(EI g).1).length:Int);have:=Gn (Kr PW (slB n (68::(EI g).1)));unfold slD;rw[eX,this];simp only[slB,eX,fR]at *;omega
 have hb:=Pb (slD n (68::(EI g).1)) 68 hsl;rw[Wt n hL 68 _ (by omega)]at hb;have en:((n.toNat:Nat):Int)=n:=by omega
 simp only[Hf,en]at hb;have hb:AC prog 130 [.str (slD n (68::(EI g).1)),.int .u8 68] (.tup [lv n,.str (EI g).1,.bool true]):=hb;have w1:IntKind.u64.wrap (n+8)=n+8:=by rw[IntKind.wrap_u64];omega
 have w2:IntKind.u64.wrap (n+1)=n+1:=by rw[IntKind.wrap_u64];omega
 have c1:¬n+8<=n:=by omega
 have c2:¬n=n+1:=by omega
 generalize slD n (68::(EI g).1)=p at *;generalize (EI g).1=b at *;subst hf;refine sX func80 ntmps80 ?_;(repeat intro K hK);apply wr
 (refine af1 (kX5 @maxLen.eq_1 @w1 @w2 @c1 @c2) ?_;(repeat intro K hK);apply wr)
 repeat' ((first|(refine AB rfl (fun h=>?_) (fun h=>?_)<;>(first|(simp[maxLen,w1,w2,c1,c2]at h;done)|(simp[maxLen,w1,w2,c1,c2]at h)|skip)<;>(first|(exfalso;omega)|skip))|((first|refine .inl ⟨1,_,find_ok n (.fn 137) (by simp[Ml,okG]),?_⟩|refine⟨1,_,find_ok n (.fn 137) (by simp[Ml,okG]),?_⟩);simp[CZ,C9,noX,Ct,C5,maxLen,w1,w2,c1,c2];first|refine And.intro AP ?_|skip)|((first|refine .inr ((Yf 4 17 [lv n,lv g.from_,lv g.known,Br g.ents] (by simp[lookO]) (by simp[lookO]) (by decide)).mono fun r nx' ob' hp=>?_)|refine(Yf 4 17 [lv n,lv g.from_,lv g.known,Br g.ents] (by simp[lookO]) (by simp[lookO]) (by decide)).mono fun r nx' ob' hp=>?_);obtain⟨rfl,rfl,rfl⟩:=hp;simp[BS,maxLen,w1,w2,c1,c2])|((first|refine .inr ((Y2 18 [lv n,lv g.from_,lv g.known,Br g.ents] (by simp[lookO]) rfl).mono fun r nx' ob' hp=>?_)|refine(Y2 18 [lv n,lv g.from_,lv g.known,Br g.ents] (by simp[lookO]) rfl).mono fun r nx' ob' hp=>?_);obtain⟨rfl,rfl,rfl⟩:=hp;simp[BS,maxLen,w1,w2,c1,c2])|refine cc1 (Jx n g.from_) (kX5 @maxLen.eq_1 @w1 @w2 @c1 @c2) ?_|refine cc1 (hb) (kX5 @maxLen.eq_1 @w1 @w2 @c1 @c2) ?_|refine cc1 (UV n g.from_ h1 h2) (kX5 @maxLen.eq_1 @w1 @w2 @c1 @c2) ?_|refine cc1 (hd) (kX5 @maxLen.eq_1 @w1 @w2 @c1 @c2) ?_|refine Ad 2 ?_|refine BE fun K hK=>?_|(refine AG 14 [0,1,3,7,15,31,63,127,255,511,31,1055,4095,8191] [(1,([],[])),(1,([],[])),(1,([],[])),(1,([],[])),(1,([],[])),(7,([[],[0],[0,1],[0,1,2],[0,1,2,3],[],[5]],[])),(1,([],[])),(1,([],[]))] ?_)|exact rt1 (kX5 @maxLen.eq_1 @w1 @w2 @c1 @c2)|fail)<;>(refine af1 (kX5 @maxLen.eq_1 @w1 @w2 @c1 @c2) ?_;(repeat intro K hK);apply wr))
theorem Xz(n k:Int)(p:Str)(x:Nat)(b:Str)(hb:AC prog 130 [.str p,.int .u8 68] (.tup [lv x,.str b,.bool false])):AC prog 80 [.st [lv n,lv k,.sl 4 false []],.str p] (.tup [.st [lv n,lv k,.sl 4 false []],.sl 3 false [],.bool false]):=by
 refine sZ func80 ntmps80 ?_
 (refine af ?_;intros;apply wr)
 repeat' ((first|(refine AB rfl (fun h=>?_) (fun h=>?_)<;>(first|(simp at h;done)|(simp at h)|skip)<;>(first|(exfalso;omega)|skip))|refine cc (Jx n k) ?_|refine cc (hb) ?_|(refine AG 14 [0,1,3,7,15,31,63,127,255,511,31,1055,4095,8191] [(1,([],[])),(1,([],[])),(1,([],[])),(1,([],[])),(1,([],[])),(7,([[],[0],[0,1],[0,1,2],[0,1,2,3],[],[5]],[])),(1,([],[])),(1,([],[]))] ?_)|exact rt|fail)<;>(refine af ?_;intros;apply wr))
abbrev pkD(b:Int)(g:SegD):Str:=slD b (68::(EI g).1)
def Jf:Int->List SegD->List Str
 | _,[]=>[]
 | b,g::r=>pkD b g::Jf (b+1) r
theorem Zv(g:SegD):(EI g).1.length<=300000:=by
 have:=E4 g;have:=FO (Af g).1;have:=Aj g.from_;have:=Aj g.known;unfold EI;split<;>simp<;>omega
theorem sl_len(n:Int)(b:Str):(slD n b).length<=b.length+30:=by
 have:=Aj n;have:=Aj (b.length:Int);have:=Gn (Kr PW (slB n b));unfold slD;rw[eX,this];simp only[slB,eX];omega
theorem Lz:∀(l:List SegD)(a:Int),chainOk a l=true->∀g∈l,segOk g=true
 | [],_,_,g,h=>by simp at h
 | x::l,a,h,g,hg=>by
  rw[chainOk,eU,eU]at h;rcases List.mem_cons.1 hg with rfl|q
  ·exact h.1.2
  exact Lz l _ h.2 g q
theorem K0{s:SndD}(h:CM s=true):1<=s.base/\s.base<=4611686018427387904/\s.queue.length<=8/\∀g∈s.queue,segOk g=true:=by
 unfold CM at h;split at h
 ·cases h
 rename_i q;refine⟨by omega,by omega,by omega,?_⟩;cases hq:s.queue with
 | nil=>simp
 | cons g r =>
  simp only[hq]at h;rw[eU,eU]at h;exact Lz _ _ h.1.2
theorem spk_ok(s:SndD)(h:∀g∈s.queue,OkG g)(ho:CM s=true):AC prog 29 [.st s.row] (.new 9 1 (strs (Jf s.base s.queue))):=by
 have hso:=K1 s h;rw[ho]at hso;obtain⟨b1,b2,b3,hseg⟩:=K0 ho;have hl:=Db s.queue;have hnil:strs []=[]:=rfl;refine sX func29 ntmps29 ?_;refine cX (hso) ?_;refine EE @hl ?_;intros;apply wr;refine AU 3 9 1 (by decide) rfl ?_;obtain⟨I,hI⟩:∃I:Nat->St->Prop,I=(fun kk ss=>∃(i:Nat)(acc:List Str),i<=s.queue.length/\kk=s.queue.length-i/\(acc++Jf (s.base+i) (s.queue.drop i)=Jf s.base s.queue/\acc.length=i)/\ss=⟨37,[(14,.int .i64 i),(13,.int .i64 s.queue.length),(12,.sl 3 false (segs s.queue)),(1,.ptr 0 4 0 0),(3,.own 2)],3,[(2,some ⟨9,1,false,false,strs acc⟩),(0,some ⟨54,4,true,false,[s.row]⟩)],0⟩):=⟨_,rfl⟩;refine lX1 I (id) (by rw[hI];exact⟨0,[],by simp,rfl,⟨by simp,rfl⟩,rfl⟩) @hnil ?_;intro kk ss hIk _;rw[hI]at hIk;obtain⟨i,acc,hi,rfl,hx,rfl⟩:=hIk;obtain⟨hx1,hx2⟩:=hx;refine au1 @hl ?_;intros;apply wr;refine AB rfl (fun hh=>?_) (fun hh=>?_)
 ·simp at hh;obtain⟨g,hg,hd,-,hmem⟩:=get_at hh;have hget:=Gl hg;have he:=Zu g (h g hmem);have hel:=Zv g;have hw1:IntKind.u64.wrap (i:Int)=i:=by rw[IntKind.wrap_u64];omega
  have hw2:IntKind.u64.wrap (s.base+i)=s.base+i:=by rw[IntKind.wrap_u64];omega
  have hs:=ZH (s.base+i) (68::(EI g).1) ⟨by omega,by omega⟩ (by simp;omega);have hal:=Cd acc;rw[hd,Jf]at hx1;refine au1 @hget ?_;refine cY (he) (kX2 @hw1 @hw2) ?_;refine cZ (hs) (kX2 @hw1 @hw2) (kX3 @hal @hx2 @maxLen.eq_1) ?_;intros;apply wr;have e1:s.base+((i+1:Nat):Int)=s.base+i+1:=by omega
  have hst:strs (acc++[pkD (s.base+i) g])=strs acc++[[.str (pkD (s.base+i) g)]]:=by simp[strs]
  exact aX (fun x=>if x=2 then 8 else x) (by rw[hI];exact⟨i+1,(acc++[pkD (s.base+i) g]),by omega,rfl,⟨by rw[e1,<- hx1];simp,by simp[hx2]⟩,rfl⟩) (kX2 (AA (n:=(i:Int)+1) (by omega) (by omega)) @hst)
 simp at hh;rw[Cc hh,Jf,f7]at hx1;refine au ?_;refine ar ?_;simp[hx1]
theorem openP(n:Int)(c m:UInt8)(t:Str)(h:L64 n)(ht:t.length<=300000):AC prog 130 [.str (slD n (c::t)),.int .u8 (m.toNat:Int)] (if c=m then .tup [lv n,.str t,.bool true]else .tup [lv 0,.str [],.bool false]):=by
 have hb:=Pb (slD n (c::t)) m (by have:=sl_len n (c::t);simp at this;omega);have en:((n.toNat:Nat):Int)=n:=by have:=h.1;omega
 have e:OL (slD n (c::t)) m=if c=m then(n.toNat,t,true)else(0,[],false):=by
  unfold OL;rw[LK n h (c::t) (by simp;omega)];rfl
 rw[e]at hb;split
 ·rename_i q;rw[if_pos q]at hb;simpa[Hf,en]using hb
 rename_i q;rw[if_neg q]at hb;simpa[Hf]using hb
end Go.Proofs.YtjkmhmepljamoaaGreat
end
