/- A part of the proof of ReplicaBare+ReplicaWindow. -/
import Derived.Test.YtoondlebmacanaaGreatB34
import Derived.Test.YtoondlebmacanaaGreatB46
import Derived.Test.YtoondlebmacanaaGreatB47
set_option linter.unusedSimpArgs false
set_option linter.unusedVariables false
set_option maxHeartbeats 16000000
set_option maxRecDepth 100000
section
namespace Go.Proofs.YtoondlebmacanaaGreat
open Go.Ab Go.RowKit
theorem zBs {C D E G:Prop} (c:C) (d:D) (e:E) (t:C→D→E→G:=by intro c d e;(refine af1 e ?_;intros;apply wr);repeat' ((first|(refine zAC rfl (fun h=>?_) (fun h=>?_)<;>(first|(simp [e] at h;done)|(simp [e] at h)|skip)<;>(first|(exfalso;omega)|skip))|((first|refine .inl ⟨1,_,d.1,?_⟩|refine ⟨1,_,d.1,?_⟩);simp [aftC,aftE,noX,noXc,noX1,e];first|refine And.intro zAP ?_|skip)|((first|refine .inl ⟨1,_,d.2.1,?_⟩|refine ⟨1,_,d.2.1,?_⟩);simp [aftC,aftE,noX,noXc,noX1,e];first|refine And.intro zAP ?_|skip)|refine cc1 c.1 e ?_|refine cc1 c.2.1 e ?_|refine cc1 c.2.2.1 e ?_|refine cc1 c.2.2.2.1 e ?_|refine cc1 c.2.2.2.2.1 e ?_|refine cc1 c.2.2.2.2.2.1 e ?_|(refine zAv (.node 7 8 (.leaf [0,1,2,3,4,5,6,7,8,9] (bN [0,0,0,0,8,28,62,126,255,511]) [(8,([[],[],[],[],[3],[2,3,4],[1,2,3,4,5],[1,2,3,4,5,6]],[(0,7)])),(1,([],[])),(1,([],[]))]) (.leaf [0,1,2,3,4,5,6,8,7,9] (bN [0,0,0,0,8,28,62,1,255,511]) [(8,([[],[],[],[],[3],[2,3,4],[1,2,3,4,5],[0]],[(4,7),(5,7)])),(1,([],[])),(1,([],[]))])) (by kernel_rfl) (by kernel_rfl) ?_;simp only [PT.run];repeat' (with_reducible apply And.intro);all_goals (simp only [zBZ,zWq,List.map_nil,zWi,zWn]))|exact rt1 e|fail)<;>(refine af1 e ?_;intros;apply wr))):G:=t c d e
abbrev zFr (n:NicD) (l:List Int) (p v t:Int):Prop:=zAD Tryz.prog 203 [.st n.row,memV l,iv p,uv v,lv t] (.tup [.st (zAd n l p v t).1.row,zFb (zAd n l p v t).2])
theorem zQO (n:NicD) (l:List Int) (p v t:Int) (h9:¬ p=9):zFr n l p v t:=by
 unfold zFr;by_cases h7:p=7
 ·subst h7;refine sZ Tryz.func203 Tryz.ntmps203 ?_;exact zBs trivial trivial @zAd.eq_1
 by_cases h8:p=8
 ·subst h8;refine sZ Tryz.func203 Tryz.ntmps203 ?_;exact zBs trivial trivial @zAd.eq_1
 refine sZ Tryz.func203 Tryz.ntmps203 ?_;exact zBs trivial trivial (kX4 @h7 @h8 @h9 @zAd.eq_1)
theorem zQP (n:NicD) (l:List Int) (v t:Int) (hf:W32 n.frame) (h1:¬ v=1):zFr n l 9 v t:=by
 unfold zFr;have hp:=zAb l;have hg:=zCP l n.frame hf;by_cases h0:v=0
 ·subst h0;refine sZ Tryz.func203 Tryz.ntmps203 ?_;exact zBs trivial trivial @zAd.eq_1
 by_cases h2:v=2
 ·subst h2;by_cases hq:n.frame<pagesD l
  ·by_cases hr:n.posted=false∧n.received=false
   ·have hE:zAd n l 9 2 t=({n with posted:=true,buffer:=n.frame},[]):=by
     unfold zAd;rw [if_neg (by omega),if_neg (by omega),if_pos rfl,if_neg (by omega),if_pos rfl,if_pos ⟨hq,hr.1,hr.2⟩]
    rw [hE];refine sZ Tryz.func203 Tryz.ntmps203 ?_;exact zBs (qX1 (hg)) trivial (kX3 @hq @hr.1 @hr.2)
   have hE:zAd n l 9 2 t=(n,[]):=by
    unfold zAd;rw [if_neg (by omega),if_neg (by omega),if_pos rfl,if_neg (by omega),if_pos rfl,if_neg (fun q=>hr q.2)]
   rw [hE];cases hpo:n.posted with
   | true =>
    refine sZ Tryz.func203 Tryz.ntmps203 ?_;exact zBs (qX1 (hg)) trivial (kX2 @hq @hpo)
   | false =>
    have hre:n.received=true:=by simpa [hpo] using hr
    refine sZ Tryz.func203 Tryz.ntmps203 ?_;exact zBs (qX1 (hg)) trivial (kX3 @hq @hpo @hre)
  have hE:zAd n l 9 2 t=(n,[]):=by
   unfold zAd;rw [if_neg (by omega),if_neg (by omega),if_pos rfl,if_neg (by omega),if_pos rfl,if_neg (fun q=>hq q.1)]
  rw [hE];refine sZ Tryz.func203 Tryz.ntmps203 ?_;exact zBs (qX1 (hg)) trivial @hq
 have hE:zAd n l 9 v t=(n,[]):=by simp [zAd,h0,h1,h2]
 rw [hE];have b1:(v==1)=false:=by simp [h1]
 have b2:(v==2)=false:=by simp [h2]
 refine sZ Tryz.func203 Tryz.ntmps203 ?_;exact zBs trivial trivial (kX5 @h0 @h1 @h2 @b1 @b2)
theorem zQQ (n:NicD) (l:List Int) (t:Int) (hf:W32 n.frame) (hl:W32 n.len):zFr n l 9 1 t:=by
 unfold zFr;have hp:=zAb l;have hg:=zCP l n.frame hf;have w2:IntKind.i64.wrap n.frame=n.frame:=zAB (by have:=hf.1;omega) (by have:=hf.2;omega)
 by_cases h1:n.len<1
 ·have hE:zAd n l 9 1 t=(n,[]):=by
   unfold zAd;rw [if_neg (by omega),if_neg (by omega),if_pos rfl,if_pos rfl,if_neg (by omega)]
  rw [hE];have g1:¬ 1≤n.len:=by omega
  refine sZ Tryz.func203 Tryz.ntmps203 ?_;exact zBs trivial trivial (kX2 @h1 @g1)
 by_cases h2:128<n.len
 ·have hE:zAd n l 9 1 t=(n,[]):=by
   unfold zAd;rw [if_neg (by omega),if_neg (by omega),if_pos rfl,if_pos rfl,if_neg (by omega)]
  rw [hE];have g1:1≤n.len:=by omega
  have g2:¬ n.len≤128:=by omega
  refine sZ Tryz.func203 Tryz.ntmps203 ?_;exact zBs trivial trivial (kX4 @h1 @h2 @g1 @g2)
 have g1:1≤n.len:=by omega
 have g2:n.len≤128:=by omega
 by_cases h3:n.frame<pagesD l
 ·have hE:zAd n l 9 1 t=(n,[⟨2,t,0,(zBS l n.frame).take n.len.toNat⟩]):=by
   unfold zAd;rw [if_neg (by omega),if_neg (by omega),if_pos rfl,if_pos rfl,if_pos (by omega)]
  rw [hE];have hL:=zD3 hf.1 h3;have hB:=zFB l n.frame hf.1 h3;refine sZ Tryz.func203 Tryz.ntmps203 ?_;exact zBs (qX2 (hg) (hB)) trivial (kX8 @h1 @h2 @g1 @g2 @h3 @w2 @hL @zK0)
 have hE:zAd n l 9 1 t=(n,[]):=by
  unfold zAd;rw [if_neg (by omega),if_neg (by omega),if_pos rfl,if_pos rfl,if_neg (by omega)]
 rw [hE];refine sZ Tryz.func203 Tryz.ntmps203 ?_;exact zBs (qX1 (hg)) trivial (kX5 @h1 @h2 @g1 @g2 @h3)
theorem zNu (n:NicD) (l:List Int) (p v t:Int) (hf:W32 n.frame) (hl:W32 n.len):zFr n l p v t:=by
 by_cases h9:p=9
 ·subst h9;by_cases h1:v=1
  ·subst h1;exact zQQ n l t hf hl
  exact zQP n l v t hf h1
 exact zQO n l p v t h9
theorem zQI {nx:Nat} {ob:List (Nat × Option Ob)} (id j:Nat) (m:MchD) (port clock:Int) (hM:OkM m) (hob:lookO ob id=some (mchO m (.own j))) (hj:lookO ob j=some (memO m.mem)) (hi:id<nx) (hjn:j<nx) (hne:id≠j) :
  InlC Tryz.prog 144 [.ptr id 49 0 0,iv port,uv clock] nx ob fun r nx' ob'=>r=uv (zAS m port clock).2∧zH1 nx ob id j (zAS m port clock).1 nx' ob':=by
 have n1:¬ j=id:=fun e=>hne e.symm
 have hk:m.keys.length≤1000:=by have:=hM.k;omega
 by_cases h1:port≤1
 ·have hE:zAS m port clock=({m with keys:=(zDR m.keys port).1},(zDR m.keys port).2):=by
   unfold zAS;by_cases q:port=0∨port=1
   ·rw [if_pos q]
   rw [if_neg q,if_neg (by omega),if_neg (by omega),if_neg (by omega),if_neg (by omega),if_neg (by omega)]
   unfold zDR;rw [if_neg (by omega),if_neg (by omega)]
  refine InlC.of Tryz.func144 rfl (by kernel_rfl) rfl ?_
  simp only [Tryz.ntmps144,St.startI,argT];refine au1 (kX2 @hob @hj) ?_;intros;apply wr;refine gT11 @h1 rfl @hob ?_;intros;apply wr;refine cZ (zP5 m.keys port hk) @hob @hob ?_;intros;apply wr;refine zAA ?_;simp [hE];exact ⟨by omega,by simp [lookO,hob,hE],by simp [lookO,n1,hj],fun i h1 h2 h3=>by simp [lookO,h2]⟩
 by_cases h2:port=2
 ·have hE:zAS m port clock=(m,clock):=by unfold zAS;rw [if_neg (by omega),if_pos h2]
  refine InlC.of Tryz.func144 rfl (by kernel_rfl) rfl ?_
  simp only [Tryz.ntmps144,St.startI,argT];refine au1 (kX2 @hob @hj) ?_;intros;apply wr;refine gF10 @h1 rfl ?_;intros;apply wr;refine gT10 @h2 rfl ?_;intros;apply wr;refine zAA ?_;simp [hE];exact ⟨by omega,by simp [lookO,hob,hE],by simp [lookO,n1,hj],fun i h1 h2 h3=>by simp [lookO,h2]⟩
 by_cases h3:port=3
 ·have hE:zAS m port clock=(m,zN2 m.tim):=by unfold zAS;rw [if_neg (by omega),if_neg (by omega),if_pos h3]
  refine InlC.of Tryz.func144 rfl (by kernel_rfl) rfl ?_
  simp only [Tryz.ntmps144,St.startI,argT];refine au1 (kX2 @hob @hj) ?_;intros;apply wr;refine gF10 @h1 rfl ?_;intros;apply wr;refine gF10 @h2 rfl ?_;intros;apply wr;refine gT11 @h3 rfl @hob ?_;intros;apply wr;refine cZ (zQV m.tim) @hob @hob ?_;intros;apply wr;refine zAA ?_;simp [hE];exact ⟨by omega,by simp [lookO,hob,hE],by simp [lookO,n1,hj],fun i h1 h2 h3=>by simp [lookO,h2]⟩
 by_cases h4:port≤6
 ·have hE:zAS m port clock=(m,zKd m.dk port):=by unfold zAS;rw [if_neg (by omega),if_neg (by omega),if_neg (by omega),if_pos (by omega)]
  refine InlC.of Tryz.func144 rfl (by kernel_rfl) rfl ?_
  simp only [Tryz.ntmps144,St.startI,argT];refine au1 (kX2 @hob @hj) ?_;intros;apply wr;refine gF10 @h1 rfl ?_;intros;apply wr;refine gF10 @h2 rfl ?_;intros;apply wr;refine gF10 @h3 rfl ?_;intros;apply wr;refine gT11 @h4 rfl @hob ?_;intros;apply wr;refine cZ (zP6 m.dk port) @hob @hob ?_;intros;apply wr;refine zAA ?_;simp [hE];exact ⟨by omega,by simp [lookO,hob,hE],by simp [lookO,n1,hj],fun i h1 h2 h3=>by simp [lookO,h2]⟩
 by_cases h5:port≤9
 ·have hE:zAS m port clock=(m,zKv m.nc port):=by unfold zAS;rw [if_neg (by omega),if_neg (by omega),if_neg (by omega),if_neg (by omega),if_pos (by omega)]
  refine InlC.of Tryz.func144 rfl (by kernel_rfl) rfl ?_
  simp only [Tryz.ntmps144,St.startI,argT];refine au1 (kX2 @hob @hj) ?_;intros;apply wr;refine gF10 @h1 rfl ?_;intros;apply wr;refine gF10 @h2 rfl ?_;intros;apply wr;refine gF10 @h3 rfl ?_;intros;apply wr;refine gF10 @h4 rfl ?_;intros;apply wr;refine gT11 @h5 rfl @hob ?_;intros;apply wr;refine cZ (zQN m.nc port) @hob @hob ?_;intros;apply wr;refine zAA ?_;simp [hE];exact ⟨by omega,by simp [lookO,hob,hE],by simp [lookO,n1,hj],fun i h1 h2 h3=>by simp [lookO,h2]⟩
 have hE:zAS m port clock=(m,zI3 m.tgt m.given port):=by
  unfold zAS;rw [if_neg (by omega),if_neg (by omega),if_neg (by omega),if_neg (by omega),if_neg (by omega)]
  split
  ·rfl
  rename_i q;unfold zI3;rw [if_neg (by omega),if_neg (by omega)]
 refine InlC.of Tryz.func144 rfl (by kernel_rfl) rfl ?_
 simp only [Tryz.ntmps144,St.startI,argT];refine au1 (kX2 @hob @hj) ?_;intros;apply wr;refine gF10 @h1 rfl ?_;intros;apply wr;refine gF10 @h2 rfl ?_;intros;apply wr;refine gF10 @h3 rfl ?_;intros;apply wr;refine gF10 @h4 rfl ?_;intros;apply wr;refine gF11 @h5 rfl @hob ?_;intros;apply wr;refine cZ (zP4 m.tgt m.given port hM.gv) @hob @hob ?_;intros;apply wr;refine zAA ?_;simp [hE];exact ⟨by omega,by simp [lookO,hob,hE],by simp [lookO,n1,hj],fun i h1 h2 h3=>by simp [lookO,h2]⟩
theorem zIh {nx:Nat} {ob:List (Nat × Option Ob)} (j:Nat) (d:DskD) (l:List Int) (v t:Int) (hf:W32 d.frame) (hv:v=1∨v=2) (hs:d.state=0) (hb:¬ d.blocks≤d.block) (hq:d.frame<pagesD l) (hj:lookO ob j=some (memO l)) (hjn:j<nx) :
  InlC Tryz.prog 202 [.st d.row,.own j,iv 6,uv v,lv t] nx ob fun r nx' ob'=>r=.tup [.st (zAo d l v t).1.row,zFb (zAo d l v t).2]∧zBm nx ob j l nx' ob':=by
 have w3:IntKind.i64.wrap 1=1:=by decide
 have w4:IntKind.i64.wrap 2=2:=by decide
 have l1:¬ j=nx:=by omega
 have l2:¬ j=nx+1:=by omega
 have hg:=zCP l d.frame hf;have hB:=zFB l d.frame hf.1 hq;have w2:IntKind.i64.wrap d.frame=d.frame:=zAB (by have:=hf.1;omega) (by have:=hf.2;omega)
 have hq2:¬ pagesD l≤d.frame:=by omega
 rcases hv with rfl|rfl
 ·have hE:zAo d l 1 t=({d with state:=1,cmd:=1,opBlock:=d.block,opFrame:=d.frame,opData:=[]},[⟨3,t,d.block,[]⟩]):=by
   unfold zAo zA3;rw [if_neg (by simp [hs]),if_neg (by omega)];simp
  have hR:=zIk {d with state:=1,cmd:=1,opBlock:=d.block,opFrame:=d.frame,opData:=[]} t
  simp [zA3] at hR;refine InlC.of Tryz.func202 rfl (by kernel_rfl) rfl ?_
  simp only [Tryz.ntmps202,St.startI,argT];refine au1 (kX3 @hj @l1 @l2) ?_;intros;apply wr;refine gF00 rfl ?_;intros;apply wr;refine gF00 rfl ?_;intros;apply wr;refine gF00 rfl ?_;intros;apply wr;refine gF01 rfl @hs ?_;intros;apply wr;refine gT11 @hs rfl (kX4 @hb @hj @l1 @l2) ?_;intros;apply wr;refine cn1 (hg) (kX3 @hj @l1 @l2) ?_;refine au ?_;intros;apply wr;refine gF10 (kX2 @hq2 @hq) rfl ?_;intros;apply wr;refine gF00 rfl ?_;intros;apply wr;refine cX (hR) ?_;intros;apply wr;obtain ⟨A,hA⟩:∃ A,A=nx+1+1+1+5:=⟨_,rfl⟩;rw [← hA];have q1:¬ nx=A:=by omega
  have q2:¬ nx+1=A:=by omega
  have q3:¬ A=nx:=by omega
  have q4:¬ A=nx+1:=by omega
  have q5:¬ j=A:=by omega
  have q6:¬ nx=A+1:=by omega
  have q0:¬ j=A+1:=by omega
  have q7:¬ A=A+1:=by omega
  have q8:¬ A+1=nx:=by omega
  have q9:¬ A+1=A:=by omega
  refine zAv (.node 2 3 (.leaf [0,1,2,3,4] (bN [0,0,2,7,15]) [(3,([[],[],[1]],[(0,2)])),(1,([],[])),(1,([],[]))]) (.leaf [0,1,3,2,4] (bN [0,0,1,7,15]) [(3,([[],[],[0]],[(1,2)])),(1,([],[])),(1,([],[]))])) (by kernel_rfl) (by kernel_rfl) ?_
  simp only [PT.run]
  repeat' (with_reducible apply And.intro)
  all_goals (simp only [zBZ,zWq,List.map_nil,zWi,zWn];refine af1 (kX8 @q1 @q2 @q3 @q4 @q6 @q7 @q8 @q9) ?_;intros;apply wr)
  all_goals
   refine zEl 11 (A+1) rfl (by simp [lookO,q1,q2,q3,q4,q6,q7,q8,q9];rfl) rfl ?_
   simp;refine zAA ?_;simp [hE,w3,w4,q1,q2,q3,q4,q6,q7,q8,q9,outs];refine ⟨by omega,by simp [lookO,l1,l2,q5,q0,hj],fun i h1 h2=>?_⟩
   have a1:¬ i=nx:=by omega
   have a2:¬ i=nx+1:=by omega
   have a3:¬ i=A:=by omega
   have a4:¬ i=A+1:=by omega
   simp [lookO,a1,a2,a3,a4]
 have hE:zAo d l 2 t=({d with state:=1,cmd:=2,opBlock:=d.block,opFrame:=d.frame,opData:=zBS l d.frame},[⟨4,t,d.block,zBS l d.frame⟩]):=by
  unfold zAo zA3;rw [if_neg (by simp [hs]),if_neg (by omega)];simp
 have hR:=zIk {d with state:=1,cmd:=2,opBlock:=d.block,opFrame:=d.frame,opData:=zBS l d.frame} t
 simp [zA3] at hR;refine InlC.of Tryz.func202 rfl (by kernel_rfl) rfl ?_
 simp only [Tryz.ntmps202,St.startI,argT];refine af1 (kX3 @hj @l1 @l2) ?_;intros;apply wr;refine zBE rfl ?_;intros;apply wr;refine zBE rfl ?_;intros;apply wr;refine zBE rfl ?_;intros;apply wr;refine zIG rfl @hs ?_;intros;apply wr;refine zBv @hs rfl (kX4 @hb @hj @l1 @l2) ?_;intros;apply wr;refine cn1 (hg) (kX3 @hj @l1 @l2) ?_;refine af ?_;intros;apply wr;refine zAi (kX2 @hq2 @hq) rfl ?_;intros;apply wr;refine zO2 rfl (kX4 @w2 @hj @l1 @l2) ?_;intros;apply wr;refine cn1 (hB) (kX3 @hj @l1 @l2) ?_;refine af ?_;intros;apply wr;refine cXf (hR) ?_;intros;apply wr;obtain ⟨A,hA⟩:∃ A,A=nx+1+1+1+2+5:=⟨_,rfl⟩;rw [← hA];have q1:¬ nx=A:=by omega
 have q2:¬ nx+1=A:=by omega
 have q3:¬ A=nx:=by omega
 have q4:¬ A=nx+1:=by omega
 have q5:¬ j=A:=by omega
 have q6:¬ nx=A+1:=by omega
 have q0:¬ j=A+1:=by omega
 have q7:¬ A=A+1:=by omega
 have q8:¬ A+1=nx:=by omega
 have q9:¬ A+1=A:=by omega
 refine zAv (.node 2 3 (.leaf [0,1,2,3,4] (bN [0,0,2,7,15]) [(3,([[],[],[1]],[(0,2)])),(1,([],[])),(1,([],[]))]) (.leaf [0,1,3,2,4] (bN [0,0,1,7,15]) [(3,([[],[],[0]],[(1,2)])),(1,([],[])),(1,([],[]))])) (by kernel_rfl) (by kernel_rfl) ?_
 simp only [PT.run]
 repeat' (with_reducible apply And.intro)
 all_goals (simp only [zBZ,zWq,List.map_nil,zWi,zWn];refine af1 (kX8 @q1 @q2 @q3 @q4 @q6 @q7 @q8 @q9) ?_;intros;apply wr)
 all_goals
  refine zEl 11 (A+1) rfl (by simp [lookO,q1,q2,q3,q4,q6,q7,q8,q9];rfl) rfl ?_
  simp;refine zAA ?_;simp [hE,w3,w4,q1,q2,q3,q4,q6,q7,q8,q9,outs];refine ⟨by omega,by simp [lookO,l1,l2,q5,q0,hj],fun i h1 h2=>?_⟩
  have a1:¬ i=nx:=by omega
  have a2:¬ i=nx+1:=by omega
  have a3:¬ i=A:=by omega
  have a4:¬ i=A+1:=by omega
  simp [lookO,a1,a2,a3,a4]
theorem zIi {nx:Nat} {ob:List (Nat × Option Ob)} (j:Nat) (n:NicD) (l:List Int) (t:Int) (hf:W32 n.frame) (h1:1≤n.len) (h2:n.len≤128) (hq:n.frame<pagesD l) (hj:lookO ob j=some (memO l)) (hjn:j<nx) :
  InlC Tryz.prog 203 [.st n.row,.own j,iv 9,uv 1,lv t] nx ob fun r nx' ob'=>r=.tup [.st n.row,zFb [⟨2,t,0,(zBS l n.frame).take n.len.toNat⟩]]∧zBm nx ob j l nx' ob':=by
 have w3:IntKind.i64.wrap 1=1:=by decide
 have w4:IntKind.i64.wrap 2=2:=by decide
 have l1:¬ j=nx:=by omega
 have l2:¬ j=nx+1:=by omega
 have hg:=zCP l n.frame hf;have hB:=zFB l n.frame hf.1 hq;have hL:=zD3 hf.1 hq;have w2:IntKind.i64.wrap n.frame=n.frame:=zAB (by have:=hf.1;omega) (by have:=hf.2;omega)
 have hq2:¬ pagesD l≤n.frame:=by omega
 have hE:True:=trivial;refine InlC.of Tryz.func203 rfl (by kernel_rfl) rfl ?_
 simp only [Tryz.ntmps203,St.startI,argT];refine au1 (kX3 @hj @l1 @l2) ?_;intros;apply wr;refine gF00 rfl ?_;intros;apply wr;refine gF00 rfl ?_;intros;apply wr;refine gF00 rfl ?_;intros;apply wr;refine gF01 rfl (kX5 @h1 @h2 @hj @l1 @l2) ?_;intros;apply wr;refine cn1 (hg) (kX3 @hj @l1 @l2) ?_;refine au ?_;intros;apply wr;refine gT11 (kX2 @hq @hq2) rfl (kX4 @w2 @hj @l1 @l2) ?_;intros;apply wr;refine cn1 (hB) (kX3 @hj @l1 @l2) ?_;refine au ?_;intros;apply wr;obtain ⟨A,hA⟩:∃ A,A=nx+1+1+1+2:=⟨_,rfl⟩;rw [← hA];have q1:¬ nx=A:=by omega
 have q2:¬ nx+1=A:=by omega
 have q3:¬ A=nx:=by omega
 have q4:¬ A=nx+1:=by omega
 have q5:¬ j=A:=by omega
 refine zAv (.node 7 8 (.leaf [0,1,2,3,4,5,6,7,8,9] (bN [0,0,0,0,8,28,62,126,255,511]) [(8,([[],[],[],[],[3],[2,3,4],[1,2,3,4,5],[1,2,3,4,5,6]],[(0,7)])),(1,([],[])),(1,([],[]))]) (.leaf [0,1,2,3,4,5,6,8,7,9] (bN [0,0,0,0,8,28,62,1,255,511]) [(8,([[],[],[],[],[3],[2,3,4],[1,2,3,4,5],[0]],[(4,7),(5,7)])),(1,([],[])),(1,([],[]))])) (by kernel_rfl) (by kernel_rfl) ?_
 simp only [PT.run]
 repeat' (with_reducible apply And.intro)
 all_goals (simp only [zBZ,zWq,List.map_nil,zWi,zWn];refine af1 (kX7 @q1 @q2 @q3 @q4 @h1 @h2 @hL) ?_;intros;apply wr)
 all_goals
  refine zEl 11 A rfl (by simp [lookO,q1,q2,q3,q4];rfl) rfl ?_
  simp;refine zAA ?_;simp [hE,q1,q2,q3,q4,outs];refine ⟨by omega,by simp [lookO,l1,l2,q5,hj],fun i h1 h2=>?_⟩
  have a1:¬ i=nx:=by omega
  have a2:¬ i=nx+1:=by omega
  have a3:¬ i=A:=by omega
  simp [lookO,a1,a2,a3]
theorem zQH {nx:Nat} {ob:List (Nat × Option Ob)} (j:Nat) (t g:Int) (l:List Int) (port v:Int) (h1:¬ port=10) (h2:¬ port=11) (hj:lookO ob j=some (memO l)) (hjn:j<nx) :
  InlC Tryz.prog 204 [.st [uv t,uv g],.own j,iv port,uv v] nx ob fun r nx' ob'=>r=.st [uv t,uv (zAh g l port v).1]∧zBm nx ob j (zAh g l port v).2 nx' ob':=by
 have l1:¬ j=nx:=by omega
 have l2:¬ j=nx+1:=by omega
 have hE:zAh g l port v=(g,l):=by unfold zAh;rw [if_neg h1,if_neg h2];split<;>rfl
 have h3:(port==10)=false:=by simp [h1]
 have h4:(port==11)=false:=by simp [h2]
 refine InlC.of Tryz.func204 rfl (by kernel_rfl) rfl ?_
 simp only [Tryz.ntmps204,St.startI,argT];refine au1 (kX5 @hj @l1 @l2 @h1 @h3) ?_;intros;apply wr;refine gF01 rfl (kX2 @h2 @h4) ?_;intros;apply wr;refine gF00 rfl ?_;intros;apply wr;refine zAA ?_;simp [hE];refine ⟨by omega,by simp [lookO,l1,l2,hj],fun i h1 h2=>?_⟩
 have a1:¬ i=nx:=by omega
 have a2:¬ i=nx+1:=by omega
 simp [lookO,a1,a2]
abbrev zN8 (nx:Nat) (ob:List (Nat × Option Ob)) (id j:Nat) (z:MchD × List OutD) (r:V) (nx':Nat) (ob':List (Nat × Option Ob)):Prop :=
 (r=zFb z.2∨(r=.sl 0 true []∧z.2=[]))∧zH1 nx ob id j z.1 nx' ob'
theorem zTk (d:DskD) (l:List Int) (v t:Int) (hv:v=1∨v=2):zAn d l 6 v t=zAo d l v t:=by
 unfold zAn;rw [if_neg (by omega),if_neg (by omega),if_pos rfl,if_pos hv]
theorem zUe {d:DskD} {l:List Int} {p v t:Int} (h:(zAn d l p v t).2≠[]):p=6∧(v=1∨v=2)∧d.state=0∧¬ d.blocks≤d.block∧d.frame<pagesD l:=by
 by_cases hp:p=6
 ·by_cases hv:v=1∨v=2
  ·subst hp;rw [zTk d l v t hv] at h;unfold zAo at h;by_cases hs:d.state=0
   ·rw [if_neg (by simp [hs])] at h
    by_cases hb:d.blocks≤d.block∨pagesD l≤d.frame
    ·rw [if_pos hb] at h;exact absurd rfl h
    exact ⟨rfl,hv,hs,fun q=>hb (.inl q),by omega⟩
   rw [if_pos hs] at h;exact absurd rfl h
  exfalso
  apply h;unfold zAn;rw [if_neg (by omega),if_neg (by omega),if_pos hp,if_neg hv]
  split<;>rfl
 exfalso
 apply h;unfold zAn
 repeat' split
 all_goals first|rfl|(exfalso;omega)
theorem nic_is (n:NicD) (l:List Int) (t:Int) (h1:1≤n.len) (h2:n.len≤128) (h3:n.frame<pagesD l):zAd n l 9 1 t=(n,[⟨2,t,0,(zBS l n.frame).take n.len.toNat⟩]):=by
 unfold zAd;rw [if_neg (by omega),if_neg (by omega),if_pos rfl,if_pos rfl,if_pos ⟨h1,h2,h3⟩]
theorem zSQ {n:NicD} {l:List Int} {p v t:Int} (h:(zAd n l p v t).2≠[]):p=9∧v=1∧1≤n.len∧n.len≤128∧n.frame<pagesD l:=by
 by_cases hp:p=9
 ·by_cases hv:v=1
  ·by_cases hc:1≤n.len∧n.len≤128∧n.frame<pagesD l
   ·exact ⟨hp,hv,hc⟩
   exfalso
   apply h;unfold zAd;rw [if_neg (by omega),if_neg (by omega),if_pos hp,if_pos hv,if_neg hc]
  exfalso
  apply h;unfold zAd;rw [if_neg (by omega),if_neg (by omega),if_pos hp,if_neg hv]
  repeat' split
  all_goals rfl
 exfalso
 apply h;unfold zAd
 repeat' split
 all_goals first|rfl|(exfalso;omega)
theorem zLC {nx:Nat} {ob:List (Nat × Option Ob)} (id j:Nat) (m:MchD) (port v:Int) (hM:OkM m) (hv:W32 v) (hob:lookO ob id=some (mchO m (.own j))) (hj:lookO ob j=some (memO m.mem)) (hi:id<nx) (hjn:j<nx) (hne:id≠j) :
  InlC Tryz.prog 146 [.ptr id 49 0 0,iv port,uv v] nx ob fun r nx' ob'=>zN8 nx ob id j (zAJ m port v m.count) r nx' ob':=by
 have n1:¬ j=id:=fun e=>hne e.symm
 by_cases h0:port=0
 ·have hE:zAJ m port v m.count=(m,[⟨1,m.count,0,[UInt8.ofNat (v % 256).toNat]⟩]):=by unfold zAJ;rw [if_pos h0]
  refine InlC.of Tryz.func146 rfl (by kernel_rfl) rfl ?_
  simp only [Tryz.ntmps146,St.startI,argT];refine au1 (kX2 @hob @hj) ?_;intros;apply wr;refine gT10 @h0 rfl ?_;intros;apply wr;have hbv:zB0 [.int .u8 (IntKind.u8.wrap v)]:=zJD v;have hby:UInt8.ofNat (IntKind.u8.wrap v).toNat=UInt8.ofNat (v % 256).toNat:=by rw [IntKind.wrap_u8]
  have m1:¬ id=nx:=by omega
  have m2:¬ j=nx:=by omega
  have m3:¬ id=nx+1:=by omega
  have m4:¬ j=nx+1:=by omega
  refine zAG 11 [0,1,3,7,0,16,48,112,255,511,1023] [(8,([[],[0],[0,1],[0,1,2],[],[4],[4,5],[4,5,6]],[(3,6)])),(1,([],[])),(1,([],[])),(1,([],[]))] ?_;refine af1 (kX6 @hob @hj @hbv @hby @m1 @m2) ?_;intros;apply wr;refine zEl 6 (nx+1) rfl (by simp [lookO];rfl) rfl ?_
  simp;refine zAA ?_;simp [hE];exact ⟨.inl rfl,by omega,by simp [lookO,m1,m3,hob],by simp [lookO,m2,m4,hj],fun i h1 h2 h3=>by simp [lookO,show ¬ i=nx by omega,show ¬ i=nx+1 by omega]⟩
 by_cases h2:port≤2
 ·have hE:zAJ m port v m.count=(m,[]):=by unfold zAJ;rw [if_neg h0,if_neg (by omega),if_neg (by omega),if_neg (by omega),if_neg (by omega)]
  refine InlC.of Tryz.func146 rfl (by kernel_rfl) rfl ?_
  simp only [Tryz.ntmps146,St.startI,argT];refine af1 (kX2 @hob @hj) ?_;intros;apply wr;refine zAi @h0 rfl ?_;intros;apply wr;refine zDl @h2 rfl ?_;intros;apply wr;refine zAA ?_;simp [hE];exact ⟨.inr ⟨rfl,rfl⟩,by omega,by simp [lookO,hob,hE],by simp [lookO,n1,hj],fun i h1 h2 h3=>by simp [lookO,h2]⟩
 by_cases h3:port=3
 ·have hE:zAJ m port v m.count=({m with tim:=armD v},[]):=by unfold zAJ;rw [if_neg h0,if_pos h3]
  refine InlC.of Tryz.func146 rfl (by kernel_rfl) rfl ?_
  simp only [Tryz.ntmps146,St.startI,argT];refine af1 (kX2 @hob @hj) ?_;intros;apply wr;refine zAi @h0 rfl ?_;intros;apply wr;refine zAi @h2 rfl ?_;intros;apply wr;refine zBv @h3 rfl @hob ?_;intros;apply wr;refine cZf (zVe v) @hob @hob ?_;intros;apply wr;refine zAA ?_;simp [hE];exact ⟨.inr ⟨rfl,rfl⟩,by omega,by simp [lookO,hob,hE],by simp [lookO,n1,hj],fun i h1 h2 h3=>by simp [lookO,h2]⟩
 by_cases h4:port≤6
 ·have hE:zAJ m port v m.count=({m with dk:=(zAn m.dk m.mem port v m.count).1},(zAn m.dk m.mem port v m.count).2):=by unfold zAJ;rw [if_neg h0,if_neg h3,if_pos (by omega)]
  by_cases hz:(zAn m.dk m.mem port v m.count).2=[]
  ·have hn:=zNm m.dk m.mem port v m.count hM.d.c;unfold zFq at hn;rw [hz] at hn;rw [show zFb []=.sl 4 false [] from rfl] at hn
   refine InlC.of Tryz.func146 rfl (by kernel_rfl) rfl ?_
   simp only [Tryz.ntmps146,St.startI,argT];refine af1 (kX2 @hob @hj) ?_;intros;apply wr;refine zAi @h0 rfl ?_;intros;apply wr;refine zAi @h2 rfl ?_;intros;apply wr;refine zAi @h3 rfl ?_;intros;apply wr;refine zBv @h4 rfl @hob ?_;intros;apply wr;refine zAG 23 [0,0,2,6,14,0,32,96,224,0,0,0,2048,6144,14336,32766,65534,131070,131070,262143,786431,1835007,4194303] [(22,([[],[],[1],[1,2],[1,2,3],[],[5],[5,6],[5,6,7],[],[],[],[11],[11,12],[11,12,13],[1,2,3,4,5,6,7,8,9,10,11,12,13,14],[1,2,3,4,5,6,7,8,9,10,11,12,13,14,15],[1,2,3,4,5,6,7,8,9,10,11,12,13,14,15,16],[1,2,3,4,5,6,7,8,9,10,11,12,13,14,15,16],[0,1,2,3,4,5,6,7,8,9,10,11,12,13,14,15,16,17],[0,1,2,3,4,5,6,7,8,9,10,11,12,13,14,15,16,17,19],[0,1,2,3,4,5,6,7,8,9,10,11,12,13,14,15,16,17,19,20]],[])),(1,([],[]))] ?_;refine af1 (kX2 @hob @hj) ?_;intros;apply wr;refine ⟨1,_,hn,?_⟩;simp [aftE,noX,noXc,noX1,hob,hj]
   first|refine And.intro zAP ?_|skip
   refine af1 (kX2 @hob @hj) ?_;intros;apply wr;refine zAA ?_;simp [hE,hz];exact ⟨.inl rfl,by omega,by simp [lookO,hob,hE,hz],by simp [lookO,n1,hj],fun i h1 h2 h3=>by simp [lookO,h2]⟩
  obtain ⟨p6,v12,s0,b0,f0⟩:=zUe hz;have hi:=zTk m.dk m.mem v m.count v12;subst p6;rw [hi] at hE;refine InlC.of Tryz.func146 rfl (by kernel_rfl) rfl ?_
  simp only [Tryz.ntmps146,St.startI,argT];refine af1 (kX2 @hob @hj) ?_;intros;apply wr;refine zAi @h0 rfl ?_;intros;apply wr;refine zAi @h2 rfl ?_;intros;apply wr;refine zAi @h3 rfl ?_;intros;apply wr;refine zBv @h4 rfl @hob ?_;intros;apply wr;refine zAv (.node 0 15 (.leaf [0,1,2,3,4,5,6,7,8,9,10,11,12,13,14,15,16,17,18,19,20,21,22] (bN [0,0,2,6,14,0,32,96,224,0,0,0,2048,6144,14336,32767,65535,131071,131071,262143,786431,1835007,4194303]) [(15,([[],[],[1],[1,2],[1,2,3],[],[5],[5,6],[5,6,7],[],[],[],[11],[11,12],[11,12,13]],[])),(1,([],[])),(1,([],[])),(5,([[],[],[0],[0,2],[0,2,3]],[])),(1,([],[]))]) (.leaf [1,2,3,4,5,6,7,8,9,10,11,12,13,14,15,0,16,17,18,19,20,21,22] (bN [0,1,3,7,0,16,48,112,0,0,0,1024,3072,7168,16383,32767,32767,98303,98303,262143,786431,1835007,4194303]) [(14,([[],[0],[0,1],[0,1,2],[],[4],[4,5],[4,5,6],[],[],[],[10],[10,11],[10,11,12]],[])),(1,([],[])),(7,([[],[],[1],[1],[0,1,2],[0,1,2,4],[0,1,2,4,5]],[])),(1,([],[]))])) (by kernel_rfl) (by kernel_rfl) ?_
  simp only [PT.run]
  repeat' (with_reducible apply And.intro)
  all_goals (simp only [zBZ,zWq,List.map_nil,zWi,zWn];refine af1 (kX2 @hob @hj) ?_;intros;apply wr)
  all_goals
   first|refine .inr ((zIh j m.dk m.mem v m.count hM.d.c v12 s0 b0 f0 hj hjn).mono fun r nx' ob' hp=>?_)|refine (zIh j m.dk m.mem v m.count hM.d.c v12 s0 b0 f0 hj hjn).mono fun r nx' ob' hp=>?_|refine ((zIh j m.dk m.mem v m.count hM.d.c v12 s0 b0 f0 hj hjn).mono fun r nx' ob' hp=>?_).2
   simp only [aftI];obtain ⟨rfl,g1,g2,g3⟩:=hp;have y1:=g3 id (by omega) hne
   rw [hob] at y1;simp;refine af1 @y1 ?_;intros;apply wr;refine zAA ?_;simp [hE];exact ⟨.inl rfl,by omega,by simp [lookO],by simp [lookO,n1,g2],fun i h1 h2 h3=>by simp [lookO,h2,g3 i h1 h3]⟩
 by_cases h5:port≤9
 ·have hE:zAJ m port v m.count=({m with nc:=(zAd m.nc m.mem port v m.count).1},(zAd m.nc m.mem port v m.count).2):=by unfold zAJ;rw [if_neg h0,if_neg h3,if_neg (by omega),if_pos (by omega)]
  by_cases hz:(zAd m.nc m.mem port v m.count).2=[]
  ·have hn:=zNu m.nc m.mem port v m.count hM.r.a hM.r.b;unfold zFr at hn;rw [hz] at hn;rw [show zFb []=.sl 4 false [] from rfl] at hn
   refine InlC.of Tryz.func146 rfl (by kernel_rfl) rfl ?_
   simp only [Tryz.ntmps146,St.startI,argT];refine af1 (kX2 @hob @hj) ?_;intros;apply wr;refine zAi @h0 rfl ?_;intros;apply wr;refine zAi @h2 rfl ?_;intros;apply wr;refine zAi @h3 rfl ?_;intros;apply wr;refine zAi @h4 rfl ?_;intros;apply wr;refine zBv @h5 rfl @hob ?_;intros;apply wr;refine zAG 23 [0,0,2,6,14,0,32,96,224,0,0,0,2048,6144,14336,32766,65534,131070,131070,262143,786431,1835007,4194303] [(22,([[],[],[1],[1,2],[1,2,3],[],[5],[5,6],[5,6,7],[],[],[],[11],[11,12],[11,12,13],[1,2,3,4,5,6,7,8,9,10,11,12,13,14],[1,2,3,4,5,6,7,8,9,10,11,12,13,14,15],[1,2,3,4,5,6,7,8,9,10,11,12,13,14,15,16],[1,2,3,4,5,6,7,8,9,10,11,12,13,14,15,16],[0,1,2,3,4,5,6,7,8,9,10,11,12,13,14,15,16,17],[0,1,2,3,4,5,6,7,8,9,10,11,12,13,14,15,16,17,19],[0,1,2,3,4,5,6,7,8,9,10,11,12,13,14,15,16,17,19,20]],[])),(1,([],[]))] ?_;refine af1 (kX2 @hob @hj) ?_;intros;apply wr;refine ⟨1,_,hn,?_⟩;simp [aftE,noX,noXc,noX1,hob,hj]
   first|refine And.intro zAP ?_|skip
   refine af1 (kX2 @hob @hj) ?_;intros;apply wr;refine zAA ?_;simp [hE,hz];exact ⟨.inl rfl,by omega,by simp [lookO,hob,hE,hz],by simp [lookO,n1,hj],fun i h1 h2 h3=>by simp [lookO,h2]⟩
  obtain ⟨p9,v1,s1,s2,f0⟩:=zSQ hz;subst p9 v1;rw [nic_is m.nc m.mem m.count s1 s2 f0] at hE;refine InlC.of Tryz.func146 rfl (by kernel_rfl) rfl ?_
  simp only [Tryz.ntmps146,St.startI,argT];refine af1 (kX2 @hob @hj) ?_;intros;apply wr;refine zAi @h0 rfl ?_;intros;apply wr;refine zAi @h2 rfl ?_;intros;apply wr;refine zAi @h3 rfl ?_;intros;apply wr;refine zAi @h4 rfl ?_;intros;apply wr;refine zBv @h5 rfl @hob ?_;intros;apply wr;refine zAv (.node 0 15 (.leaf [0,1,2,3,4,5,6,7,8,9,10,11,12,13,14,15,16,17,18,19,20,21,22] (bN [0,0,2,6,14,0,32,96,224,0,0,0,2048,6144,14336,32767,65535,131071,131071,262143,786431,1835007,4194303]) [(15,([[],[],[1],[1,2],[1,2,3],[],[5],[5,6],[5,6,7],[],[],[],[11],[11,12],[11,12,13]],[])),(1,([],[])),(1,([],[])),(5,([[],[],[0],[0,2],[0,2,3]],[])),(1,([],[]))]) (.leaf [1,2,3,4,5,6,7,8,9,10,11,12,13,14,15,0,16,17,18,19,20,21,22] (bN [0,1,3,7,0,16,48,112,0,0,0,1024,3072,7168,16383,32767,32767,98303,98303,262143,786431,1835007,4194303]) [(14,([[],[0],[0,1],[0,1,2],[],[4],[4,5],[4,5,6],[],[],[],[10],[10,11],[10,11,12]],[])),(1,([],[])),(7,([[],[],[1],[1],[0,1,2],[0,1,2,4],[0,1,2,4,5]],[])),(1,([],[]))])) (by kernel_rfl) (by kernel_rfl) ?_
  simp only [PT.run]
  repeat' (with_reducible apply And.intro)
  all_goals (simp only [zBZ,zWq,List.map_nil,zWi,zWn];refine af1 (kX2 @hob @hj) ?_;intros;apply wr)
  all_goals
   first|refine .inr ((zIi j m.nc m.mem m.count hM.r.a s1 s2 f0 hj hjn).mono fun r nx' ob' hp=>?_)|refine (zIi j m.nc m.mem m.count hM.r.a s1 s2 f0 hj hjn).mono fun r nx' ob' hp=>?_|refine ((zIi j m.nc m.mem m.count hM.r.a s1 s2 f0 hj hjn).mono fun r nx' ob' hp=>?_).2
   simp only [aftI];obtain ⟨rfl,g1,g2,g3⟩:=hp;have y1:=g3 id (by omega) hne
   rw [hob] at y1;simp;refine af1 @y1 ?_;intros;apply wr;refine zAA ?_;simp [hE];exact ⟨.inl rfl,by omega,by simp [lookO],by simp [lookO,n1,g2],fun i h1 h2 h3=>by simp [lookO,h2,g3 i h1 h3]⟩
 have hE:zAJ m port v m.count=({m with given:=(zAh m.given m.mem port v).1,mem:=(zAh m.given m.mem port v).2},[]):=by
  unfold zAJ;rw [if_neg h0,if_neg h3,if_neg (by omega),if_neg (by omega)]
  split
  ·rfl
  rename_i q;have:zAh m.given m.mem port v=(m.given,m.mem):=by
   unfold zAh;rw [if_neg (show ¬ port=10 by omega),if_neg (show ¬ port=11 by omega)];split<;>rfl
  rw [this]
 have hg:∀ {nx:Nat} {ob:List (Nat × Option Ob)},lookO ob j=some (memO m.mem)→j<nx→InlC Tryz.prog 204 [.st [uv m.tgt,uv m.given],.own j,iv port,uv v] nx ob fun r nx' ob'=>r=.st [uv m.tgt,uv (zAh m.given m.mem port v).1]∧zBm nx ob j (zAh m.given m.mem port v).2 nx' ob':=fun k1 k2=>by
  by_cases q:port=10∨port=11
  ·exact zS6 j m.tgt m.given m.mem port v hM.gv hv q k1 k2
  exact zQH j m.tgt m.given m.mem port v (by omega) (by omega) k1 k2
 generalize zAh m.given m.mem port v=B at *
 refine InlC.of Tryz.func146 rfl (by kernel_rfl) rfl ?_
 simp only [Tryz.ntmps146,St.startI,argT];refine af1 (kX2 @hob @hj) ?_;intros;apply wr;refine zAi @h0 rfl ?_;intros;apply wr;refine zAi @h2 rfl ?_;intros;apply wr;refine zAi @h3 rfl ?_;intros;apply wr;refine zAi @h4 rfl ?_;intros;apply wr;refine zDE @h5 rfl @hob ?_;intros;apply wr;refine zAv (.node 0 11 (.leaf [0,1,2,3,4,5,6,7,8,9,10,11,12,13,14] (bN [0,0,2,6,14,0,32,96,224,0,0,2047,4095,8191,16383]) [(11,([[],[],[1],[1,2],[1,2,3],[],[5],[5,6],[5,6,7],[],[]],[])),(1,([],[])),(1,([],[])),(1,([],[])),(1,([],[]))]) (.leaf [1,2,3,4,5,6,7,8,9,10,11,0,12,13,14] (bN [0,1,3,7,0,16,48,112,0,0,1023,2047,4095,8191,16383]) [(10,([[],[0],[0,1],[0,1,2],[],[4],[4,5],[4,5,6],[],[]],[])),(1,([],[])),(1,([],[])),(1,([],[])),(1,([],[])),(1,([],[]))])) (by kernel_rfl) (by kernel_rfl) ?_
 simp only [PT.run]
 repeat' (with_reducible apply And.intro)
 all_goals (simp only [zBZ,zWq,List.map_nil,zWi,zWn];refine af1 (kX2 @hob @hj) ?_;intros;apply wr)
 all_goals
  first|refine .inr ((hg hj hjn).mono fun r nx' ob' hp=>?_)|refine (hg hj hjn).mono fun r nx' ob' hp=>?_|refine ((hg hj hjn).mono fun r nx' ob' hp=>?_).2
  simp only [aftI];obtain ⟨rfl,g1,g2,g3⟩:=hp;have y1:=g3 id (by omega) hne
  rw [hob] at y1;simp;refine af1 @y1 ?_;intros;apply wr;refine zAA ?_;simp [hE];exact ⟨.inr ⟨rfl,rfl⟩,by omega,by simp [lookO],by simp [lookO,n1,g2],fun i h1 h2 h3=>by simp [lookO,h2,g3 i h1 h3]⟩
end Go.Proofs.YtoondlebmacanaaGreat
end
