/- A part of the proof of ReplicaDisk. -/
import Derived.Test.YtjkmhmepljamoaaGreatK06
import Derived.Test.YtjkmhmepljamoaaGreatK25
import Derived.Test.YtjkmhmepljamoaaGreatK28
import Derived.Test.YtjkmhmepljamoaaGreatK31
set_option linter.all false
set_option maxHeartbeats 16000000
set_option maxRecDepth 100000
section
namespace Go.Proofs.YtjkmhmepljamoaaGreat
open Go.Ab Go.RowKit Tryz
theorem C7{C D E G:Prop}(c:C)(d:D)(e:E)(t:C->D->E->G:=by intro c d e;(refine af1 e ?_;intros;apply wr);repeat' ((first|(refine AB rfl (fun h=>?_) (fun h=>?_)<;>(first|(simp[e]at h;done)|(simp[e]at h)|skip)<;>(first|(exfalso;omega)|skip))|((first|refine .inl ⟨1,_,d.1,?_⟩|refine⟨1,_,d.1,?_⟩);simp[C0,Cd,noX,Cx,C9,e];first|refine And.intro AQ ?_|skip)|((first|refine .inl ⟨1,_,d.2.1,?_⟩|refine⟨1,_,d.2.1,?_⟩);simp[C0,Cd,noX,Cx,C9,e];first|refine And.intro AQ ?_|skip)|refine cc1 c.1 e ?_|refine cc1 c.2.1 e ?_|refine cc1 c.2.2.1 e ?_|refine cc1 c.2.2.2.1 e ?_|refine cc1 c.2.2.2.2.1 e ?_|refine cc1 c.2.2.2.2.2.1 e ?_|(refine BH (.node 7 8 (.leaf [0,1,2,3,4,5,6,7,8,9] (bN [0,0,0,0,8,28,62,126,255,511]) [(8,([[],[],[],[],[3],[2,3,4],[1,2,3,4,5],[1,2,3,4,5,6]],[(0,7)])),(1,([],[])),(1,([],[]))]) (.leaf [0,1,2,3,4,5,6,8,7,9] (bN [0,0,0,0,8,28,62,1,255,511]) [(8,([[],[],[],[],[3],[2,3,4],[1,2,3,4,5],[0]],[(4,7),(5,7)])),(1,([],[])),(1,([],[]))])) (by kernel_rfl) (by kernel_rfl) ?_;simp only[PT.run];repeat' (with_reducible apply And.intro);all_goals (simp only[CE,iI,List.map_nil,iC,iK]))|exact rt1 e|fail)<;>(refine af1 e ?_;intros;apply wr))):G:=t c d e
abbrev Hl(n:NicD)(l:List Int)(p v t:Int):Prop:=AC prog 215 [.st n.row,DO l,iv p,uv v,lv t] (.tup [.st (AZ n l p v t).1.row,H7 (AZ n l p v t).2])
theorem Ut(n:NicD)(l:List Int)(p v t:Int)(h9:¬p=9):Hl n l p v t:=by
 unfold Hl;by_cases h7:p=7
 ·subst h7;refine sZ func215 ntmps215 ?_;exact C7 trivial trivial @AZ.eq_1
 by_cases h8:p=8
 ·subst h8;refine sZ func215 ntmps215 ?_;exact C7 trivial trivial @AZ.eq_1
 refine sZ func215 ntmps215 ?_;exact C7 trivial trivial (kX4 @h7 @h8 @h9 @AZ.eq_1)
theorem Uu(n:NicD)(l:List Int)(v t:Int)(hf:W32 n.frame)(h1:¬v=1):Hl n l 9 v t:=by
 unfold Hl;have hp:=Ad l;have hg:=DU l n.frame hf;by_cases h0:v=0
 ·subst h0;refine sZ func215 ntmps215 ?_;exact C7 trivial trivial @AZ.eq_1
 by_cases h2:v=2
 ·subst h2;by_cases hq:n.frame<pagesD l
  ·by_cases hr:n.posted=false/\n.received=false
   ·have hE:AZ n l 9 2 t=({n with posted:=true,buffer:=n.frame},[]):=by
     unfold AZ;rw[nG,nG,if_pos rfl,nG,if_pos rfl,if_pos ⟨hq,hr.1,hr.2⟩]
    rw[hE];refine sZ func215 ntmps215 ?_;exact C7 (qX1 (hg)) trivial (kX3 @hq @hr.1 @hr.2)
   have hE:AZ n l 9 2 t=(n,[]):=by
    unfold AZ;rw[nG,nG,if_pos rfl,nG,if_pos rfl,if_neg (fun q=>hr q.2)]
   rw[hE];cases hpo:n.posted with
   | true =>
    refine sZ func215 ntmps215 ?_;exact C7 (qX1 (hg)) trivial (kX2 @hq @hpo)
   | false =>
    have hre:n.received=true:=by simpa[hpo]using hr
    refine sZ func215 ntmps215 ?_;exact C7 (qX1 (hg)) trivial (kX3 @hq @hpo @hre)
  have hE:AZ n l 9 2 t=(n,[]):=by
   unfold AZ;rw[nG,nG,if_pos rfl,nG,if_pos rfl,if_neg (fun q=>hq q.1)]
  rw[hE];refine sZ func215 ntmps215 ?_;exact C7 (qX1 (hg)) trivial @hq
 have hE:AZ n l 9 v t=(n,[]):=by simp[AZ,h0,h1,h2]
 rw[hE];have b1:(v==1)=false:=by simp[h1]
 have b2:(v==2)=false:=by simp[h2]
 refine sZ func215 ntmps215 ?_;exact C7 trivial trivial (kX5 @h0 @h1 @h2 @b1 @b2)
theorem Uv(n:NicD)(l:List Int)(t:Int)(hf:W32 n.frame)(hl:W32 n.len):Hl n l 9 1 t:=by
 unfold Hl;have hp:=Ad l;have hg:=DU l n.frame hf;have w2:IntKind.i64.wrap n.frame=n.frame:=AA (by have:=hf.1;omega) (by have:=hf.2;omega);by_cases h1:n.len<1
 ·have hE:AZ n l 9 1 t=(n,[]):=by
   unfold AZ;rw[nG,nG,if_pos rfl,if_pos rfl,nG]
  rw[hE];have g1:¬1<=n.len:=by omega
  refine sZ func215 ntmps215 ?_;exact C7 trivial trivial (kX2 @h1 @g1)
 by_cases h2:128<n.len
 ·have hE:AZ n l 9 1 t=(n,[]):=by
   unfold AZ;rw[nG,nG,if_pos rfl,if_pos rfl,nG]
  rw[hE];have g1:1<=n.len:=by omega
  have g2:¬n.len<=128:=by omega
  refine sZ func215 ntmps215 ?_;exact C7 trivial trivial (kX4 @h1 @h2 @g1 @g2)
 have g1:1<=n.len:=by omega
 have g2:n.len<=128:=by omega
 by_cases h3:n.frame<pagesD l
 ·have hE:AZ n l 9 1 t=(n,[⟨2,t,0,(Bh l n.frame).take n.len.toNat⟩]):=by
   unfold AZ;rw[nG,nG,if_pos rfl,if_pos rfl,nH]
  rw[hE];have hL:=FT hf.1 h3;have hB:=Gy l n.frame hf.1 h3;refine sZ func215 ntmps215 ?_;exact C7 (qX2 (hg) (hB)) trivial (kX8 @h1 @h2 @g1 @g2 @h3 @w2 @hL @O9)
 have hE:AZ n l 9 1 t=(n,[]):=by
  unfold AZ;rw[nG,nG,if_pos rfl,if_pos rfl,nG]
 rw[hE];refine sZ func215 ntmps215 ?_;exact C7 (qX1 (hg)) trivial (kX5 @h1 @h2 @g1 @g2 @h3)
theorem Ru(n:NicD)(l:List Int)(p v t:Int)(hf:W32 n.frame)(hl:W32 n.len):Hl n l p v t:=by
 by_cases h9:p=9
 ·subst h9;by_cases h1:v=1
  ·subst h1;exact Uv n l t hf hl
  exact Uu n l v t hf h1
 exact Ut n l p v t h9
abbrev rowM(m:MchD)(v:V):List V:=m.cpu.row++v::.str m.keys::(m.tim.row++(m.dk.row++(m.nc.row++[uv m.tgt,uv m.given,lv m.count,.bool m.waiting,.bool m.halted])))
abbrev cJ(m:MchD)(v:V):Ob:=⟨42,49,true,false,[rowM m v]⟩
def Kq(nx:Nat)(ob:List (Nat×Option Ob))(id j:Nat)(m:MchD)(nx':Nat)(ob':List (Nat×Option Ob)):Prop :=
 nx<=nx'/\lookO ob' id=some (cJ m (.own j))/\lookO ob' j=some (⟨25,1,false,false,ints .u32 m.mem⟩)/\∀i,i<nx->i≠id->i≠j->lookO ob' i=lookO ob i
abbrev zMR0:=[uv 0,uv 0,uv 0,uv 0,uv 0,uv 0,uv 0,uv 0,uv 0,uv 0,uv 0,uv 0,uv 0,uv 0,uv 0,uv 0,uv 0,uv 0,uv 0,uv 0,uv 0,uv 0,uv 0,uv 0,uv 0,.sl 0 true [],.str [],.bool false,uv 0,.bool false,uv 0,uv 0,uv 0,iv 0,iv 0,uv 0,uv 0,.str [],uv 0,uv 0,.bool false,uv 0,.bool false,uv 0,uv 0,uv 0,lv 0,.bool false,.bool false]
abbrev nilE:V:=.sl 0 true []
theorem img_k{k:Int}(l:List Int)(h:k<2):ints .u32 (kW++List.replicate 85 0)++ints .u32 (D8 l)=ints .u32 (H2 k l):=by
 unfold H2;rw[if_pos h];simp[ints]
theorem img_c{k:Int}(l:List Int)(h:¬k<2):ints .u32 (D8 l)=ints .u32 (H2 k l):=by
 unfold H2;rw[if_neg h]
theorem kW_s(i:Nat):ints .u32 (kW++List.replicate i 0)++[[V.int .u32 0]]=ints .u32 (kW++List.replicate (i+1) 0):=by
 rw[List.replicate_succ'];simp[ints]
theorem XH(kind:Int)(l:List Int)(hl:l.length<=60)
  (hrun:AC prog 41 [.st (Gm (H2 1 l)).row,nilE,lv 87] (.tup [.st (itD (Gm (H2 1 l)) 87).row,.sl 4 false [],iv 0,iv 0])) :
  AC prog 14 [iv kind,.sl 1 false (ints .i64 l)] (.st (mkD (kind%3) l).row):=by
 have hr:=Av kind 3 (by decide) (by decide);have hcode:=W3 l (by omega);have hcl:(ints .u32 (D8 l)).length=l.length:=by rw[AN,FA]
 have hil:=LL (kind%3) l;have hnew:=cM (H2 (kind%3) l) (by omega);have hmk:mkD (kind%3) l=if kind%3=1 then itD (Gm (H2 (kind%3) l)) 87 else Gm (H2 (kind%3) l):=rfl
 have hil2:¬(256:Int)<((ints .u32 (H2 (kind%3) l)).length:Int):=by rw[AN];omega
 by_cases hk2:kind%3<2
 ·have hap2:=img_k l hk2;by_cases hk1:kind%3=1
  ·rw[hmk,if_pos hk1];rw[hk1]at hnew hap2 hil2 ⊢;refine sX func14 ntmps14 ?_;refine cX (hr) ?_;refine ED @hk2 ?_;refine cX (As.kernel_ok) ?_;intros;apply wr;obtain⟨I,hI⟩:∃I:Nat->St->Prop,I=(fun kk ss=>∃(i:Nat),i<=85/\kk=85-i/\(True)/\ss=⟨47,[(5,.own 3),(0,iv (kind%3)),(1,.sl 1 false (ints .i64 l)),(4,.ptr 0 49 0 0)],6,[(3,some ⟨25,1,false,false,ints .u32 (kW++List.replicate i 0)⟩),(0,some ⟨42,49,true,false,[zMR0]⟩)],0⟩):=⟨_,rfl⟩;refine lX I (id) (by rw[hI];exact⟨0,by simp,rfl,trivial,rfl⟩) ?_;intro kk ss hIk _;rw[hI]at hIk;obtain⟨i,hi,rfl,hx,rfl⟩:=hIk;have hL:(ints .u32 (kW++List.replicate i 0)).length=75+i:=by rw[AN,gV,List.length_replicate];rfl
   have hap:=kW_s i;refine au1 @hL ?_;intros;apply wr;refine AB rfl (fun hh=>?_) (fun hh=>?_)
   ·simp at hh;refine au1 (kX3 @hL @hap @maxLen.eq_1) ?_;intros;apply wr;exact aX (fun x=>if x=3 then 7 else x) (by rw[hI];exact⟨i+1,by omega,rfl,trivial,rfl⟩) (kX2 (AA (n:=(i:Int)+1)) @hap)
   simp at hh;have hi85:i=85:=by omega
   subst hi85;generalize hZ:kW++List.replicate 85 0=Z at hL hap2 ⊢;refine au1 @hL ?_;refine cY (hcode) (kX4 @hL @hcl @maxLen.eq_1 @hap2) ?_;refine EP @hil2 @hil2 ?_;refine cX (hnew) ?_;refine ED @hk1 ?_;refine cX (hrun) ?_;refine aw ?_;simp
  rw[hmk,if_neg hk1];refine sX func14 ntmps14 ?_;refine cX (hr) ?_;refine ED @hk2 ?_;refine cX (As.kernel_ok) ?_;intros;apply wr;obtain⟨I,hI⟩:∃I:Nat->St->Prop,I=(fun kk ss=>∃(i:Nat),i<=85/\kk=85-i/\(True)/\ss=⟨47,[(5,.own 3),(0,iv (kind%3)),(1,.sl 1 false (ints .i64 l)),(4,.ptr 0 49 0 0)],6,[(3,some ⟨25,1,false,false,ints .u32 (kW++List.replicate i 0)⟩),(0,some ⟨42,49,true,false,[zMR0]⟩)],0⟩):=⟨_,rfl⟩;refine lX I (id) (by rw[hI];exact⟨0,by simp,rfl,trivial,rfl⟩) ?_;intro kk ss hIk _;rw[hI]at hIk;obtain⟨i,hi,rfl,hx,rfl⟩:=hIk;have hL:(ints .u32 (kW++List.replicate i 0)).length=75+i:=by rw[AN,gV,List.length_replicate];rfl
  have hap:=kW_s i;refine au1 @hL ?_;intros;apply wr;refine AB rfl (fun hh=>?_) (fun hh=>?_)
  ·simp at hh;refine au1 (kX3 @hL @hap @maxLen.eq_1) ?_;intros;apply wr;exact aX (fun x=>if x=3 then 7 else x) (by rw[hI];exact⟨i+1,by omega,rfl,trivial,rfl⟩) (kX2 (AA (n:=(i:Int)+1)) @hap)
  simp at hh;have hi85:i=85:=by omega
  subst hi85;generalize hZ:kW++List.replicate 85 0=Z at hL hap2 ⊢;refine au1 @hL ?_;refine cY (hcode) (kX4 @hL @hcl @maxLen.eq_1 @hap2) ?_;refine EP @hil2 @hil2 ?_;refine cX (hnew) ?_;refine BU @hk1 ?_;refine aw ?_;simp
 have hap2:=img_c l hk2;rw[hmk,nG];refine sX func14 ntmps14 ?_;refine cX (hr) ?_;refine BU @hk2 ?_;refine cY (hcode) (kX3 @hcl @maxLen.eq_1 @hap2) ?_;refine EP @hil2 @hil2 ?_;refine cX (hnew) ?_;have hk1:¬kind%3=1:=by omega
 refine BU @hk1 ?_;refine aw ?_;simp
theorem Rs{nx:Nat}{ob:List (Nat×Option Ob)}(j:Nat)(d:DskD)(l:List Int)(e:EvD)(hf:W32 d.opFrame)(hl:OkW l)(hj:lookO ob j=some (EH l))(hjn:j<nx):
  Bt prog 152 [.st d.row,.own j,.st e.row] nx ob fun r nx' ob'=>r=.tup [.st (AI d l e).1.row,.bool (AI d l e).2.2]/\CZ nx ob j (AI d l e).2.1 nx' ob':=by
 have l1:¬j=nx:=by omega
 have l2:¬j=nx+1:=by omega
 have l3:¬j=nx+1+1:=by omega
 have hg:=DU l d.opFrame hf;have hp:=Ad l;by_cases hc:d.state≠1\/e.kind≠4\/1<e.n
 ·have hE:AI d l e=(d,l,false):=by unfold AI;rw[if_pos hc]
  rw[hE];by_cases q1:d.state=1
  ·by_cases q2:e.kind=4
   ·have q3:1<e.n:=by omega
    refine sIY func152 ntmps152 (kX7 @hj @l1 @l2 @l3 @q1 @q2 @q3) ?_;refine ED (kX3 @q1 @q2 @q3) ?_;intros;apply wr;refine ar ?_;simp[hE];refine⟨by omega,by simp[lookO,l1,l2,l3,hj],fun i h1 h2=>?_⟩;have a1:¬i=nx:=by omega
    have a2:¬i=nx+1:=by omega
    have a3:¬i=nx+1+1:=by omega
    simp[lookO,a1,a2,a3]
   refine sIY func152 ntmps152 (kX6 @hj @l1 @l2 @l3 @q1 @q2) ?_;refine ED (kX2 @q1 @q2) ?_;intros;apply wr;refine ar ?_;simp[hE];refine⟨by omega,by simp[lookO,l1,l2,l3,hj],fun i h1 h2=>?_⟩;have a1:¬i=nx:=by omega
   have a2:¬i=nx+1:=by omega
   have a3:¬i=nx+1+1:=by omega
   simp[lookO,a1,a2,a3]
  refine sIY func152 ntmps152 (kX5 @hj @l1 @l2 @l3 @q1) ?_;refine ED @q1 ?_;intros;apply wr;refine ar ?_;simp[hE];refine⟨by omega,by simp[lookO,l1,l2,l3,hj],fun i h1 h2=>?_⟩;have a1:¬i=nx:=by omega
  have a2:¬i=nx+1:=by omega
  have a3:¬i=nx+1+1:=by omega
  simp[lookO,a1,a2,a3]
 obtain⟨c1,c2,c3⟩:d.state=1/\e.kind=4/\¬1<e.n:=by omega
 refine sIY func152 ntmps152 (kX4 @hj @l1 @l2 @l3) ?_;refine BU (kX3 @c1 @c2 @c3) ?_;intros;apply wr;rename_i kx hkx;refine .inl ⟨fun hb=>?_,fun hb=>?_⟩
 ·obtain⟨b1,b2,b3⟩:e.n=1/\d.cmd=1/\e.data.length=128:=by simp at hb;omega
  simp[b1,b2,b3,l1,l2,l3,hj];refine cn1 (hg) (kX4 @hj @l1 @l2 @l3) ?_;refine au1 (kX3 @b1 @b2 @b3) ?_;intros;apply wr;by_cases hpg:d.opFrame<pagesD l
  ·have hE:AI d l e=(doneD d e.n,Br l d.opFrame e.data,true):=by
    unfold AI;rw[nG,if_pos ⟨b1,b2⟩,if_pos ⟨hpg,b3⟩]
   have hF:=Mf hl hf.1 hpg e.data (by omega);have hB:=UQ hf.1 hpg;rw[b3,List.drop_eq_nil_of_le (by omega),iU]at hF;have w1:IntKind.i64.wrap d.opFrame=d.opFrame:=AA (by have:=hf.1;omega) (by have:=hf.2;omega);refine BU @hpg ?_;refine IZ @w1 ?_;intros;apply wr;refine cO ?_;refine(QR j l d.opFrame e.data hl hf.1 hpg (by omega) (by simp[lookO,l1,l2,l3,hj])).mono fun r nx' ob' hp=>?_;simp only[BX];obtain⟨rfl,rfl,k1,k2⟩:=hp;rw[b3,hF]at k1;have y1:=k2 nx (fun q=>l1 q.symm);have y2:=k2 (nx+1) (fun q=>l2 q.symm);have y3:=k2 (nx+1+1) (fun q=>l3 q.symm);simp[lookO]at y1 y2 y3;simp;refine au1 (kX4 @y1 @y2 @y3 @b1) ?_;refine IZ (kX3 @y1 @y2 @y3) ?_;intros;apply wr;refine ar ?_;simp[hE,doneD,b1];refine⟨by omega,by simp[lookO,l1,l2,l3,k1],fun i h1 h2=>?_⟩;have a1:¬i=nx:=by omega
   have a2:¬i=nx+1:=by omega
   have a3:¬i=nx+1+1:=by omega
   have ee:=k2 i h2;simp[lookO,a1,a2,a3]at ee;simp[lookO,a1,a2,a3,ee]
  have hE:AI d l e=(d,l,false):=by
   unfold AI;rw[nG,if_pos ⟨b1,b2⟩,if_neg (fun q=>hpg q.1)]
  refine ED @hpg ?_;intros;apply wr;refine ar ?_;simp[hE];refine⟨by omega,by simp[lookO,l1,l2,l3,hj],fun i h1 h2=>?_⟩;have a1:¬i=nx:=by omega
  have a2:¬i=nx+1:=by omega
  have a3:¬i=nx+1+1:=by omega
  simp[lookO,a1,a2,a3]
 by_cases h128:e.data.length=128
 ·have b1:¬(e.n=1/\d.cmd=1):=by
   intro z;simp[z.1,z.2,h128]at hb
  have b2:(e.n==1&&d.cmd==1)=false:=by simpa using b1
  have hE:AI d l e=(d,l,false):=by
   unfold AI;rw[nG,if_neg b1,if_neg (by intro q;rw[q]at h128;simp at h128)]
  simp[St.put,b2,h128,l1,l2,l3,hj];refine hkx _ ?_;refine CV ?_;intros;apply wr;refine ar ?_;simp[hE];refine⟨by omega,by simp[lookO,l1,l2,l3,hj],fun i h1 h2=>?_⟩;have a1:¬i=nx:=by omega
  have a2:¬i=nx+1:=by omega
  have a3:¬i=nx+1+1:=by omega
  simp[lookO,a1,a2,a3]
 have b3:¬(e.data.length:Int)=128:=by omega
 have b4:((e.data.length:Int) != 128)=true:=by simp[b3]
 simp[St.put,b4,l1,l2,l3,hj];refine⟨fun q=>by by_cases z:e.n=1<;>simp[z]at q ⊢;exact q,hkx _ ?_⟩;by_cases hr:e.n=1/\d.cmd=1
 ·have hE:AI d l e=(d,l,false):=by
   unfold AI;rw[nG,if_pos hr,if_neg (fun q=>h128 q.2)]
  refine ED (kX2 @hr.1 @hr.2) ?_;intros;apply wr;refine ar ?_;simp[hE];refine⟨by omega,by simp[lookO,l1,l2,l3,hj],fun i h1 h2=>?_⟩;have a1:¬i=nx:=by omega
  have a2:¬i=nx+1:=by omega
  have a3:¬i=nx+1+1:=by omega
  simp[lookO,a1,a2,a3]
 have hr2:(e.n==1&&d.cmd==1)=false:=by simpa using hr
 have hr3:(!e.n==1||!d.cmd==1)=true:=by
  cases q1:e.n==1<;>cases q2:d.cmd==1<;>simp[q1,q2]at hr2 ⊢
 by_cases hd:e.data=[]
 ·have hE:AI d l e=(doneD d e.n,l,true):=by
   unfold AI;rw[nG,if_neg hr,if_pos hd]
  have hz:¬0<e.data.length:=by rw[hd];simp
  simp only[hr2,hr3];refine BU @hz ?_;refine C3 ?_;intros;apply wr;by_cases hn:e.n=1
  ·refine ED @hn ?_;intros;apply wr;refine ar ?_;simp[hE,doneD,hn];refine⟨by omega,by simp[lookO,l1,l2,l3,hj],fun i h1 h2=>?_⟩;have a1:¬i=nx:=by omega
   have a2:¬i=nx+1:=by omega
   have a3:¬i=nx+1+1:=by omega
   simp[lookO,a1,a2,a3]
  refine BU @hn ?_;intros;apply wr;refine ar ?_;simp[hE,doneD,hn];refine⟨by omega,by simp[lookO,l1,l2,l3,hj],fun i h1 h2=>?_⟩;have a1:¬i=nx:=by omega
  have a2:¬i=nx+1:=by omega
  have a3:¬i=nx+1+1:=by omega
  simp[lookO,a1,a2,a3]
 have hE:AI d l e=(d,l,false):=by
  unfold AI;rw[nG,if_neg hr,if_neg hd]
 have hz:0<e.data.length:=by cases q:e.data with|nil=>exact absurd q hd|cons a b=>simp
 simp only[hr2,hr3];refine ED @hz ?_;intros;apply wr;refine ar ?_;simp[hE];refine⟨by omega,by simp[lookO,l1,l2,l3,hj],fun i h1 h2=>?_⟩;have a1:¬i=nx:=by omega
 have a2:¬i=nx+1:=by omega
 have a3:¬i=nx+1+1:=by omega
 simp[lookO,a1,a2,a3]
theorem gG(i:Nat)(h:i<32):E8 Cj i=0:=by
 have hz:∀k:Nat,Cj.getD k 0=0:=fun k=>by
  rw[gP,Cj,List.getElem?_replicate];split<;>rfl
 unfold E8;simp only[hz];rfl
abbrev balO(t g:Int):Ob:=⟨40,2,true,false,[[uv t,uv g]]⟩
theorem Xx{nx:Nat}{ob:List (Nat×Option Ob)}(j:Nat)(t g:Int)(l:List Int)(port v:Int)(hg:W32 g)(hv:W32 v)(hp:port=10\/port=11)(hj:lookO ob j=some (EH l))(hjn:j<nx):
  Bt prog 216 [.st [uv t,uv g],.own j,iv port,uv v] nx ob fun r nx' ob'=>r=.st [uv t,uv (Aj g l port v).1]/\CZ nx ob j (Aj g l port v).2 nx' ob':=by
 have l1:¬j=nx:=by omega
 have l2:¬j=nx+1:=by omega
 have hpg:=DU l v hv;have hpr:=Ad l;have hv0:=hv.1;rcases hp with rfl|rfl
 ·by_cases hq:v<pagesD l
  ·have h32:v<32:=by omega
   have hmin:min v.toNat 32=v.toNat:=by omega
   have e1:g.fdiv (2^v.toNat)=g/2^v.toNat:=gU _ (iJ (iM (by decide)));have e2:Bg .u32 (g/2^v.toNat) 1=g/2^v.toNat%2:=AV (g/2^v.toNat) 1 2 (by omega) (by decide);have e3:IntKind.u32.wrap (2^v.toNat)=2^v.toNat:=by
    have:=dE hv0 h32;exact u32_in this.1 this.2
   refine sIY func216 ntmps216 (kX3 @hj @l1 @l2) ?_;refine cn1 (hpg) (kX3 @hj @l1 @l2) ?_;refine au1 (kX4 @hq @hmin @e1 @e2) ?_;intros;apply wr;by_cases hb:g/2^v.toNat%2=0
   ·have hE:Aj g l 10 v=(ior .u32 g (2^v.toNat),Br l v Cj):=by
     unfold Aj;rw[nG,if_pos rfl,if_pos ⟨hq,hb⟩]
    refine DI (kX5 @hb @hq @hmin @e1 @e2) (kX2 @hmin @e3) ?_;intros;apply wr;refine Aa (32+1) ?_;refine BM (fun k st=>∃(i:Nat)(T:List (Nat×V))(o:List (Nat×Option Ob)),i+k=32/\st=⟨57,T,nx+1+1+1,o,nx⟩/\(lkT T 9=.int .i64 i/\lkT T 1=.own j/\lkT T 3=uv v/\lkT T 4=.ptr nx 2 0 0/\lkT T 8=.ptr (nx+1) 2 0 0)/\(lookO o nx=some (balO t (ior .u32 g (2^v.toNat)))/\lookO o (nx+1)=some (balO 0 0))/\lookO o j=some (EH (Hx l (v*32).toNat Cj i))/\∀q,q<nx->q≠j->lookO o q=lookO ob q) ?_ _ _ ⟨0,_,_,by simp,rfl,by simp[lkT],by simp[lookO],by simp[lookO,l1,l2,hj],fun q h1 h2=>by simp[lookO,show ¬q=nx by omega,show ¬q=nx+1 by omega]⟩;rintro k st ⟨i,T,o,hk,rfl,⟨t9,t1,t3,t4,t8⟩,⟨o1,o2⟩,ho,hq2⟩ Kl hKl;refine Bq [(9,.int .i64 i),(1,.own j),(3,uv v),(4,.ptr nx 2 0 0),(8,.ptr (nx+1) 2 0 0)] (by simp[t9,t1,t3,t4,t8]) ?_;simp;have hl2:=Gw l (v*32).toNat Cj i;have hpl:=C4 (l:=l) (by omega);have n1:¬nx=j:=fun q=>l1 q.symm;have n2:¬nx+1=j:=fun q=>l2 q.symm;have w1:IntKind.i64.wrap v=v:=AA;have w2:IntKind.i64.wrap (v*32)=v*32:=AA;have w3:IntKind.i64.wrap (v*32+i)=v*32+i:=AA;have w4:IntKind.i64.wrap ((i:Int)+1)=((i+1:Nat):Int):=by rw[AA];omega
    have hil:=AN .u32 (Hx l (v*32).toNat Cj i);refine au ?_;intros;apply wr;by_cases hi:i<32
    ·have c1:(i:Int)<32:=by omega
     have c2:(0:Int)<=v*32+i:=by omega
     have c3:v*32+i<(l.length:Int):=by omega
     have hnx:(Hx l (v*32).toNat Cj i).set (v*32+i).toNat 0=Hx l (v*32).toNat Cj (i+1):=by
      rw[Hx,gG i hi];congr 1;omega
     obtain⟨w,hw⟩:∃w,(Hx l (v*32).toNat Cj i)[(v*32+i).toNat]? =some w:=⟨_,gR (by rw[hl2];omega)⟩;have g1:=CN (k:=.u32) hw;have g2:∀h,(ints .u32 (Hx l (v*32).toNat Cj i))[(v*32+i).toNat]'h=[uv w]:=fun h=>by rw[gR h]at g1;simpa using g1
     refine DI @c1 (ZI @ho @w1 @w2 @w3 @w4 @hil @hl2 @c2 @c3 @g2 @ints_set @hnx) ?_;intros;apply wr;refine hKl (k-1) _ (by omega) ⟨i+1,_,_,by omega,rfl,by simp[lkT],by simp[lookO,o1,o2,n1,n2],by simp[lookO],fun q h1 h2=>by simp[lookO,h2,hq2 q h1 h2]⟩
    have:i=32:=by omega
    subst this;refine EG (kX3 @o1 @o2 @ho) ?_;intros;apply wr;refine ar ?_;simp[hE];refine⟨by omega,by simp[lookO,l1,l2,ho];rfl,fun i h1 h2=>?_⟩;have a1:¬i=nx:=by omega
    have a2:¬i=nx+1:=by omega
    simp[lookO,a1,a2,hq2 i h1 h2]
   have hE:Aj g l 10 v=(g,l):=by
    unfold Aj;rw[nG,if_pos rfl,if_neg (fun z=>hb z.2)]
   refine BU (kX5 @hb @hq @hmin @e1 @e2) ?_;refine C3 ?_;intros;apply wr;refine ar ?_;simp[hE];refine⟨by omega,by simp[lookO,l1,l2,hj],fun i h1 h2=>?_⟩;have a1:¬i=nx:=by omega
   have a2:¬i=nx+1:=by omega
   simp[lookO,a1,a2]
  have hE:Aj g l 10 v=(g,l):=by
   unfold Aj;split
   ·rfl
   rw[if_pos rfl,if_neg (fun z=>hq z.1)]
  refine sIY func216 ntmps216 (kX3 @hj @l1 @l2) ?_;refine cn1 (hpg) (kX3 @hj @l1 @l2) ?_;refine au1 @hq ?_;refine BU @hq ?_;refine C3 ?_;intros;apply wr;refine ar ?_;simp[hE];refine⟨by omega,by simp[lookO,l1,l2,hj],fun i h1 h2=>?_⟩;have a1:¬i=nx:=by omega
  have a2:¬i=nx+1:=by omega
  simp[lookO,a1,a2]
 by_cases hq:v<32
 ·have hmin:min v.toNat 32=v.toNat:=by omega
  have e3:IntKind.u32.wrap (2^v.toNat)=2^v.toNat:=by
   have:=dE hv0 hq;exact u32_in this.1 this.2
  have hE:Aj g l 11 v=(Da .u32 g (2^v.toNat),l):=by
   unfold Aj;rw[nG,nG,if_pos rfl]
  refine sIY func216 ntmps216 (kX3 @hj @l1 @l2) ?_;refine C3 ?_;refine DI @hq (kX2 @hmin @e3) ?_;intros;apply wr;refine ar ?_;simp[hE];refine⟨by omega,by simp[lookO,l1,l2,hj],fun i h1 h2=>?_⟩;have a1:¬i=nx:=by omega
  have a2:¬i=nx+1:=by omega
  simp[lookO,a1,a2]
 have hE:Aj g l 11 v=(g,l):=by unfold Aj;rw[nH]
 refine sIY func216 ntmps216 (kX3 @hj @l1 @l2) ?_;refine C3 ?_;refine BU @hq ?_;intros;apply wr;refine ar ?_;simp[hE];refine⟨by omega,by simp[lookO,l1,l2,hj],fun i h1 h2=>?_⟩;have a1:¬i=nx:=by omega
 have a2:¬i=nx+1:=by omega
 simp[lookO,a1,a2]
theorem rin_ok{nx:Nat}{ob:List (Nat×Option Ob)}(id j:Nat)(m:MchD)(port clock:Int)(hM:OkM m)(hob:lookO ob id=some (cJ m (.own j)))(hj:lookO ob j=some (EH m.mem))(hi:id<nx)(hjn:j<nx)(hne:id≠j):
  Bt prog 159 [.ptr id 49 0 0,iv port,uv clock] nx ob fun r nx' ob'=>r=uv (AO m port clock).2/\Kq nx ob id j (AO m port clock).1 nx' ob':=by
 have n1:¬j=id:=fun e=>hne e.symm;have hk:m.keys.length<=1000:=by have:=hM.k;omega
 by_cases h1:port<=1
 ·have hE:AO m port clock=({m with keys:=(Ed m.keys port).1},(Ed m.keys port).2):=by
   unfold AO;by_cases q:port=0\/port=1
   ·rw[if_pos q]
   rw[if_neg q,nG,nG,nG,nG,nG];unfold Ed;rw[nG,nG]
  refine sIY func159 ntmps159 (kX2 @hob @hj) ?_;refine DI @h1 @hob ?_;refine cZ (Ub m.keys port hk) @hob @hob ?_;intros;apply wr;refine ar ?_;simp[hE];exact⟨by omega,by simp[lookO,hob,hE],by simp[lookO,n1,hj],fun i h1 h2 h3=>by simp[lookO,h2]⟩
 by_cases h2:port=2
 ·have hE:AO m port clock=(m,clock):=by unfold AO;rw[nG,if_pos h2]
  refine sIY func159 ntmps159 (kX2 @hob @hj) ?_;refine BU @h1 ?_;refine ED @h2 ?_;intros;apply wr;refine ar ?_;simp[hE];exact⟨by omega,by simp[lookO,hob,hE],by simp[lookO,n1,hj],fun i h1 h2 h3=>by simp[lookO,h2]⟩
 by_cases h3:port=3
 ·have hE:AO m port clock=(m,SA m.tim):=by unfold AO;rw[nG,nG,if_pos h3]
  refine sIY func159 ntmps159 (kX2 @hob @hj) ?_;refine BU @h1 ?_;refine BU @h2 ?_;refine DI @h3 @hob ?_;refine cZ (VA m.tim) @hob @hob ?_;intros;apply wr;refine ar ?_;simp[hE];exact⟨by omega,by simp[lookO,hob,hE],by simp[lookO,n1,hj],fun i h1 h2 h3=>by simp[lookO,h2]⟩
 by_cases h4:port<=6
 ·have hE:AO m port clock=(m,OB m.dk port):=by unfold AO;rw[nG,nG,nG,nH]
  refine sIY func159 ntmps159 (kX2 @hob @hj) ?_;refine BU @h1 ?_;refine BU @h2 ?_;refine BU @h3 ?_;refine DI @h4 @hob ?_;refine cZ (Ud m.dk port) @hob @hob ?_;intros;apply wr;refine ar ?_;simp[hE];exact⟨by omega,by simp[lookO,hob,hE],by simp[lookO,n1,hj],fun i h1 h2 h3=>by simp[lookO,h2]⟩
 by_cases h5:port<=9
 ·have hE:AO m port clock=(m,OX m.nc port):=by unfold AO;rw[nG,nG,nG,nG,nH]
  refine sIY func159 ntmps159 (kX2 @hob @hj) ?_;refine BU @h1 ?_;refine BU @h2 ?_;refine BU @h3 ?_;refine BU @h4 ?_;refine DI @h5 @hob ?_;refine cZ (Us m.nc port) @hob @hob ?_;intros;apply wr;refine ar ?_;simp[hE];exact⟨by omega,by simp[lookO,hob,hE],by simp[lookO,n1,hj],fun i h1 h2 h3=>by simp[lookO,h2]⟩
 have hE:AO m port clock=(m,MG m.tgt m.given port):=by
  unfold AO;rw[nG,nG,nG,nG,nG];split
  ·rfl
  rename_i q;unfold MG;rw[nG,nG]
 refine sIY func159 ntmps159 (kX2 @hob @hj) ?_;refine BU @h1 ?_;refine BU @h2 ?_;refine BU @h3 ?_;refine BU @h4 ?_;refine EP @h5 @hob ?_;refine cZ (Ua m.tgt m.given port hM.gv) @hob @hob ?_;intros;apply wr;refine ar ?_;simp[hE];exact⟨by omega,by simp[lookO,hob,hE],by simp[lookO,n1,hj],fun i h1 h2 h3=>by simp[lookO,h2]⟩
theorem Xo{nx:Nat}{ob:List (Nat×Option Ob)}(j:Nat)(d:DskD)(l:List Int)(v t:Int)(hf:W32 d.frame)(hv:v=1\/v=2)(hs:d.state=0)(hb:¬d.blocks<=d.block)(hq:d.frame<pagesD l)(hj:lookO ob j=some (EH l))(hjn:j<nx):
  Bt prog 214 [.st d.row,.own j,iv 6,uv v,lv t] nx ob fun r nx' ob'=>r=.tup [.st (Am d l v t).1.row,H7 (Am d l v t).2]/\CZ nx ob j l nx' ob':=by
 have w3:IntKind.i64.wrap 1=1:=by decide
 have w4:IntKind.i64.wrap 2=2:=by decide
 have l1:¬j=nx:=by omega
 have l2:¬j=nx+1:=by omega
 have hg:=DU l d.frame hf;have hB:=Gy l d.frame hf.1 hq;have w2:IntKind.i64.wrap d.frame=d.frame:=AA (by have:=hf.1;omega) (by have:=hf.2;omega);have hq2:¬pagesD l<=d.frame:=by omega
 rcases hv with rfl|rfl
 ·have hE:Am d l 1 t=({d with state:=1,cmd:=1,opBlock:=d.block,opFrame:=d.frame,opData:=[]},[⟨3,t,d.block,[]⟩]):=by
   unfold Am Ag;rw[if_neg (by simp[hs]),nG];simp
  have hR:=Lj {d with state:=1,cmd:=1,opBlock:=d.block,opFrame:=d.frame,opData:=[]} t;simp[Ag]at hR;refine sIY func214 ntmps214 (kX3 @hj @l1 @l2) ?_;refine C3 ?_;refine C3 ?_;refine C3 ?_;refine EG @hs ?_;refine DI @hs (kX4 @hb @hj @l1 @l2) ?_;refine cn1 (hg) (kX3 @hj @l1 @l2) ?_;refine au ?_;refine BU (kX2 @hq2 @hq) ?_;refine C3 ?_;refine cX (hR) ?_;intros;apply wr;obtain⟨A,hA⟩:∃A,A=nx+1+1+1+5:=⟨_,rfl⟩;rw[<- hA];have q1:¬nx=A:=by omega
  have q2:¬nx+1=A:=by omega
  have q3:¬A=nx:=by omega
  have q4:¬A=nx+1:=by omega
  have q5:¬j=A:=by omega
  have q6:¬nx=A+1:=by omega
  have q0:¬j=A+1:=by omega
  have q7:¬A=A+1:=by omega
  have q8:¬A+1=nx:=by omega
  have q9:¬A+1=A:=by omega
  refine BH (.node 2 3 (.leaf [0,1,2,3,4] (bN [0,0,2,7,15]) [(3,([[],[],[1]],[(0,2)])),(1,([],[])),(1,([],[]))]) (.leaf [0,1,3,2,4] (bN [0,0,1,7,15]) [(3,([[],[],[0]],[(1,2)])),(1,([],[])),(1,([],[]))])) (by kernel_rfl) (by kernel_rfl) ?_;simp only[PT.run]
  repeat' (with_reducible apply And.intro)
  all_goals (simp only[CE,iI,List.map_nil,iC,iK];refine af1 (kX8 @q1 @q2 @q3 @q4 @q6 @q7 @q8 @q9) ?_;intros;apply wr)
  all_goals
   refine G5 11 (A+1) rfl (by simp[lookO,q1,q2,q3,q4,q6,q7,q8,q9];rfl) rfl ?_;simp;refine ar ?_;simp[hE,w3,w4,q1,q2,q3,q4,q6,q7,q8,q9,outs];refine⟨by omega,by simp[lookO,l1,l2,q5,q0,hj],fun i h1 h2=>?_⟩;have a1:¬i=nx:=by omega
   have a2:¬i=nx+1:=by omega
   have a3:¬i=A:=by omega
   have a4:¬i=A+1:=by omega
   simp[lookO,a1,a2,a3,a4]
 have hE:Am d l 2 t=({d with state:=1,cmd:=2,opBlock:=d.block,opFrame:=d.frame,opData:=Bh l d.frame},[⟨4,t,d.block,Bh l d.frame⟩]):=by
  unfold Am Ag;rw[if_neg (by simp[hs]),nG];simp
 have hR:=Lj {d with state:=1,cmd:=2,opBlock:=d.block,opFrame:=d.frame,opData:=Bh l d.frame} t;simp[Ag]at hR;refine sIY func214 ntmps214 (kX3 @hj @l1 @l2) ?_;refine BN ?_;refine BN ?_;refine BN ?_;refine LI @hs ?_;refine Cg @hs (kX4 @hb @hj @l1 @l2) ?_;refine cn1 (hg) (kX3 @hj @l1 @l2) ?_;refine af ?_;refine Ac (kX2 @hq2 @hq) ?_;refine Tb (kX4 @w2 @hj @l1 @l2) ?_;refine cn1 (hB) (kX3 @hj @l1 @l2) ?_;refine af ?_;refine cXf (hR) ?_;intros;apply wr;obtain⟨A,hA⟩:∃A,A=nx+1+1+1+2+5:=⟨_,rfl⟩;rw[<- hA];have q1:¬nx=A:=by omega
 have q2:¬nx+1=A:=by omega
 have q3:¬A=nx:=by omega
 have q4:¬A=nx+1:=by omega
 have q5:¬j=A:=by omega
 have q6:¬nx=A+1:=by omega
 have q0:¬j=A+1:=by omega
 have q7:¬A=A+1:=by omega
 have q8:¬A+1=nx:=by omega
 have q9:¬A+1=A:=by omega
 refine BH (.node 2 3 (.leaf [0,1,2,3,4] (bN [0,0,2,7,15]) [(3,([[],[],[1]],[(0,2)])),(1,([],[])),(1,([],[]))]) (.leaf [0,1,3,2,4] (bN [0,0,1,7,15]) [(3,([[],[],[0]],[(1,2)])),(1,([],[])),(1,([],[]))])) (by kernel_rfl) (by kernel_rfl) ?_;simp only[PT.run]
 repeat' (with_reducible apply And.intro)
 all_goals (simp only[CE,iI,List.map_nil,iC,iK];refine af1 (kX8 @q1 @q2 @q3 @q4 @q6 @q7 @q8 @q9) ?_;intros;apply wr)
 all_goals
  refine G5 11 (A+1) rfl (by simp[lookO,q1,q2,q3,q4,q6,q7,q8,q9];rfl) rfl ?_;simp;refine ar ?_;simp[hE,w3,w4,q1,q2,q3,q4,q6,q7,q8,q9,outs];refine⟨by omega,by simp[lookO,l1,l2,q5,q0,hj],fun i h1 h2=>?_⟩;have a1:¬i=nx:=by omega
  have a2:¬i=nx+1:=by omega
  have a3:¬i=A:=by omega
  have a4:¬i=A+1:=by omega
  simp[lookO,a1,a2,a3,a4]
theorem YE{nx:Nat}{ob:List (Nat×Option Ob)}(j:Nat)(n:NicD)(l:List Int)(t:Int)(hf:W32 n.frame)(h1:1<=n.len)(h2:n.len<=128)(hq:n.frame<pagesD l)(hj:lookO ob j=some (EH l))(hjn:j<nx):
  Bt prog 215 [.st n.row,.own j,iv 9,uv 1,lv t] nx ob fun r nx' ob'=>r=.tup [.st n.row,H7 [⟨2,t,0,(Bh l n.frame).take n.len.toNat⟩]]/\CZ nx ob j l nx' ob':=by
 have w3:IntKind.i64.wrap 1=1:=by decide
 have w4:IntKind.i64.wrap 2=2:=by decide
 have l1:¬j=nx:=by omega
 have l2:¬j=nx+1:=by omega
 have hg:=DU l n.frame hf;have hB:=Gy l n.frame hf.1 hq;have hL:=FT hf.1 hq;have w2:IntKind.i64.wrap n.frame=n.frame:=AA (by have:=hf.1;omega) (by have:=hf.2;omega);have hq2:¬pagesD l<=n.frame:=by omega
 have hE:True:=trivial;refine sIY func215 ntmps215 (kX3 @hj @l1 @l2) ?_;refine C3 ?_;refine C3 ?_;refine C3 ?_;refine EG (kX5 @h1 @h2 @hj @l1 @l2) ?_;refine cn1 (hg) (kX3 @hj @l1 @l2) ?_;refine au ?_;refine DI (kX2 @hq @hq2) (kX4 @w2 @hj @l1 @l2) ?_;refine cn1 (hB) (kX3 @hj @l1 @l2) ?_;refine au ?_;intros;apply wr;obtain⟨A,hA⟩:∃A,A=nx+1+1+1+2:=⟨_,rfl⟩;rw[<- hA];have q1:¬nx=A:=by omega
 have q2:¬nx+1=A:=by omega
 have q3:¬A=nx:=by omega
 have q4:¬A=nx+1:=by omega
 have q5:¬j=A:=by omega
 refine BH (.node 7 8 (.leaf [0,1,2,3,4,5,6,7,8,9] (bN [0,0,0,0,8,28,62,126,255,511]) [(8,([[],[],[],[],[3],[2,3,4],[1,2,3,4,5],[1,2,3,4,5,6]],[(0,7)])),(1,([],[])),(1,([],[]))]) (.leaf [0,1,2,3,4,5,6,8,7,9] (bN [0,0,0,0,8,28,62,1,255,511]) [(8,([[],[],[],[],[3],[2,3,4],[1,2,3,4,5],[0]],[(4,7),(5,7)])),(1,([],[])),(1,([],[]))])) (by kernel_rfl) (by kernel_rfl) ?_;simp only[PT.run]
 repeat' (with_reducible apply And.intro)
 all_goals (simp only[CE,iI,List.map_nil,iC,iK];refine af1 (kX7 @q1 @q2 @q3 @q4 @h1 @h2 @hL) ?_;intros;apply wr)
 all_goals
  refine G5 11 A rfl (by simp[lookO,q1,q2,q3,q4];rfl) rfl ?_;simp;refine ar ?_;simp[hE,q1,q2,q3,q4,outs];refine⟨by omega,by simp[lookO,l1,l2,q5,hj],fun i h1 h2=>?_⟩;have a1:¬i=nx:=by omega
  have a2:¬i=nx+1:=by omega
  have a3:¬i=A:=by omega
  simp[lookO,a1,a2,a3]
theorem Un{nx:Nat}{ob:List (Nat×Option Ob)}(j:Nat)(t g:Int)(l:List Int)(port v:Int)(h1:¬port=10)(h2:¬port=11)(hj:lookO ob j=some (EH l))(hjn:j<nx):
  Bt prog 216 [.st [uv t,uv g],.own j,iv port,uv v] nx ob fun r nx' ob'=>r=.st [uv t,uv (Aj g l port v).1]/\CZ nx ob j (Aj g l port v).2 nx' ob':=by
 have l1:¬j=nx:=by omega
 have l2:¬j=nx+1:=by omega
 have hE:Aj g l port v=(g,l):=by unfold Aj;rw[if_neg h1,if_neg h2];split<;>rfl
 have h3:(port==10)=false:=by simp[h1]
 have h4:(port==11)=false:=by simp[h2]
 refine sIY func216 ntmps216 (kX5 @hj @l1 @l2 @h1 @h3) ?_;refine EG (kX2 @h2 @h4) ?_;refine C3 ?_;intros;apply wr;refine ar ?_;simp[hE];refine⟨by omega,by simp[lookO,l1,l2,hj],fun i h1 h2=>?_⟩;have a1:¬i=nx:=by omega
 have a2:¬i=nx+1:=by omega
 simp[lookO,a1,a2]
abbrev SU(nx:Nat)(ob:List (Nat×Option Ob))(id j:Nat)(z:MchD×List OutD)(r:V)(nx':Nat)(ob':List (Nat×Option Ob)):Prop :=
 (r=H7 z.2\/(r=.sl 0 true []/\z.2=[]))/\Kq nx ob id j z.1 nx' ob'
theorem Yu(d:DskD)(l:List Int)(v t:Int)(hv:v=1\/v=2):Ak d l 6 v t=Am d l v t:=by
 unfold Ak;rw[nG,nG,if_pos rfl,if_pos hv]
theorem aQ{d:DskD}{l:List Int}{p v t:Int}(h:(Ak d l p v t).2≠[]):p=6/\(v=1\/v=2)/\d.state=0/\¬d.blocks<=d.block/\d.frame<pagesD l:=by
 by_cases hp:p=6
 ·by_cases hv:v=1\/v=2
  ·subst hp;rw[Yu d l v t hv]at h;unfold Am at h;by_cases hs:d.state=0
   ·rw[if_neg (by simp[hs])]at h;by_cases hb:d.blocks<=d.block\/pagesD l<=d.frame
    ·rw[if_pos hb]at h;exact absurd rfl h
    exact⟨rfl,hv,hs,fun q=>hb (.inl q),by omega⟩
   rw[if_pos hs]at h;exact absurd rfl h
  exfalso;apply h;unfold Ak;rw[nG,nG,if_pos hp,if_neg hv];split<;>rfl
 exfalso;apply h;unfold Ak
 repeat' split
 all_goals first|rfl|(exfalso;omega)
theorem nic_is(n:NicD)(l:List Int)(t:Int)(h1:1<=n.len)(h2:n.len<=128)(h3:n.frame<pagesD l):AZ n l 9 1 t=(n,[⟨2,t,0,(Bh l n.frame).take n.len.toNat⟩]):=by
 unfold AZ;rw[nG,nG,if_pos rfl,if_pos rfl,if_pos ⟨h1,h2,h3⟩]
theorem XL{n:NicD}{l:List Int}{p v t:Int}(h:(AZ n l p v t).2≠[]):p=9/\v=1/\1<=n.len/\n.len<=128/\n.frame<pagesD l:=by
 by_cases hp:p=9
 ·by_cases hv:v=1
  ·by_cases hc:1<=n.len/\n.len<=128/\n.frame<pagesD l
   ·exact⟨hp,hv,hc⟩
   exfalso;apply h;unfold AZ;rw[nG,nG,if_pos hp,if_pos hv,if_neg hc]
  exfalso;apply h;unfold AZ;rw[nG,nG,if_pos hp,if_neg hv]
  repeat' split
  all_goals rfl
 exfalso;apply h;unfold AZ
 repeat' split
 all_goals first|rfl|(exfalso;omega)
theorem eC{nx:Nat}{ob:List (Nat×Option Ob)}(id j:Nat)(m:MchD)(port v:Int)(hM:OkM m)(hv:W32 v)(hob:lookO ob id=some (cJ m (.own j)))(hj:lookO ob j=some (EH m.mem))(hi:id<nx)(hjn:j<nx)(hne:id≠j):
  Bt prog 161 [.ptr id 49 0 0,iv port,uv v] nx ob fun r nx' ob'=>SU nx ob id j (AH m port v m.count) r nx' ob':=by
 have n1:¬j=id:=fun e=>hne e.symm;by_cases h0:port=0
 ·have hE:AH m port v m.count=(m,[⟨1,m.count,0,[UInt8.ofNat (v%256).toNat]⟩]):=by unfold AH;rw[if_pos h0]
  refine sIY func161 ntmps161 (kX2 @hob @hj) ?_;refine ED @h0 ?_;intros;apply wr;have hbv:Ch [.int .u8 (IntKind.u8.wrap v)]:=MO v;have hby:UInt8.ofNat (IntKind.u8.wrap v).toNat=UInt8.ofNat (v%256).toNat:=by rw[IntKind.wrap_u8]
  have m1:¬id=nx:=by omega
  have m2:¬j=nx:=by omega
  have m3:¬id=nx+1:=by omega
  have m4:¬j=nx+1:=by omega
  refine AD 11 [0,1,3,7,0,16,48,112,255,511,1023] [(8,([[],[0],[0,1],[0,1,2],[],[4],[4,5],[4,5,6]],[(3,6)])),(1,([],[])),(1,([],[])),(1,([],[]))] ?_;refine af1 (kX6 @hob @hj @hbv @hby @m1 @m2) ?_;intros;apply wr;refine G5 6 (nx+1) rfl (by simp[lookO];rfl) rfl ?_;simp;refine ar ?_;simp[hE];exact⟨.inl rfl,by omega,by simp[lookO,m1,m3,hob],by simp[lookO,m2,m4,hj],fun i h1 h2 h3=>by simp[lookO,show ¬i=nx by omega,show ¬i=nx+1 by omega]⟩
 by_cases h2:port<=2
 ·have hE:AH m port v m.count=(m,[]):=by unfold AH;rw[if_neg h0,nG,nG,nG,nG]
  refine sIY func161 ntmps161 (kX2 @hob @hj) ?_;refine Ac @h0 ?_;refine Ei @h2 ?_;intros;apply wr;refine ar ?_;simp[hE];exact⟨.inr ⟨rfl,rfl⟩,by omega,by simp[lookO,hob,hE],by simp[lookO,n1,hj],fun i h1 h2 h3=>by simp[lookO,h2]⟩
 by_cases h3:port=3
 ·have hE:AH m port v m.count=({m with tim:=WM v},[]):=by unfold AH;rw[if_neg h0,if_pos h3]
  refine sIY func161 ntmps161 (kX2 @hob @hj) ?_;refine Ac @h0 ?_;refine Ac @h2 ?_;refine Cg @h3 @hob ?_;refine cZf (dQ v) @hob @hob ?_;intros;apply wr;refine ar ?_;simp[hE];exact⟨.inr ⟨rfl,rfl⟩,by omega,by simp[lookO,hob,hE],by simp[lookO,n1,hj],fun i h1 h2 h3=>by simp[lookO,h2]⟩
 by_cases h4:port<=6
 ·have hE:AH m port v m.count=({m with dk:=(Ak m.dk m.mem port v m.count).1},(Ak m.dk m.mem port v m.count).2):=by unfold AH;rw[if_neg h0,if_neg h3,nH]
  by_cases hz:(Ak m.dk m.mem port v m.count).2=[]
  ·have hn:=Rm m.dk m.mem port v m.count hM.d.c;unfold Hk at hn;rw[hz]at hn;rw[show H7 []=.sl 4 false []from rfl]at hn;refine sIY func161 ntmps161 (kX2 @hob @hj) ?_;refine Ac @h0 ?_;refine Ac @h2 ?_;refine Ac @h3 ?_;refine Cg @h4 @hob ?_;intros;apply wr;refine AD 23 [0,0,2,6,14,0,32,96,224,0,0,0,2048,6144,14336,32766,65534,131070,131070,262143,786431,1835007,4194303] [(22,([[],[],[1],[1,2],[1,2,3],[],[5],[5,6],[5,6,7],[],[],[],[11],[11,12],[11,12,13],[1,2,3,4,5,6,7,8,9,10,11,12,13,14],[1,2,3,4,5,6,7,8,9,10,11,12,13,14,15],[1,2,3,4,5,6,7,8,9,10,11,12,13,14,15,16],[1,2,3,4,5,6,7,8,9,10,11,12,13,14,15,16],[0,1,2,3,4,5,6,7,8,9,10,11,12,13,14,15,16,17],[0,1,2,3,4,5,6,7,8,9,10,11,12,13,14,15,16,17,19],[0,1,2,3,4,5,6,7,8,9,10,11,12,13,14,15,16,17,19,20]],[])),(1,([],[]))] ?_;refine af1 (kX2 @hob @hj) ?_;intros;apply wr;refine⟨1,_,hn,?_⟩;simp[Cd,noX,Cx,C9,hob,hj];first|refine And.intro AQ ?_|skip
   refine af1 (kX2 @hob @hj) ?_;intros;apply wr;refine ar ?_;simp[hE,hz];exact⟨.inl rfl,by omega,by simp[lookO,hob,hE,hz],by simp[lookO,n1,hj],fun i h1 h2 h3=>by simp[lookO,h2]⟩
  obtain⟨p6,v12,s0,b0,f0⟩:=aQ hz;have hi:=Yu m.dk m.mem v m.count v12;subst p6;rw[hi]at hE;refine sIY func161 ntmps161 (kX2 @hob @hj) ?_;refine Ac @h0 ?_;refine Ac @h2 ?_;refine Ac @h3 ?_;refine Cg @h4 @hob ?_;intros;apply wr;refine BH (.node 0 15 (.leaf [0,1,2,3,4,5,6,7,8,9,10,11,12,13,14,15,16,17,18,19,20,21,22] (bN [0,0,2,6,14,0,32,96,224,0,0,0,2048,6144,14336,32767,65535,131071,131071,262143,786431,1835007,4194303]) [(15,([[],[],[1],[1,2],[1,2,3],[],[5],[5,6],[5,6,7],[],[],[],[11],[11,12],[11,12,13]],[])),(1,([],[])),(1,([],[])),(5,([[],[],[0],[0,2],[0,2,3]],[])),(1,([],[]))]) (.leaf [1,2,3,4,5,6,7,8,9,10,11,12,13,14,15,0,16,17,18,19,20,21,22] (bN [0,1,3,7,0,16,48,112,0,0,0,1024,3072,7168,16383,32767,32767,98303,98303,262143,786431,1835007,4194303]) [(14,([[],[0],[0,1],[0,1,2],[],[4],[4,5],[4,5,6],[],[],[],[10],[10,11],[10,11,12]],[])),(1,([],[])),(7,([[],[],[1],[1],[0,1,2],[0,1,2,4],[0,1,2,4,5]],[])),(1,([],[]))])) (by kernel_rfl) (by kernel_rfl) ?_;simp only[PT.run]
  repeat' (with_reducible apply And.intro)
  all_goals (simp only[CE,iI,List.map_nil,iC,iK];refine af1 (kX2 @hob @hj) ?_;intros;apply wr)
  all_goals
   refine cO ?_;refine(Xo j m.dk m.mem v m.count hM.d.c v12 s0 b0 f0 hj hjn).mono fun r nx' ob' hp=>?_;simp only[BX];obtain⟨rfl,g1,g2,g3⟩:=hp;have y1:=g3 id (by omega) hne;rw[hob]at y1;simp;refine af1 @y1 ?_;intros;apply wr;refine ar ?_;simp[hE];exact⟨.inl rfl,by omega,by simp[lookO],by simp[lookO,n1,g2],fun i h1 h2 h3=>by simp[lookO,h2,g3 i h1 h3]⟩
 by_cases h5:port<=9
 ·have hE:AH m port v m.count=({m with nc:=(AZ m.nc m.mem port v m.count).1},(AZ m.nc m.mem port v m.count).2):=by unfold AH;rw[if_neg h0,if_neg h3,nG,nH]
  by_cases hz:(AZ m.nc m.mem port v m.count).2=[]
  ·have hn:=Ru m.nc m.mem port v m.count hM.r.a hM.r.b;unfold Hl at hn;rw[hz]at hn;rw[show H7 []=.sl 4 false []from rfl]at hn;refine sIY func161 ntmps161 (kX2 @hob @hj) ?_;refine Ac @h0 ?_;refine Ac @h2 ?_;refine Ac @h3 ?_;refine Ac @h4 ?_;refine Cg @h5 @hob ?_;intros;apply wr;refine AD 23 [0,0,2,6,14,0,32,96,224,0,0,0,2048,6144,14336,32766,65534,131070,131070,262143,786431,1835007,4194303] [(22,([[],[],[1],[1,2],[1,2,3],[],[5],[5,6],[5,6,7],[],[],[],[11],[11,12],[11,12,13],[1,2,3,4,5,6,7,8,9,10,11,12,13,14],[1,2,3,4,5,6,7,8,9,10,11,12,13,14,15],[1,2,3,4,5,6,7,8,9,10,11,12,13,14,15,16],[1,2,3,4,5,6,7,8,9,10,11,12,13,14,15,16],[0,1,2,3,4,5,6,7,8,9,10,11,12,13,14,15,16,17],[0,1,2,3,4,5,6,7,8,9,10,11,12,13,14,15,16,17,19],[0,1,2,3,4,5,6,7,8,9,10,11,12,13,14,15,16,17,19,20]],[])),(1,([],[]))] ?_;refine af1 (kX2 @hob @hj) ?_;intros;apply wr;refine⟨1,_,hn,?_⟩;simp[Cd,noX,Cx,C9,hob,hj];first|refine And.intro AQ ?_|skip
   refine af1 (kX2 @hob @hj) ?_;intros;apply wr;refine ar ?_;simp[hE,hz];exact⟨.inl rfl,by omega,by simp[lookO,hob,hE,hz],by simp[lookO,n1,hj],fun i h1 h2 h3=>by simp[lookO,h2]⟩
  obtain⟨p9,v1,s1,s2,f0⟩:=XL hz;subst p9 v1;rw[nic_is m.nc m.mem m.count s1 s2 f0]at hE;refine sIY func161 ntmps161 (kX2 @hob @hj) ?_;refine Ac @h0 ?_;refine Ac @h2 ?_;refine Ac @h3 ?_;refine Ac @h4 ?_;refine Cg @h5 @hob ?_;intros;apply wr;refine BH (.node 0 15 (.leaf [0,1,2,3,4,5,6,7,8,9,10,11,12,13,14,15,16,17,18,19,20,21,22] (bN [0,0,2,6,14,0,32,96,224,0,0,0,2048,6144,14336,32767,65535,131071,131071,262143,786431,1835007,4194303]) [(15,([[],[],[1],[1,2],[1,2,3],[],[5],[5,6],[5,6,7],[],[],[],[11],[11,12],[11,12,13]],[])),(1,([],[])),(1,([],[])),(5,([[],[],[0],[0,2],[0,2,3]],[])),(1,([],[]))]) (.leaf [1,2,3,4,5,6,7,8,9,10,11,12,13,14,15,0,16,17,18,19,20,21,22] (bN [0,1,3,7,0,16,48,112,0,0,0,1024,3072,7168,16383,32767,32767,98303,98303,262143,786431,1835007,4194303]) [(14,([[],[0],[0,1],[0,1,2],[],[4],[4,5],[4,5,6],[],[],[],[10],[10,11],[10,11,12]],[])),(1,([],[])),(7,([[],[],[1],[1],[0,1,2],[0,1,2,4],[0,1,2,4,5]],[])),(1,([],[]))])) (by kernel_rfl) (by kernel_rfl) ?_;simp only[PT.run]
  repeat' (with_reducible apply And.intro)
  all_goals (simp only[CE,iI,List.map_nil,iC,iK];refine af1 (kX2 @hob @hj) ?_;intros;apply wr)
  all_goals
   refine cO ?_;refine(YE j m.nc m.mem m.count hM.r.a s1 s2 f0 hj hjn).mono fun r nx' ob' hp=>?_;simp only[BX];obtain⟨rfl,g1,g2,g3⟩:=hp;have y1:=g3 id (by omega) hne;rw[hob]at y1;simp;refine af1 @y1 ?_;intros;apply wr;refine ar ?_;simp[hE];exact⟨.inl rfl,by omega,by simp[lookO],by simp[lookO,n1,g2],fun i h1 h2 h3=>by simp[lookO,h2,g3 i h1 h3]⟩
 have hE:AH m port v m.count=({m with given:=(Aj m.given m.mem port v).1,mem:=(Aj m.given m.mem port v).2},[]):=by
  unfold AH;rw[if_neg h0,if_neg h3,nG,nG];split
  ·rfl
  rename_i q;have:Aj m.given m.mem port v=(m.given,m.mem):=by
   unfold Aj;rw[if_neg (show ¬port=10 by omega),if_neg (show ¬port=11 by omega)];split<;>rfl
  rw[this]
 have hg:∀{nx:Nat}{ob:List (Nat×Option Ob)},lookO ob j=some (EH m.mem)->j<nx->Bt prog 216 [.st [uv m.tgt,uv m.given],.own j,iv port,uv v] nx ob fun r nx' ob'=>r=.st [uv m.tgt,uv (Aj m.given m.mem port v).1]/\CZ nx ob j (Aj m.given m.mem port v).2 nx' ob':=fun k1 k2=>by
  by_cases q:port=10\/port=11
  ·exact Xx j m.tgt m.given m.mem port v hM.gv hv q k1 k2
  exact Un j m.tgt m.given m.mem port v (by omega) (by omega) k1 k2
 generalize Aj m.given m.mem port v=B at *;refine sIY func161 ntmps161 (kX2 @hob @hj) ?_;refine Ac @h0 ?_;refine Ac @h2 ?_;refine Ac @h3 ?_;refine Ac @h4 ?_;refine Cw @h5 @hob ?_;intros;apply wr;refine BH (.node 0 11 (.leaf [0,1,2,3,4,5,6,7,8,9,10,11,12,13,14] (bN [0,0,2,6,14,0,32,96,224,0,0,2047,4095,8191,16383]) [(11,([[],[],[1],[1,2],[1,2,3],[],[5],[5,6],[5,6,7],[],[]],[])),(1,([],[])),(1,([],[])),(1,([],[])),(1,([],[]))]) (.leaf [1,2,3,4,5,6,7,8,9,10,11,0,12,13,14] (bN [0,1,3,7,0,16,48,112,0,0,1023,2047,4095,8191,16383]) [(10,([[],[0],[0,1],[0,1,2],[],[4],[4,5],[4,5,6],[],[]],[])),(1,([],[])),(1,([],[])),(1,([],[])),(1,([],[])),(1,([],[]))])) (by kernel_rfl) (by kernel_rfl) ?_;simp only[PT.run]
 repeat' (with_reducible apply And.intro)
 all_goals (simp only[CE,iI,List.map_nil,iC,iK];refine af1 (kX2 @hob @hj) ?_;intros;apply wr)
 all_goals
  refine cO ?_;refine(hg hj hjn).mono fun r nx' ob' hp=>?_;simp only[BX];obtain⟨rfl,g1,g2,g3⟩:=hp;have y1:=g3 id (by omega) hne;rw[hob]at y1;simp;refine af1 @y1 ?_;intros;apply wr;refine ar ?_;simp[hE];exact⟨.inr ⟨rfl,rfl⟩,by omega,by simp[lookO],by simp[lookO,n1,g2],fun i h1 h2 h3=>by simp[lookO,h2,g3 i h1 h3]⟩
def GO(m:MchD)(c:CpuD)(l:List Int):MchD:={m with cpu:=c,mem:=l,waiting:=false}
theorem S1(m:MchD):CM m=GO m (Az (AL m).cpu m.mem).1 (Az (AL m).cpu m.mem).2.1:=by
 unfold CM GO;have h:({AL m with cpu:=m.cpu}:MchD)={m with waiting:=false}:=by
  unfold AL;split
  ·rfl
  split<;>rfl
 have h2:=congrArg (fun x:MchD=>({x with cpu:=(Az (AL m).cpu m.mem).1,mem:=(Az (AL m).cpu m.mem).2.1}:MchD)) h;exact h2
theorem Lc{nx:Nat}{ob:List (Nat×Option Ob)}(id j:Nat)(m:MchD)(clock:Int)(hM:OkM m)(hob:lookO ob id=some (cJ m (.own j)))(hj:lookO ob j=some (EH m.mem))(hi:id<nx)(hjn:j<nx)(hne:id≠j):
  Bt prog 95 [.ptr id 49 0 0,uv clock] nx ob fun r nx' ob'=>SU nx ob id j (goD m clock) r nx' ob':=by
 have n1:¬j=id:=fun e=>hne e.symm;have k1:¬id=nx+25:=by omega
 have k2:¬id=nx+25+1:=by omega
 have k3:¬nx+25=id:=by omega
 have k4:¬nx+25+1=id:=by omega
 have l1:¬j=nx+25:=by omega
 have l2:¬j=nx+25+1:=by omega
 have l3:¬nx+25=j:=by omega
 have l4:¬nx+25+1=j:=by omega
 have hC:=Io hM;have hct:IntKind.u64.wrap (m.count+1)=m.count+1:=u64_in (by have:=hM.ct;omega) (by have:=hM.ct;omega);have hdo:∀{nx:Nat}{ob:List (Nat×Option Ob)},lookO ob j=some (EH m.mem)->j<nx->Bt prog 158 [.st (AL m).cpu.row,.own j] nx ob fun r nx' ob'=>r=.tup [.st (Az (AL m).cpu m.mem).1.row,.st (Az (AL m).cpu m.mem).2.2.row]/\CZ nx ob j (Az (AL m).cpu m.mem).2.1 nx' ob':=fun h1 h2=>rdo_ok j (AL m).cpu m.mem hC hM.w h1 h2;obtain⟨hMA,hEf⟩:=IP hM;have hgo:goD m clock=({(BZ (GO m (Az (AL m).cpu m.mem).1 (Az (AL m).cpu m.mem).2.1) (Az (AL m).cpu m.mem).2.2 clock m.count).1 with count:=(BZ (GO m (Az (AL m).cpu m.mem).1 (Az (AL m).cpu m.mem).2.1) (Az (AL m).cpu m.mem).2.2 clock m.count).1.count+1},(BZ (GO m (Az (AL m).cpu m.mem).1 (Az (AL m).cpu m.mem).2.1) (Az (AL m).cpu m.mem).2.2 clock m.count).2):=by
  unfold goD;rw[S1];rfl
 rw[S1]at hMA;unfold GB at hEf;generalize Az (AL m).cpu m.mem=E at *;obtain⟨c2,M2,e⟩:=E;simp only at hdo hgo hMA hEf;refine sIY func95 ntmps95 (kX2 @hob @hj) ?_;refine cn1 (Uo m hM) (kX2 @hob @hj) ?_;refine au1 (kX3 @hob @hj @n1) ?_;(repeat intro K hK);apply wr
 have hkx:=hK;have rest:∀(C E n2:Nat)(T:List (Nat×V))(o:List (Nat×Option Ob)),lkT T 0=.ptr id 49 0 0->lkT T 1=uv clock->lkT T 5=.sl 0 true []->lkT T 6=.ptr C 25 0 0->lkT T 7=.ptr E 4 0 0 ->
   nx<=C->nx<=E->C<n2->E<n2->C≠E->nx<=n2->lookO o id=some (cJ {m with cpu:=(AL m).cpu,waiting:=false} (.own j))->lookO o C=some ⟨29,25,true,false,[c2.row]⟩->lookO o E=some ⟨267,4,true,false,[e.row]⟩->lookO o j=some (EH M2)->(∀i,i<nx->i≠id->i≠j->lookO o i=lookO ob i)->K ⟨81,T,n2,o,nx⟩:=by
  intro C E n2 T o t0 t1 t5 t6 t7 hC1 hE1 hC2 hE2 hCE hn2 oI oC oE oJ oO;refine hkx _ ?_;refine Bq [(0,.ptr id 49 0 0),(1,uv clock),(5,.sl 0 true []),(6,.ptr C 25 0 0),(7,.ptr E 4 0 0)] (by simp[t0,t1,t5,t6,t7]) ?_;simp;have m1:¬E=id:=by omega
  have m2:¬E=j:=by omega
  have m3:¬C=id:=by omega
  refine au1 (kX5 @oI @oC @oE @m1 @m3) ?_;(repeat intro K hK);apply wr;by_cases q1:e.kind=1
  ·have hE:goD m clock=({(AO (GO m c2 M2) e.port clock).1 with cpu:=(AO (GO m c2 M2) e.port clock).1.cpu.setR e.reg (AO (GO m c2 M2) e.port clock).2,count:=(AO (GO m c2 M2) e.port clock).1.count+1},[]):=by rw[hgo];unfold BZ;rw[if_pos q1]
   obtain⟨h0,h15⟩:=hEf.r q1;refine DI @q1 (kX4 @oI @oE @m1 @m3) ?_;(repeat intro K hK);apply wr;refine cO ?_;refine(rin_ok id j (GO m c2 M2) e.port clock hMA (by simp[lookO,GO]) (by simp[lookO,n1,oJ,GO]) (by omega) (by omega) hne).mono fun r nx' ob' hp=>?_;simp only[BX];obtain⟨rfl,b1,b2,b3,b4⟩:=hp;have z1:=b4 E (by omega) m1 m2;have hcn:(AO (GO m c2 M2) e.port clock).1.count=m.count:=GK _ _ _;simp[lookO,m1,oE]at z1;generalize AO (GO m c2 M2) e.port clock=R at *;simp;refine au1 (kX2 @b2 @z1) ?_;(repeat intro K hK);apply wr;refine AD 12 [0,0,2,6,14,0,32,0,254,511,1023,2047] [(9,([[],[],[1],[1,2],[1,2,3],[],[5],[],[1,2,3,4,5,6,7]],[])),(1,([],[])),(1,([],[])),(1,([],[]))] ?_;refine af1 (kX2 @b2 @z1) ?_;refine cYf (DF R.1.cpu e.reg R.2 h0 h15) @b2 ?_;(repeat intro K hK);apply wr;refine ar ?_;simp[hE,hct,hcn];refine⟨.inr ⟨rfl,rfl⟩,by omega,by simp[lookO,hcn],by simp[lookO,n1,b3],fun i h1 h2 h3=>?_⟩;simp[lookO,h2];rw[b4 i (by omega) h2 h3];simp[lookO,h2,oO i h1 h2 h3]
  by_cases q2:e.kind=2
  ·have hE:BZ (GO m c2 M2) e clock m.count=AH (GO m c2 M2) e.port e.val m.count:=by unfold BZ;rw[if_neg q1,if_pos q2]
   refine Ac @q1 ?_;refine Cg @q2 (kX4 @oI @oE @m1 @m3) ?_;(repeat intro K hK);apply wr;refine cO ?_;refine(eC id j (GO m c2 M2) e.port e.val hMA hEf.v (by simp[lookO,GO]) (by simp[lookO,n1,oJ,GO]) (by omega) (by omega) hne).mono fun r nx' ob' hp=>?_;simp only[BX];obtain⟨hr,b1,b2,b3,b4⟩:=hp;rw[hE]at hgo;have hcn:(AH (GO m c2 M2) e.port e.val m.count).1.count=m.count:=F6 _ _ _ _;rw[show(GO m c2 M2).count=m.count from rfl]at hr b2 b3;generalize AH (GO m c2 M2) e.port e.val m.count=W at *;rcases hr with rfl|⟨rfl,hz⟩
   ·simp;refine af1 @b2 ?_;(repeat intro K hK);apply wr;refine ar ?_;simp[hgo,hct,hcn];refine⟨.inl rfl,by omega,by simp[lookO,hcn],by simp[lookO,n1,b3],fun i h1 h2 h3=>?_⟩;simp[lookO,h2];rw[b4 i (by omega) h2 h3];simp[lookO,h2,oO i h1 h2 h3]
   simp;refine af1 @b2 ?_;(repeat intro K hK);apply wr;refine ar ?_;simp[hgo,hct,hcn];refine⟨.inr ⟨rfl,hz⟩,by omega,by simp[lookO,hcn],by simp[lookO,n1,b3],fun i h1 h2 h3=>?_⟩;simp[lookO,h2];rw[b4 i (by omega) h2 h3];simp[lookO,h2,oO i h1 h2 h3]
  by_cases q3:e.kind=3
  ·have hE:goD m clock=({GO m c2 M2 with waiting:=true,count:=m.count+1},[]):=by rw[hgo];unfold BZ;rw[if_neg q1,if_neg q2,if_pos q3];rfl
   refine Ac @q1 ?_;refine Ac @q2 ?_;refine Cg @q3 (kX2 @oI @m3) ?_;(repeat intro K hK);apply wr;refine ar ?_;simp[hE,hct];exact⟨.inr ⟨rfl,rfl⟩,by omega,by simp[lookO,GO],by simp[lookO,n1,oJ,GO],fun i h1 h2 h3=>by simp[lookO,h2,oO i h1 h2 h3]⟩
  by_cases q4:e.kind=4
  ·have hE:goD m clock=({GO m c2 M2 with halted:=true,count:=m.count+1},[]):=by rw[hgo];unfold BZ;rw[if_neg q1,if_neg q2,if_neg q3,if_pos q4];rfl
   refine Ac @q1 ?_;refine Ac @q2 ?_;refine Ac @q3 ?_;refine Cg @q4 (kX2 @oI @m3) ?_;(repeat intro K hK);apply wr;refine ar ?_;simp[hE,hct];exact⟨.inr ⟨rfl,rfl⟩,by omega,by simp[lookO,GO],by simp[lookO,n1,oJ,GO],fun i h1 h2 h3=>by simp[lookO,h2,oO i h1 h2 h3]⟩
  have hE:goD m clock=({GO m c2 M2 with count:=m.count+1},[]):=by rw[hgo];unfold BZ;rw[if_neg q1,if_neg q2,if_neg q3,if_neg q4];rfl
  refine Ac @q1 ?_;refine Ac @q2 ?_;refine Ac @q3 ?_;refine Cw @q4 (kX2 @oI @m3) ?_;(repeat intro K hK);apply wr;refine ar ?_;simp[hE,hct];exact⟨.inr ⟨rfl,rfl⟩,by omega,by simp[lookO,GO],by simp[lookO,n1,oJ,GO],fun i h1 h2 h3=>by simp[lookO,h2,oO i h1 h2 h3]⟩
 clear hkx hK;refine BH (.node 8 12 (.node 8 13 (.node 12 13 (.leaf [0,1,2,3,4,5,6,7,8,9,10,11,12,13,14,15] (bN [0,1,3,7,0,16,48,112,255,511,1023,1023,511,4607,14335,32767]) [(8,([[],[0],[0,1],[0,1,2],[],[4],[4,5],[4,5,6]],[])),(1,([],[])),(6,([[],[0],[0],[],[3],[0,1,3,4]],[])),(1,([],[]))]) (.leaf [0,1,2,3,4,5,6,7,8,9,10,11,13,12,14,15] (bN [0,1,3,7,0,16,48,112,255,511,1023,1023,511,4607,14335,32767]) [(8,([[],[0],[0,1],[0,1,2],[],[4],[4,5],[4,5,6]],[])),(1,([],[])),(6,([[],[0],[0],[],[3],[0,1,3,4]],[])),(1,([],[]))])) (.leaf [0,1,2,3,4,5,6,7,13,8,9,10,11,12,14,15] (bN [0,1,3,7,0,16,48,112,0,511,1023,2047,2047,1023,12287,32767]) [(9,([[],[0],[0,1],[0,1,2],[],[4],[4,5],[4,5,6],[]],[(3,8),(7,8)])),(1,([],[])),(5,([[],[0],[0],[],[0,1,3]],[])),(1,([],[]))])) (.node 12 13 (.node 8 13 (.leaf [0,1,2,3,4,5,6,7,12,8,9,10,11,13,14,15] (bN [0,1,3,7,0,16,48,112,0,511,1023,2047,2047,1023,12287,32767]) [(9,([[],[0],[0,1],[0,1,2],[],[4],[4,5],[4,5,6],[]],[(3,8),(7,8)])),(1,([],[])),(5,([[],[0],[0],[],[0,1,3]],[])),(1,([],[]))]) (.leaf [0,1,2,3,4,5,6,7,12,13,8,9,10,11,14,15] (bN [0,1,3,7,0,16,48,112,0,256,1023,2047,4095,4095,8191,32767]) [(10,([[],[0],[0,1],[0,1,2],[],[4],[4,5],[4,5,6],[],[8]],[(3,8),(3,9),(7,8),(7,9)])),(1,([],[])),(1,([],[])),(3,([[],[],[0]],[])),(1,([],[]))])) (.leaf [0,1,2,3,4,5,6,7,13,12,8,9,10,11,14,15] (bN [0,1,3,7,0,16,48,112,0,256,1023,2047,4095,4095,8191,32767]) [(10,([[],[0],[0,1],[0,1,2],[],[4],[4,5],[4,5,6],[],[8]],[(3,8),(3,9),(7,8),(7,9)])),(1,([],[])),(1,([],[])),(3,([[],[],[0]],[])),(1,([],[]))]))) (by kernel_rfl) (by kernel_rfl) ?_;simp only[PT.run]
 repeat' (with_reducible apply And.intro)
 all_goals (simp only[CE,iI,List.map_nil,iC,iK];refine af1 (SL @hob @hj @n1 @k1 @k2 @k3 @k4 @l1 @l2 @l3 @l4) ?_;(repeat intro K hK);apply wr)
 iterate 2
  ·refine cO ?_;refine(hdo (by simp[lookO,n1,hj,l1,l2,l3,l4]) (by omega)).mono fun r nx' ob' hp=>?_;simp only[BX];obtain⟨rfl,g1,g2,g3⟩:=hp;have y1:=g3 id (by omega) hne;simp[lookO,k1,k2,k3,k4,l1,l2,l3,l4]at y1;have p1:¬id=nx':=by omega
   have p2:¬nx'=id:=by omega
   have p3:¬id=nx'+1:=by omega
   have p4:¬nx'+1=id:=by omega
   have q1:¬j=nx':=by omega
   have q2:¬j=nx'+1:=by omega
   skip;simp;refine af1 (kX9 @y1 @p1 @p2 @p3 @p4 @k1 @k2 @k3 @k4) ?_;(repeat intro K hK);apply wr;refine rest _ _ _ _ _ rfl rfl rfl rfl rfl (by omega) (by omega) (by omega) (by omega) (by omega) (by omega) (by simp[lookO,y1,p1,p3,k1,k2]) (by simp[lookO]) (by simp[lookO]) (by simp[lookO,n1,q1,q2,l1,l2,g2]) fun i h1 h2 h3=>?_;have a1:¬i=nx':=by omega
   have a2:¬i=nx'+1:=by omega
   have a3:¬i=nx+25:=by omega
   have a4:¬i=nx+25+1:=by omega
   have ee:=g3 i (by omega) h3;simp[lookO,a1,a2,a3,a4,h2]at ee;simp[lookO,a1,a2,a3,a4,h2,ee]
 iterate 2
  ·refine cO ?_;refine(hdo (by simp[lookO,n1,hj,l1,l2,l3,l4]) (by omega)).mono fun r nx' ob' hp=>?_;simp only[BX];obtain⟨rfl,g1,g2,g3⟩:=hp;have y1:=g3 id (by omega) hne;simp[lookO,k1,k2,k3,k4,l1,l2,l3,l4]at y1;have p1:¬id=nx':=by omega
   have p2:¬nx'=id:=by omega
   have p3:¬id=nx'+1:=by omega
   have p4:¬nx'+1=id:=by omega
   have q1:¬j=nx':=by omega
   have q2:¬j=nx'+1:=by omega
   have y2:=g3 (nx+25) (by omega) l3;simp[lookO,k1,k2,k3,k4,l1,l2,l3,l4]at y2;have r1:¬nx+25=nx':=by omega
   have r2:¬nx'=nx+25:=by omega
   simp;refine af1 (ZI @y1 @p1 @p2 @p3 @p4 @k1 @k2 @k3 @k4 @y2 @r1 @r2) ?_;(repeat intro K hK);apply wr;refine rest _ _ _ _ _ rfl rfl rfl rfl rfl (by omega) (by omega) (by omega) (by omega) (by omega) (by omega) (by simp[lookO,y1,p1,p3,k1,k2]) (by simp[lookO,y2,r1,r2]) (by simp[lookO,y2,r1,r2]) (by simp[lookO,n1,q1,q2,l1,l2,g2]) fun i h1 h2 h3=>?_;have a1:¬i=nx':=by omega
   have a2:¬i=nx'+1:=by omega
   have a3:¬i=nx+25:=by omega
   have a4:¬i=nx+25+1:=by omega
   have ee:=g3 i (by omega) h3;simp[lookO,a1,a2,a3,a4,h2]at ee;simp[lookO,a1,a2,a3,a4,h2,ee]
 iterate 2
  ·refine cO ?_;refine(hdo (by simp[lookO,n1,hj,l1,l2,l3,l4]) (by omega)).mono fun r nx' ob' hp=>?_;simp only[BX];obtain⟨rfl,g1,g2,g3⟩:=hp;have y1:=g3 id (by omega) hne;simp[lookO,k1,k2,k3,k4,l1,l2,l3,l4]at y1;have p1:¬id=nx':=by omega
   have p2:¬nx'=id:=by omega
   have p3:¬id=nx'+1:=by omega
   have p4:¬nx'+1=id:=by omega
   have q1:¬j=nx':=by omega
   have q2:¬j=nx'+1:=by omega
   have y2:=g3 (nx+25) (by omega) l3;have y3:=g3 (nx+25+1) (by omega) l4;simp[lookO,k1,k2,k3,k4,l1,l2,l3,l4]at y2;simp[lookO,k1,k2,k3,k4,l1,l2,l3,l4]at y3;simp;refine af1 (SL @y1 @p1 @p2 @p3 @p4 @k1 @k2 @k3 @k4 @y2 @y3) ?_;(repeat intro K hK);apply wr;refine rest _ _ _ _ _ rfl rfl rfl rfl rfl (by omega) (by omega) (by omega) (by omega) (by omega) (by omega) (by simp[lookO,y1,p1,p3,k1,k2]) (by simp[lookO,y2,y3]) (by simp[lookO,y2,y3]) (by simp[lookO,n1,q1,q2,l1,l2,g2]) fun i h1 h2 h3=>?_;have a1:¬i=nx':=by omega
   have a2:¬i=nx'+1:=by omega
   have a3:¬i=nx+25:=by omega
   have a4:¬i=nx+25+1:=by omega
   have ee:=g3 i (by omega) h3;simp[lookO,a1,a2,a3,a4,h2]at ee;simp[lookO,a1,a2,a3,a4,h2,ee]
end Go.Proofs.YtjkmhmepljamoaaGreat
end
