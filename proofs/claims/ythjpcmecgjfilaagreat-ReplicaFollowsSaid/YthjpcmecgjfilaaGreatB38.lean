/- A part of the proof of ReplicaFollows. -/
import Derived.Test.YthjpcmecgjfilaaGreatB33
import Derived.Test.YthjpcmecgjfilaaGreatB34
set_option linter.unusedSimpArgs false
set_option linter.unusedVariables false
set_option maxHeartbeats 16000000
set_option maxRecDepth 100000
section
namespace Go.Proofs.YthjpcmecgjfilaaGreat
open Go.Ab Go.RowKit Tryz
theorem zJy {l:List Int} (hl:OkW l) {f:Int} (h0:0<=f) (h1:f<pagesD l) (s:Str) (hs:s.length<=128):zFS l f s s.length=zBO l f (s++(zBb l f).drop s.length):=by
 have hpl:=zB6 (l:=l) (by omega)
 rw [zMA hl h0 h1 (by omega) s s.length (by omega) hs,List.take_length]
 rfl
theorem zFZ {nx:Nat} {ob:List (Nat × Option Ob)} (j:Nat) (n:NicD) (l:List Int) (s:Str) (hf:W32 n.buffer) (hl:OkW l) (hs:s.length<=100000) (hj:lookO ob j=some (memO l)) (hjn:j<nx) :
  InlC prog 102 [.st n.row,.own j,.str s] nx ob fun r nx' ob'=>r=.tup [.st (zAY n l s).1.row,.bool (zAY n l s).2.2]/\zEZ nx ob j (zAY n l s).2.1 nx' ob':=by
 have l1:¬ j=nx:=by omega
 have l2:¬ j=nx+1:=by omega
 have hg:=zHI l n.buffer hf;have hp:=zAc l;by_cases hc:n.posted=true/\1<=s.length/\s.length<=128/\n.buffer<pagesD l
 ·obtain ⟨c1,c2,c3,c4⟩:=hc;have hE:zAY n l s=({n with posted:=false,buffer:=0,received:=true,got:=s.length},zBO l n.buffer (s++(zBb l n.buffer).drop s.length),true):=by unfold zAY;rw [if_pos ⟨c1,c2,c3,c4⟩]
  have c5:¬ pagesD l<=n.buffer:=by omega
  have g1:¬ (s.length:Int)<1:=by omega
  have g2:¬ (128:Int)<s.length:=by omega
  have w1:IntKind.i64.wrap n.buffer=n.buffer:=zAA (by have:=hf.1;omega) (by have:=hf.2;omega)
  have w2:IntKind.u32.wrap (s.length:Int)=s.length:=u32_in (by omega) (by omega)
  have hF:=zJy hl hf.1 c4 s c3;rw [hE];refine InlC.of func102 rfl (by kernel_rfl) rfl ?_
  simp only [ntmps102,St.startI,argT];refine au1 (kX6 @hj @l1 @l2 @c1 @g1 @g2) ?_;intros;apply wr;refine cn1 (hg) (kX3 @hj @l1 @l2) ?_;refine au ?_;intros;apply wr;refine gF11 @c5 rfl (kX4 @hj @l1 @l2 @w1) ?_;intros;apply wr
  first|refine .inr ((zEF j l n.buffer s hl hf.1 c4 c3 (by simp [lookO,l1,l2,hj])).mono fun r nx' ob' hp=>?_)|refine (zEF j l n.buffer s hl hf.1 c4 c3 (by simp [lookO,l1,l2,hj])).mono fun r nx' ob' hp=>?_|refine ((zEF j l n.buffer s hl hf.1 c4 c3 (by simp [lookO,l1,l2,hj])).mono fun r nx' ob' hp=>?_).2
  simp only [aftI];obtain ⟨rfl,rfl,k1,k2⟩:=hp;have y1:=k2 nx (fun q=>l1 q.symm)
  have y2:=k2 (nx+1) (fun q=>l2 q.symm)
  simp [lookO] at y1 y2;simp;refine au1 (kX3 @y1 @y2 @w2) ?_;intros;apply wr;refine zAB ?_;simp;refine ⟨by omega,by simp [lookO,l1,l2,k1,hF],fun i h1 h2=>?_⟩
  have a1:¬ i=nx:=by omega
  have a2:¬ i=nx+1:=by omega
  have ee:=k2 i h2;simp [lookO,a1,a2] at ee;simp [lookO,a1,a2,ee]
 have hE:zAY n l s=(n,l,false):=by unfold zAY;rw [if_neg hc]
 rw [hE];cases q1:n.posted with
 | false =>
  refine InlC.of func102 rfl (by kernel_rfl) rfl ?_
  simp only [ntmps102,St.startI,argT];refine au1 (kX4 @hj @l1 @l2 @q1) ?_;intros;apply wr;refine gT01 rfl @q1 ?_;intros;apply wr;refine zAB ?_;simp [q1];refine ⟨by omega,by simp [lookO,l1,l2,hj],fun i h1 h2=>?_⟩
  have a1:¬ i=nx:=by omega
  have a2:¬ i=nx+1:=by omega
  simp [lookO,a1,a2]
 | true =>
  by_cases q2:(s.length:Int)<1
  ·refine InlC.of func102 rfl (by kernel_rfl) rfl ?_
   simp only [ntmps102,St.startI,argT];refine au1 (kX5 @hj @l1 @l2 @q1 @q2) ?_;intros;apply wr;refine gT01 rfl @q1 ?_;intros;apply wr;refine zAB ?_;simp [q1];refine ⟨by omega,by simp [lookO,l1,l2,hj],fun i h1 h2=>?_⟩
   have a1:¬ i=nx:=by omega
   have a2:¬ i=nx+1:=by omega
   simp [lookO,a1,a2]
  by_cases q3:(128:Int)<s.length
  ·refine InlC.of func102 rfl (by kernel_rfl) rfl ?_
   simp only [ntmps102,St.startI,argT];refine au1 (kX6 @hj @l1 @l2 @q1 @q2 @q3) ?_;intros;apply wr;refine gT01 rfl @q1 ?_;intros;apply wr;refine zAB ?_;simp [q1];refine ⟨by omega,by simp [lookO,l1,l2,hj],fun i h1 h2=>?_⟩
   have a1:¬ i=nx:=by omega
   have a2:¬ i=nx+1:=by omega
   simp [lookO,a1,a2]
  have q4:pagesD l<=n.buffer:=by
   by_cases z:n.buffer<pagesD l
   ·exact absurd ⟨q1,by omega,by omega,z⟩ hc
   omega
  have q5:¬ n.buffer<pagesD l:=by omega
  refine InlC.of func102 rfl (by kernel_rfl) rfl ?_
  simp only [ntmps102,St.startI,argT];refine au1 (kX6 @hj @l1 @l2 @q1 @q2 @q3) ?_;intros;apply wr;refine cn1 (hg) (kX3 @hj @l1 @l2) ?_;refine au ?_;intros;apply wr;refine gT11 (kX2 @q4 @q5) rfl @q1 ?_;intros;apply wr;refine zAB ?_;simp [q1];refine ⟨by omega,by simp [lookO,l1,l2,hj],fun i h1 h2=>?_⟩
  have a1:¬ i=nx:=by omega
  have a2:¬ i=nx+1:=by omega
  simp [lookO,a1,a2]
theorem zFc {nx:Nat} {ob:List (Nat × Option Ob)} (j:Nat) (d:DskD) (l:List Int) (e:EvD) (hf:W32 d.opFrame) (hl:OkW l) (hj:lookO ob j=some (memO l)) (hjn:j<nx) :
  InlC prog 101 [.st d.row,.own j,.st e.row] nx ob fun r nx' ob'=>r=.tup [.st (zAJ d l e).1.row,.bool (zAJ d l e).2.2]/\zEZ nx ob j (zAJ d l e).2.1 nx' ob':=by
 have l1:¬ j=nx:=by omega
 have l2:¬ j=nx+1:=by omega
 have l3:¬ j=nx+1+1:=by omega
 have hg:=zHI l d.opFrame hf;have hp:=zAc l;by_cases hc:d.state≠1\/e.kind≠4\/1<e.n
 ·have hE:zAJ d l e=(d,l,false):=by unfold zAJ;rw [if_pos hc]
  rw [hE];by_cases q1:d.state=1
  ·by_cases q2:e.kind=4
   ·have q3:1<e.n:=by omega
    refine InlC.of func101 rfl (by kernel_rfl) rfl ?_
    simp only [ntmps101,St.startI,argT];refine au1 (kX7 @hj @l1 @l2 @l3 @q1 @q2 @q3) ?_;intros;apply wr;refine gT10 (kX3 @q1 @q2 @q3) rfl ?_;intros;apply wr;refine zAB ?_;simp [hE];refine ⟨by omega,by simp [lookO,l1,l2,l3,hj],fun i h1 h2=>?_⟩
    have a1:¬ i=nx:=by omega
    have a2:¬ i=nx+1:=by omega
    have a3:¬ i=nx+1+1:=by omega
    simp [lookO,a1,a2,a3]
   refine InlC.of func101 rfl (by kernel_rfl) rfl ?_
   simp only [ntmps101,St.startI,argT];refine au1 (kX6 @hj @l1 @l2 @l3 @q1 @q2) ?_;intros;apply wr;refine gT10 (kX2 @q1 @q2) rfl ?_;intros;apply wr;refine zAB ?_;simp [hE];refine ⟨by omega,by simp [lookO,l1,l2,l3,hj],fun i h1 h2=>?_⟩
   have a1:¬ i=nx:=by omega
   have a2:¬ i=nx+1:=by omega
   have a3:¬ i=nx+1+1:=by omega
   simp [lookO,a1,a2,a3]
  refine InlC.of func101 rfl (by kernel_rfl) rfl ?_
  simp only [ntmps101,St.startI,argT];refine au1 (kX5 @hj @l1 @l2 @l3 @q1) ?_;intros;apply wr;refine gT10 @q1 rfl ?_;intros;apply wr;refine zAB ?_;simp [hE];refine ⟨by omega,by simp [lookO,l1,l2,l3,hj],fun i h1 h2=>?_⟩
  have a1:¬ i=nx:=by omega
  have a2:¬ i=nx+1:=by omega
  have a3:¬ i=nx+1+1:=by omega
  simp [lookO,a1,a2,a3]
 obtain ⟨c1,c2,c3⟩:d.state=1/\e.kind=4/\¬ 1<e.n:=by omega
 refine InlC.of func101 rfl (by kernel_rfl) rfl ?_
 simp only [ntmps101,St.startI,argT];refine au1 (kX4 @hj @l1 @l2 @l3) ?_;intros;apply wr;refine gF10 (kX3 @c1 @c2 @c3) rfl ?_;intros;apply wr;rename_i kx hkx;refine .inl ⟨fun hb=>?_,fun hb=>?_⟩
 ·obtain ⟨b1,b2,b3⟩:e.n=1/\d.cmd=1/\e.data.length=128:=by simp at hb;omega
  simp [b1,b2,b3,l1,l2,l3,hj];refine cn1 (hg) (kX4 @hj @l1 @l2 @l3) ?_;refine au1 (kX3 @b1 @b2 @b3) ?_;intros;apply wr;by_cases hpg:d.opFrame<pagesD l
  ·have hE:zAJ d l e=(doneD d e.n,zBO l d.opFrame e.data,true):=by
    unfold zAJ;rw [if_neg (by omega),if_pos ⟨b1,b2⟩,if_pos ⟨hpg,b3⟩]
   have hF:=zJy hl hf.1 hpg e.data (by omega)
   have hB:=zPt hf.1 hpg;rw [b3,List.drop_eq_nil_of_le (by omega),zWh] at hF
   have w1:IntKind.i64.wrap d.opFrame=d.opFrame:=zAA (by have:=hf.1;omega) (by have:=hf.2;omega)
   refine gF10 @hpg rfl ?_;intros;apply wr;refine gT01 rfl @w1 ?_;intros;apply wr
   first|refine .inr ((zEF j l d.opFrame e.data hl hf.1 hpg (by omega) (by simp [lookO,l1,l2,l3,hj])).mono fun r nx' ob' hp=>?_)|refine (zEF j l d.opFrame e.data hl hf.1 hpg (by omega) (by simp [lookO,l1,l2,l3,hj])).mono fun r nx' ob' hp=>?_|refine ((zEF j l d.opFrame e.data hl hf.1 hpg (by omega) (by simp [lookO,l1,l2,l3,hj])).mono fun r nx' ob' hp=>?_).2
   simp only [aftI];obtain ⟨rfl,rfl,k1,k2⟩:=hp;rw [b3,hF] at k1;have y1:=k2 nx (fun q=>l1 q.symm)
   have y2:=k2 (nx+1) (fun q=>l2 q.symm)
   have y3:=k2 (nx+1+1) (fun q=>l3 q.symm)
   simp [lookO] at y1 y2 y3;simp;refine au1 (kX4 @y1 @y2 @y3 @b1) ?_;intros;apply wr;refine gT01 rfl (kX3 @y1 @y2 @y3) ?_;intros;apply wr;refine zAB ?_;simp [hE,doneD,b1];refine ⟨by omega,by simp [lookO,l1,l2,l3,k1],fun i h1 h2=>?_⟩
   have a1:¬ i=nx:=by omega
   have a2:¬ i=nx+1:=by omega
   have a3:¬ i=nx+1+1:=by omega
   have ee:=k2 i h2;simp [lookO,a1,a2,a3] at ee;simp [lookO,a1,a2,a3,ee]
  have hE:zAJ d l e=(d,l,false):=by
   unfold zAJ;rw [if_neg (by omega),if_pos ⟨b1,b2⟩,if_neg (fun q=>hpg q.1)]
  refine gT10 @hpg rfl ?_;intros;apply wr;refine zAB ?_;simp [hE];refine ⟨by omega,by simp [lookO,l1,l2,l3,hj],fun i h1 h2=>?_⟩
  have a1:¬ i=nx:=by omega
  have a2:¬ i=nx+1:=by omega
  have a3:¬ i=nx+1+1:=by omega
  simp [lookO,a1,a2,a3]
 by_cases h128:e.data.length=128
 ·have b1:¬ (e.n=1/\d.cmd=1):=by
   intro z
   simp [z.1,z.2,h128] at hb
  have b2:(e.n==1&&d.cmd==1)=false:=by simpa using b1
  have hE:zAJ d l e=(d,l,false):=by
   unfold zAJ;rw [if_neg (by omega),if_neg b1,if_neg (by intro q;rw [q] at h128;simp at h128)]
  simp [St.put,b2,h128,l1,l2,l3,hj];refine hkx _ ?_;refine gT00 rfl ?_;intros;apply wr;refine zAB ?_;simp [hE];refine ⟨by omega,by simp [lookO,l1,l2,l3,hj],fun i h1 h2=>?_⟩
  have a1:¬ i=nx:=by omega
  have a2:¬ i=nx+1:=by omega
  have a3:¬ i=nx+1+1:=by omega
  simp [lookO,a1,a2,a3]
 have b3:¬ (e.data.length:Int)=128:=by omega
 have b4:((e.data.length:Int) != 128)=true:=by simp [b3]
 simp [St.put,b4,l1,l2,l3,hj];refine ⟨fun q=>by by_cases z:e.n=1<;>simp [z] at q ⊢;exact q,hkx _ ?_⟩
 by_cases hr:e.n=1/\d.cmd=1
 ·have hE:zAJ d l e=(d,l,false):=by
   unfold zAJ;rw [if_neg (by omega),if_pos hr,if_neg (fun q=>h128 q.2)]
  refine gT10 (kX2 @hr.1 @hr.2) rfl ?_;intros;apply wr;refine zAB ?_;simp [hE];refine ⟨by omega,by simp [lookO,l1,l2,l3,hj],fun i h1 h2=>?_⟩
  have a1:¬ i=nx:=by omega
  have a2:¬ i=nx+1:=by omega
  have a3:¬ i=nx+1+1:=by omega
  simp [lookO,a1,a2,a3]
 have hr2:(e.n==1&&d.cmd==1)=false:=by simpa using hr
 have hr3:(!e.n==1||!d.cmd==1)=true:=by
  cases q1:e.n==1<;>cases q2:d.cmd==1<;>simp [q1,q2] at hr2 ⊢
 by_cases hd:e.data=[]
 ·have hE:zAJ d l e=(doneD d e.n,l,true):=by
   unfold zAJ;rw [if_neg (by omega),if_neg hr,if_pos hd]
  have hz:¬ 0<e.data.length:=by rw [hd];simp
  simp only [hr2,hr3];refine gF10 @hz rfl ?_;intros;apply wr;refine gF00 rfl ?_;intros;apply wr;by_cases hn:e.n=1
  ·refine gT10 @hn rfl ?_;intros;apply wr;refine zAB ?_;simp [hE,doneD,hn];refine ⟨by omega,by simp [lookO,l1,l2,l3,hj],fun i h1 h2=>?_⟩
   have a1:¬ i=nx:=by omega
   have a2:¬ i=nx+1:=by omega
   have a3:¬ i=nx+1+1:=by omega
   simp [lookO,a1,a2,a3]
  refine gF10 @hn rfl ?_;intros;apply wr;refine zAB ?_;simp [hE,doneD,hn];refine ⟨by omega,by simp [lookO,l1,l2,l3,hj],fun i h1 h2=>?_⟩
  have a1:¬ i=nx:=by omega
  have a2:¬ i=nx+1:=by omega
  have a3:¬ i=nx+1+1:=by omega
  simp [lookO,a1,a2,a3]
 have hE:zAJ d l e=(d,l,false):=by
  unfold zAJ;rw [if_neg (by omega),if_neg hr,if_neg hd]
 have hz:0<e.data.length:=by cases q:e.data with|nil=>exact absurd q hd|cons a b=>simp
 simp only [hr2,hr3];refine gT10 @hz rfl ?_;intros;apply wr;refine zAB ?_;simp [hE];refine ⟨by omega,by simp [lookO,l1,l2,l3,hj],fun i h1 h2=>?_⟩
 have a1:¬ i=nx:=by omega
 have a2:¬ i=nx+1:=by omega
 have a3:¬ i=nx+1+1:=by omega
 simp [lookO,a1,a2,a3]
end Go.Proofs.YthjpcmecgjfilaaGreat
end
