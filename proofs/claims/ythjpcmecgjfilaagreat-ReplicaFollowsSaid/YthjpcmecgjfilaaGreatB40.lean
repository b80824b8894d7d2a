/- A part of the proof of ReplicaFollows. -/
import Derived.Test.YthjpcmecgjfilaaGreatB08
import Derived.Test.YthjpcmecgjfilaaGreatB24
import Derived.Test.YthjpcmecgjfilaaGreatB27
import Derived.Test.YthjpcmecgjfilaaGreatB30
import Derived.Test.YthjpcmecgjfilaaGreatB33
import Derived.Test.YthjpcmecgjfilaaGreatB35
import Derived.Test.YthjpcmecgjfilaaGreatB39
set_option linter.unusedSimpArgs false
set_option linter.unusedVariables false
set_option maxHeartbeats 16000000
set_option maxRecDepth 100000
section
namespace Go.Proofs.YthjpcmecgjfilaaGreat
open Go.Ab Go.RowKit Tryz
def aftH (m:MchD) (c:CpuD) (l:List Int):MchD:={m with cpu:=c,mem:=l,waiting:=false}
theorem zOKh (m:MchD):zBg m=aftH m (zAl (zAK m).cpu m.mem).1 (zAl (zAK m).cpu m.mem).2.1:=by
 unfold zBg aftH;have h:({zAK m with cpu:=m.cpu}:MchD)={m with waiting:=false}:=by
  unfold zAK;split
  ·rfl
  split<;>rfl
 have h2:=congrArg (fun x:MchD=>({x with cpu:=(zAl (zAK m).cpu m.mem).1,mem:=(zAl (zAK m).cpu m.mem).2.1}:MchD)) h
 exact h2
theorem zG8 {nx:Nat} {ob:List (Nat × Option Ob)} (id j:Nat) (m:MchD) (e:EvD) (hM:OkM m) (hmay:mayD m=true) (hn:W32 e.n) (hd:e.data.length<=100000) (hob:lookO ob id=some (mchO m (.own j))) (hj:lookO ob j=some (memO m.mem)) (hi:id<nx) (hjn:j<nx) (hne:id≠j) :
  InlC prog 42 [.ptr id 49 0 0,.st e.row] nx ob fun r nx' ob'=>r=.bool (applyD m e).2/\zCv nx ob id j (applyD m e).1 nx' ob':=by
 have n1:¬ j=id:=fun e=>hne e.symm
 have m1:¬ id=nx:=by omega
 have m2:¬ j=nx:=by omega
 have hm0:¬ (mayD m=false\/m.halted=true)↔m.halted=false:=by rw [hmay];simp
 cases hh:m.halted with
 | true =>
  have hE:applyD m e=(m,false):=zDy m e hh;refine InlC.of func42 rfl (by kernel_rfl) rfl ?_
  simp only [ntmps42,St.startI,argT];refine au1 (kX4 @hob @hj @m1 @m2) ?_;intros;apply wr;refine gT10 @hh rfl ?_;intros;apply wr;refine zAB ?_;simp [hE];exact ⟨by omega,by simp [lookO,hob,m1],by simp [lookO,n1,hj,m2],fun i h1 h2 h3=>by simp [lookO,h2,show ¬ i=nx by omega]⟩
 | false =>
  have h0:¬ (mayD m=false\/m.halted=true):=hm0.2 hh;obtain ⟨k,n,dd⟩:=e;simp only at hn hd;by_cases k2:k=2
  ·subst k2;by_cases hc:n=0/\dd=[]
   ·obtain ⟨rfl,rfl⟩:=hc;have hE:applyD m ⟨2,0,[]⟩=({m with tim:=(zDe m.tim).1},(zDe m.tim).2):=by unfold applyD;rw [if_neg h0];rfl
    refine InlC.of func42 rfl (by kernel_rfl) rfl ?_
    simp only [ntmps42,St.startI,argT];refine au1 (kX4 @hob @hj @m1 @m2) ?_;intros;apply wr;refine gF10 @hh rfl ?_;intros;apply wr;refine gT01 rfl (kX2 @hob @m1) ?_;intros;apply wr;refine cZ (zSb m.tim) (kX2 @hob @m1) (kX2 @hob @m1) ?_;intros;apply wr;refine zAB ?_;simp [hE];exact ⟨by omega,by simp [lookO,hob,m1],by simp [lookO,n1,hj,m2],fun i h1 h2 h3=>by simp [lookO,h2,show ¬ i=nx by omega]⟩
   have hE:applyD m ⟨2,n,dd⟩=(m,false):=by unfold applyD;rw [if_neg h0];simp [hc]
   refine InlC.of func42 rfl (by kernel_rfl) rfl ?_
   simp only [ntmps42,St.startI,argT];refine au1 (kX4 @hob @hj @m1 @m2) ?_;intros;apply wr;refine gF10 @hh rfl ?_;intros;apply wr;refine gF10 @hc rfl ?_;intros;apply wr;refine gF00 rfl ?_;intros;apply wr;refine gF00 rfl ?_;intros;apply wr;refine gF00 rfl ?_;intros;apply wr;refine gF00 rfl ?_;intros;apply wr;refine zAB ?_;simp [hE];exact ⟨by omega,by simp [lookO,hob,m1],by simp [lookO,n1,hj,m2],fun i h1 h2 h3=>by simp [lookO,h2,show ¬ i=nx by omega]⟩
  by_cases k3:k=3
  ·subst k3;by_cases hc:n<=255/\dd=[]
   ·obtain ⟨hc1,rfl⟩:=hc;have hE:applyD m ⟨3,n,[]⟩=({m with keys:=(zDv m.keys (UInt8.ofNat n.toNat)).1},(zDv m.keys (UInt8.ofNat n.toNat)).2):=by unfold applyD;rw [if_neg h0,if_neg (by simp),if_pos rfl,if_pos ⟨hc1,rfl⟩]
    have hty:=zSk m.keys (UInt8.ofNat n.toNat) (by have:=hM.k;omega)
    have hw:IntKind.u8.wrap n=((UInt8.ofNat n.toNat).toNat:Int):=by rw [IntKind.wrap_u8,UInt8.toNat_ofNat'];have:=hn.1;omega
    generalize UInt8.ofNat n.toNat=b at *
    refine InlC.of func42 rfl (by kernel_rfl) rfl ?_
    simp only [ntmps42,St.startI,argT];refine au1 (kX4 @hob @hj @m1 @m2) ?_;intros;apply wr;refine gF10 @hh rfl ?_;intros;apply wr;refine gF00 rfl ?_;intros;apply wr;refine gT10 @hc1 rfl ?_;intros;apply wr;refine zAG 16 [0,0,2,6,14,0,32,96,254,510,1022,1022,2047,6143,14335,32767] [(15,([[],[],[1],[1,2],[1,2,3],[],[5],[5,6],[1,2,3,4,5,6,7],[1,2,3,4,5,6,7,8],[1,2,3,4,5,6,7,8,9],[1,2,3,4,5,6,7,8,9],[0,1,2,3,4,5,6,7,8,9,10],[0,1,2,3,4,5,6,7,8,9,10,12],[0,1,2,3,4,5,6,7,8,9,10,12,13]],[])),(1,([],[]))] ?_;refine af1 (kX3 @hob @m1 @hw) ?_;intros;apply wr;refine cYf (hty) (kX2 @hob @m1) ?_;intros;apply wr;refine zAB ?_;simp [hE];exact ⟨by omega,by simp [lookO,hob,m1],by simp [lookO,n1,hj,m2],fun i h1 h2 h3=>by simp [lookO,h2,show ¬ i=nx by omega]⟩
   have hE:applyD m ⟨3,n,dd⟩=(m,false):=by unfold applyD;rw [if_neg h0,if_neg (by simp),if_pos rfl,if_neg hc]
   refine InlC.of func42 rfl (by kernel_rfl) rfl ?_
   simp only [ntmps42,St.startI,argT];refine af1 (kX4 @hob @hj @m1 @m2) ?_;intros;apply wr;refine zAt @hh rfl ?_;intros;apply wr;refine zBM rfl ?_;intros;apply wr;refine zAt @hc rfl ?_;intros;apply wr;refine zBM rfl ?_;intros;apply wr;refine zBM rfl ?_;intros;apply wr;refine zBM rfl ?_;intros;apply wr;refine zAB ?_;simp [hE];exact ⟨by omega,by simp [lookO,hob,m1],by simp [lookO,n1,hj,m2],fun i h1 h2 h3=>by simp [lookO,h2,show ¬ i=nx by omega]⟩
  by_cases k4:k=4
  ·subst k4;have hE:applyD m ⟨4,n,dd⟩=({m with dk:=(zAJ m.dk m.mem ⟨4,n,dd⟩).1,mem:=(zAJ m.dk m.mem ⟨4,n,dd⟩).2.1},(zAJ m.dk m.mem ⟨4,n,dd⟩).2.2):=by unfold applyD;rw [if_neg h0,if_neg (by simp),if_neg (by simp),if_pos rfl]
   refine InlC.of func42 rfl (by kernel_rfl) rfl ?_
   simp only [ntmps42,St.startI,argT];refine af1 (kX4 @hob @hj @m1 @m2) ?_;intros;apply wr;refine zAt @hh rfl ?_;intros;apply wr;refine zBM rfl ?_;intros;apply wr;refine zBM rfl ?_;intros;apply wr;refine zDK @hne rfl ?_;intros;apply wr;refine zBX (.node 0 10 (.leaf [0,1,2,3,4,5,6,7,8,9,10,11,12,13,14,15,16,17] (bN [0,0,2,6,14,0,32,96,224,0,1023,2047,4095,4095,8191,24575,57343,131071]) [(10,([[],[],[1],[1,2],[1,2,3],[],[5],[5,6],[5,6,7],[]],[])),(1,([],[])),(1,([],[])),(5,([[],[],[0],[0,2],[0,2,3]],[])),(1,([],[]))]) (.leaf [1,2,3,4,5,6,7,8,9,10,0,11,12,13,14,15,16,17] (bN [0,1,3,7,0,16,48,112,0,511,1023,1023,3071,3071,8191,24575,57343,131071]) [(9,([[],[0],[0,1],[0,1,2],[],[4],[4,5],[4,5,6],[]],[])),(1,([],[])),(7,([[],[],[1],[1],[0,1,2],[0,1,2,4],[0,1,2,4,5]],[])),(1,([],[]))])) (by kernel_rfl) (by kernel_rfl) ?_
   simp only [PT.run]
   repeat' (with_reducible apply And.intro)
   all_goals (simp only [zB0,zWb,List.map_nil,zWV,zWk];refine af1 (kX2 @hob @m1) ?_;intros;apply wr)
   all_goals
    first|refine .inr ((zFc j m.dk m.mem ⟨4,n,dd⟩ hM.d.f hM.w (by simp [lookO,m2,hj]) (by omega)).mono fun r nx' ob' hp=>?_)|refine (zFc j m.dk m.mem ⟨4,n,dd⟩ hM.d.f hM.w (by simp [lookO,m2,hj]) (by omega)).mono fun r nx' ob' hp=>?_|refine ((zFc j m.dk m.mem ⟨4,n,dd⟩ hM.d.f hM.w (by simp [lookO,m2,hj]) (by omega)).mono fun r nx' ob' hp=>?_).2
    simp only [aftI];obtain ⟨rfl,g1,g2,g3⟩:=hp;have y1:=g3 id (by omega) hne
    simp [lookO,m1,hob] at y1;simp;refine af1 @y1 ?_;intros;apply wr;refine zAB ?_;simp [hE];refine ⟨by omega,by simp [lookO],by simp [lookO,n1,g2],fun i h1 h2 h3=>?_⟩
    have ee:=g3 i (by omega) h3
    simp [lookO,show ¬ i=nx by omega] at ee
    simp [lookO,h2,ee]
  by_cases k5:k=5
  ·subst k5;by_cases hc:n=0
   ·subst hc;have hE:applyD m ⟨5,0,dd⟩=({m with nc:=(zAY m.nc m.mem dd).1,mem:=(zAY m.nc m.mem dd).2.1},(zAY m.nc m.mem dd).2.2):=by unfold applyD;rw [if_neg h0,if_neg (by simp),if_neg (by simp),if_neg (by simp),if_pos rfl,if_pos rfl]
    refine InlC.of func42 rfl (by kernel_rfl) rfl ?_
    simp only [ntmps42,St.startI,argT];refine af1 (kX4 @hob @hj @m1 @m2) ?_;intros;apply wr;refine zAt @hh rfl ?_;intros;apply wr;refine zBM rfl ?_;intros;apply wr;refine zBM rfl ?_;intros;apply wr;refine zBM rfl ?_;intros;apply wr;refine zDK @hne rfl ?_;intros;apply wr;refine zBX (.node 0 11 (.leaf [0,1,2,3,4,5,6,7,8,9,10,11,12,13,14,15,16,17,18] (bN [0,0,2,6,14,0,32,96,224,0,512,2047,4095,8191,8191,16383,49151,114687,262143]) [(11,([[],[],[1],[1,2],[1,2,3],[],[5],[5,6],[5,6,7],[],[9]],[])),(1,([],[])),(1,([],[])),(5,([[],[],[0],[0,2],[0,2,3]],[])),(1,([],[]))]) (.leaf [1,2,3,4,5,6,7,8,9,10,11,0,12,13,14,15,16,17,18] (bN [0,1,3,7,0,16,48,112,0,256,1023,2047,2047,6143,6143,16383,49151,114687,262143]) [(10,([[],[0],[0,1],[0,1,2],[],[4],[4,5],[4,5,6],[],[8]],[])),(1,([],[])),(7,([[],[],[1],[1],[0,1,2],[0,1,2,4],[0,1,2,4,5]],[])),(1,([],[]))])) (by kernel_rfl) (by kernel_rfl) ?_
    simp only [PT.run]
    repeat' (with_reducible apply And.intro)
    all_goals (simp only [zB0,zWb,List.map_nil,zWV,zWk];refine af1 (kX2 @hob @m1) ?_;intros;apply wr)
    all_goals
     first|refine .inr ((zFZ j m.nc m.mem dd hM.r.c hM.w hd (by simp [lookO,m2,hj]) (by omega)).mono fun r nx' ob' hp=>?_)|refine (zFZ j m.nc m.mem dd hM.r.c hM.w hd (by simp [lookO,m2,hj]) (by omega)).mono fun r nx' ob' hp=>?_|refine ((zFZ j m.nc m.mem dd hM.r.c hM.w hd (by simp [lookO,m2,hj]) (by omega)).mono fun r nx' ob' hp=>?_).2
     simp only [aftI];obtain ⟨rfl,g1,g2,g3⟩:=hp;have y1:=g3 id (by omega) hne
     simp [lookO,m1,hob] at y1;simp;refine af1 @y1 ?_;intros;apply wr;refine zAB ?_;simp [hE];refine ⟨by omega,by simp [lookO],by simp [lookO,n1,g2],fun i h1 h2 h3=>?_⟩
     have ee:=g3 i (by omega) h3
     simp [lookO,show ¬ i=nx by omega] at ee
     simp [lookO,h2,ee]
   have hE:applyD m ⟨5,n,dd⟩=(m,false):=by unfold applyD;rw [if_neg h0,if_neg (by simp),if_neg (by simp),if_neg (by simp),if_pos rfl,if_neg hc]
   refine InlC.of func42 rfl (by kernel_rfl) rfl ?_
   simp only [ntmps42,St.startI,argT];refine af1 (kX4 @hob @hj @m1 @m2) ?_;intros;apply wr;refine zAt @hh rfl ?_;intros;apply wr;refine zBM rfl ?_;intros;apply wr;refine zBM rfl ?_;intros;apply wr;refine zBM rfl ?_;intros;apply wr;refine zAt @hc rfl ?_;intros;apply wr;refine zBM rfl ?_;intros;apply wr;refine zAB ?_;simp [hE];exact ⟨by omega,by simp [lookO,hob,m1],by simp [lookO,n1,hj,m2],fun i h1 h2 h3=>by simp [lookO,h2,show ¬ i=nx by omega]⟩
  by_cases k6:k=6
  ·subst k6;by_cases hc:dd=[]
   ·subst hc;have hE:applyD m ⟨6,n,[]⟩=({m with tgt:=n},true):=by unfold applyD;rw [if_neg h0,if_neg (by simp),if_neg (by simp),if_neg (by simp),if_neg (by simp),if_pos rfl,if_pos rfl]
    refine InlC.of func42 rfl (by kernel_rfl) rfl ?_
    simp only [ntmps42,St.startI,argT];refine af1 (kX4 @hob @hj @m1 @m2) ?_;intros;apply wr;refine zAt @hh rfl ?_;intros;apply wr;refine zBM rfl ?_;intros;apply wr;refine zBM rfl ?_;intros;apply wr;refine zBM rfl ?_;intros;apply wr;refine zBM rfl ?_;intros;apply wr;refine gT01f rfl (kX2 @hob @m1) ?_;intros;apply wr;refine zAB ?_;simp [hE];exact ⟨by omega,by simp [lookO,hob,m1],by simp [lookO,n1,hj,m2],fun i h1 h2 h3=>by simp [lookO,h2,show ¬ i=nx by omega]⟩
   have hE:applyD m ⟨6,n,dd⟩=(m,false):=by unfold applyD;rw [if_neg h0,if_neg (by simp),if_neg (by simp),if_neg (by simp),if_neg (by simp),if_pos rfl,if_neg hc]
   refine InlC.of func42 rfl (by kernel_rfl) rfl ?_
   simp only [ntmps42,St.startI,argT];refine af1 (kX4 @hob @hj @m1 @m2) ?_;intros;apply wr;refine zAt @hh rfl ?_;intros;apply wr;refine zBM rfl ?_;intros;apply wr;refine zBM rfl ?_;intros;apply wr;refine zBM rfl ?_;intros;apply wr;refine zBM rfl ?_;intros;apply wr;refine zAt @hc rfl ?_;intros;apply wr;refine zAB ?_;simp [hE];exact ⟨by omega,by simp [lookO,hob,m1],by simp [lookO,n1,hj,m2],fun i h1 h2 h3=>by simp [lookO,h2,show ¬ i=nx by omega]⟩
  have hE:applyD m ⟨k,n,dd⟩=(m,false):=by unfold applyD;rw [if_neg h0,if_neg k2,if_neg k3,if_neg k4,if_neg k5,if_neg k6]
  refine InlC.of func42 rfl (by kernel_rfl) rfl ?_
  simp only [ntmps42,St.startI,argT];refine af1 (kX4 @hob @hj @m1 @m2) ?_;intros;apply wr;refine zAt @hh rfl ?_;intros;apply wr;refine zAt @k2 rfl ?_;intros;apply wr;refine zAt @k3 rfl ?_;intros;apply wr;refine zAt @k4 rfl ?_;intros;apply wr;refine zAt @k5 rfl ?_;intros;apply wr;refine zAt @k6 rfl ?_;intros;apply wr;refine zAB ?_;simp [hE];exact ⟨by omega,by simp [lookO,hob,m1],by simp [lookO,n1,hj,m2],fun i h1 h2 h3=>by simp [lookO,h2,show ¬ i=nx by omega]⟩
theorem zI9h (m:MchD) (h1:m.mem.length<=100000):zAD prog 40 [.st m.row] (.st (rowM m (.new 25 1 (ints .u32 m.mem)))):=by
 refine sX func40 ntmps40 ?_;intros;apply wr;refine cX (zMk m.mem h1) ?_;intros;apply wr;refine zAB ?_;simp
theorem zVV (m:MchD) (e:EvD) (hM:OkM m) (hmay:mayD m=true) (hn:W32 e.n) (hd:e.data.length<=100000):zAD prog 15 [.st m.row,.st e.row] (.tup [.st (applyD m e).1.row,.bool (applyD m e).2]):=by
 have ho:=zI9h m (by have:=hM.n;omega)
 have hm:=zQG m hM.gv.1 (by have:=hM.gv.2;omega)
 rw [hmay] at hm;refine sX func15 ntmps15 ?_;intros;apply wr;refine cX (ho) ?_;intros;apply wr;refine cn (hm) ?_;refine au ?_;intros;apply wr;refine gF00 rfl ?_;intros;apply wr
 first|refine .inr ((zG8 0 28 m e hM hmay hn hd (by simp [lookO]) (by simp [lookO]) (by omega) (by omega) (by decide)).mono fun r nx' ob' hp=>?_)|refine (zG8 0 28 m e hM hmay hn hd (by simp [lookO]) (by simp [lookO]) (by omega) (by omega) (by decide)).mono fun r nx' ob' hp=>?_|refine ((zG8 0 28 m e hM hmay hn hd (by simp [lookO]) (by simp [lookO]) (by omega) (by omega) (by decide)).mono fun r nx' ob' hp=>?_).2
 simp only [aftI];obtain ⟨rfl,p1,p2,p3,p4⟩:=hp;have y2:=p4 2 (by omega) (by decide) (by decide)
 simp [lookO] at y2;simp;refine au1 (kX2 @p2 @y2) ?_;intros;apply wr;refine zAI ?_;refine zAB ?_;have hf:∀ i,lookO (List.map (fun p:Nat × Option Ob=>(p.1,p.2.map fzO)) ob') i=(lookO ob' i).map fzO:=zDL ob'
 simp [hf,p3,fzO]
end Go.Proofs.YthjpcmecgjfilaaGreat
end
