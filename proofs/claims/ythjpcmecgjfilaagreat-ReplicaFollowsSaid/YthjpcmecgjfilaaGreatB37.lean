/- A part of the proof of ReplicaFollows. -/
import Derived.Test.YthjpcmecgjfilaaGreatB22
import Derived.Test.YthjpcmecgjfilaaGreatB25
import Derived.Test.YthjpcmecgjfilaaGreatB26
import Derived.Test.YthjpcmecgjfilaaGreatB36
set_option linter.unusedSimpArgs false
set_option linter.unusedVariables false
set_option maxHeartbeats 16000000
set_option maxRecDepth 100000
section
namespace Go.Proofs.YthjpcmecgjfilaaGreat
open Go.Ab Go.RowKit Tryz
theorem img_k {k:Int} (l:List Int) (h:k<2):ints .u32 (kW++List.replicate 85 0)++ints .u32 (zCP l)=ints .u32 (imgD k l):=by
 unfold imgD;rw [if_pos h];simp [ints]
theorem img_c {k:Int} (l:List Int) (h:¬ k<2):ints .u32 (zCP l)=ints .u32 (imgD k l):=by
 unfold imgD;rw [if_neg h]
theorem kW_s (i:Nat):ints .u32 (kW++List.replicate i 0)++[[V.int .u32 0]]=ints .u32 (kW++List.replicate (i+1) 0):=by
 rw [List.replicate_succ'];simp [ints]
theorem zR2 (kind:Int) (l:List Int) (hl:l.length<=60)
  (hrun:zAD prog 64 [.st (newD (imgD 1 l)).row,nilE,lv 87] (.tup [.st (itD (newD (imgD 1 l)) 87).row,.sl 4 false [],iv 0,iv 0])) :
  zAD prog 24 [iv kind,.sl 1 false (ints .i64 l)] (.st (mkD (kind % 3) l).row):=by
 have hr:=zAo kind 3 (by decide) (by decide)
 have hcode:=zRU l (by omega)
 have hcl:(ints .u32 (zCP l)).length=l.length:=by rw [zAM,zDb]
 have hil:=zIi (kind % 3) l;have hnew:=zVA (imgD (kind % 3) l) (by omega)
 have hmk:mkD (kind % 3) l=if kind % 3=1 then itD (newD (imgD (kind % 3) l)) 87 else newD (imgD (kind % 3) l):=rfl
 have hil2:¬ (256:Int)<((ints .u32 (imgD (kind % 3) l)).length:Int):=by rw [zAM];omega
 by_cases hk2:kind % 3<2
 ·have hap2:=img_k l hk2;by_cases hk1:kind % 3=1
  ·rw [hmk,if_pos hk1];rw [hk1] at hnew hap2 hil2 ⊢;refine sX func24 ntmps24 ?_;intros;apply wr;refine cX (hr) ?_;intros;apply wr;refine gT10 @hk2 rfl ?_;intros;apply wr;refine cX (As.kernel_ok) ?_;intros;apply wr;obtain ⟨I,hI⟩:∃ I:Nat->St->Prop,I=(fun kk ss=>∃ (i:Nat) ,i<=85/\kk=85-i/\(True)/\ss=⟨47,[(5,.own 3),(0,iv (kind % 3)),(1,.sl 1 false (ints .i64 l)),(4,.ptr 0 49 0 0)],6,[(3,some ⟨25,1,false,false,ints .u32 (kW++List.replicate i 0)⟩),(0,some ⟨42,49,true,false,[zMR0]⟩)],0⟩):=⟨_,rfl⟩
   refine lX I (id) (by rw [hI];exact ⟨0,by simp,rfl,trivial,rfl⟩) ?_
   intro kk ss hIk _
   rw [hI] at hIk;obtain ⟨i,hi,rfl,hx,rfl⟩:=hIk;have hL:(ints .u32 (kW++List.replicate i 0)).length=75+i:=by rw [zAM,zWL,List.length_replicate];rfl
   have hap:=kW_s i;refine au1 @hL ?_;intros;apply wr;refine zAC rfl (fun hh=>?_) (fun hh=>?_)
   ·simp at hh;refine au1 (kX3 @hL @hap @maxLen.eq_1) ?_;intros;apply wr;exact aX (fun x=>if x=3 then 7 else x) (by rw [hI];exact ⟨i+1,by omega,rfl,trivial,rfl⟩) (kX2 (zAA (n:=(i:Int)+1) (by omega) (by omega)) @hap)
   simp at hh;have hi85:i=85:=by omega
   subst hi85;generalize hZ:kW++List.replicate 85 0=Z at hL hap2 ⊢;refine au1 @hL ?_;intros;apply wr;refine cY (hcode) (kX4 @hL @hcl @maxLen.eq_1 @hap2) ?_;intros;apply wr;refine gF11 @hil2 rfl @hil2 ?_;intros;apply wr;refine cX (hnew) ?_;intros;apply wr;refine gT10 @hk1 rfl ?_;intros;apply wr;refine cX (hrun) ?_;intros;apply wr;refine zAI ?_;refine zAB ?_;simp
  rw [hmk,if_neg hk1];refine sX func24 ntmps24 ?_;intros;apply wr;refine cX (hr) ?_;intros;apply wr;refine gT10 @hk2 rfl ?_;intros;apply wr;refine cX (As.kernel_ok) ?_;intros;apply wr;obtain ⟨I,hI⟩:∃ I:Nat->St->Prop,I=(fun kk ss=>∃ (i:Nat) ,i<=85/\kk=85-i/\(True)/\ss=⟨47,[(5,.own 3),(0,iv (kind % 3)),(1,.sl 1 false (ints .i64 l)),(4,.ptr 0 49 0 0)],6,[(3,some ⟨25,1,false,false,ints .u32 (kW++List.replicate i 0)⟩),(0,some ⟨42,49,true,false,[zMR0]⟩)],0⟩):=⟨_,rfl⟩
  refine lX I (id) (by rw [hI];exact ⟨0,by simp,rfl,trivial,rfl⟩) ?_
  intro kk ss hIk _
  rw [hI] at hIk;obtain ⟨i,hi,rfl,hx,rfl⟩:=hIk;have hL:(ints .u32 (kW++List.replicate i 0)).length=75+i:=by rw [zAM,zWL,List.length_replicate];rfl
  have hap:=kW_s i;refine au1 @hL ?_;intros;apply wr;refine zAC rfl (fun hh=>?_) (fun hh=>?_)
  ·simp at hh;refine au1 (kX3 @hL @hap @maxLen.eq_1) ?_;intros;apply wr;exact aX (fun x=>if x=3 then 7 else x) (by rw [hI];exact ⟨i+1,by omega,rfl,trivial,rfl⟩) (kX2 (zAA (n:=(i:Int)+1) (by omega) (by omega)) @hap)
  simp at hh;have hi85:i=85:=by omega
  subst hi85;generalize hZ:kW++List.replicate 85 0=Z at hL hap2 ⊢;refine au1 @hL ?_;intros;apply wr;refine cY (hcode) (kX4 @hL @hcl @maxLen.eq_1 @hap2) ?_;intros;apply wr;refine gF11 @hil2 rfl @hil2 ?_;intros;apply wr;refine cX (hnew) ?_;intros;apply wr;refine gF10 @hk1 rfl ?_;intros;apply wr;refine zAI ?_;refine zAB ?_;simp
 have hap2:=img_c l hk2;rw [hmk,if_neg (by omega)]
 refine sX func24 ntmps24 ?_;intros;apply wr;refine cX (hr) ?_;intros;apply wr;refine gF10 @hk2 rfl ?_;intros;apply wr;refine cY (hcode) (kX3 @hcl @maxLen.eq_1 @hap2) ?_;intros;apply wr;refine gF11 @hil2 rfl @hil2 ?_;intros;apply wr;refine cX (hnew) ?_;intros;apply wr;have hk1:¬ kind % 3=1:=by omega
 refine gF10 @hk1 rfl ?_;intros;apply wr;refine zAI ?_;refine zAB ?_;simp
def aftM (m:MchD) (c:CpuD) (l:List Int):MchD:={m with cpu:=c,mem:=l,waiting:=false}
theorem zOK (m:MchD):zBg m=aftM m (zAl (zAK m).cpu m.mem).1 (zAl (zAK m).cpu m.mem).2.1:=by
 unfold zBg aftM;have h:({zAK m with cpu:=m.cpu}:MchD)={m with waiting:=false}:=by
  unfold zAK;split
  ·rfl
  split<;>rfl
 have h2:=congrArg (fun x:MchD=>({x with cpu:=(zAl (zAK m).cpu m.mem).1,mem:=(zAl (zAK m).cpu m.mem).2.1}:MchD)) h
 exact h2
theorem zI2 {nx:Nat} {ob:List (Nat × Option Ob)} (id j:Nat) (m A:MchD) (c2:CpuD) (M2:List Int) (e:EffD) (hM:OkM m) (hob:lookO ob id=some (mchO m (.own j))) (hj:lookO ob j=some (memO m.mem)) (hi:id<nx) (hjn:j<nx) (hne:id≠j)
  (hdo:∀ {nx:Nat} {ob:List (Nat × Option Ob)},lookO ob j=some (memO m.mem)->j<nx->InlC prog 169 [.st (zAK m).cpu.row,.own j] nx ob fun r nx' ob'=>r=.tup [.st c2.row,.st e.row]/\zEZ nx ob j M2 nx' ob')
  (hk:(e.kind=0/\A=aftM m c2 M2)\/(e.kind=2/\A.count=m.count/\∀ {nx:Nat} {ob:List (Nat × Option Ob)},lookO ob id=some (mchO (aftM m c2 M2) (.own j))->lookO ob j=some (memO M2)->id<nx->j<nx->InlC prog 172 [.ptr id 49 0 0,iv e.port,uv e.val] nx ob fun r nx' ob'=>(r=.sl 0 true []\/r=.sl 4 false [])/\zCv nx ob id j A nx' ob')) :
  InlC prog 123 [.ptr id 49 0 0,uv 0] nx ob fun r nx' ob'=>(r=.sl 0 true []\/r=.sl 4 false [])/\zCv nx ob id j {A with count:=m.count+1} nx' ob':=by
 have n1:¬ j=id:=fun e=>hne e.symm
 have k1:¬ id=nx+25:=by omega
 have k2:¬ id=nx+25+1:=by omega
 have k3:¬ nx+25=id:=by omega
 have k4:¬ nx+25+1=id:=by omega
 have l1:¬ j=nx+25:=by omega
 have l2:¬ j=nx+25+1:=by omega
 have l3:¬ nx+25=j:=by omega
 have l4:¬ nx+25+1=j:=by omega
 have hC:=zFK hM;have hct:IntKind.u64.wrap (m.count+1)=m.count+1:=u64_in (by have:=hM.ct;omega) (by have:=hM.ct;omega)
 refine InlC.of func123 rfl (by kernel_rfl) rfl ?_
 simp only [ntmps123,St.startI,argT];refine au1 (kX2 @hob @hj) ?_;intros;apply wr;refine cn1 (zQC m hM) (kX2 @hob @hj) ?_;refine au1 (kX3 @hob @hj @n1) ?_;intros;apply wr;refine zBX (.node 8 12 (.node 8 13 (.node 12 13 (.leaf [0,1,2,3,4,5,6,7,8,9,10,11,12,13,14,15] (bN [0,1,3,7,0,16,48,112,255,511,1023,1023,511,4607,14335,32767]) [(8,([[],[0],[0,1],[0,1,2],[],[4],[4,5],[4,5,6]],[])),(1,([],[])),(6,([[],[0],[0],[],[3],[0,1,3,4]],[])),(1,([],[]))]) (.leaf [0,1,2,3,4,5,6,7,8,9,10,11,13,12,14,15] (bN [0,1,3,7,0,16,48,112,255,511,1023,1023,511,4607,14335,32767]) [(8,([[],[0],[0,1],[0,1,2],[],[4],[4,5],[4,5,6]],[])),(1,([],[])),(6,([[],[0],[0],[],[3],[0,1,3,4]],[])),(1,([],[]))])) (.leaf [0,1,2,3,4,5,6,7,13,8,9,10,11,12,14,15] (bN [0,1,3,7,0,16,48,112,0,511,1023,2047,2047,1023,12287,32767]) [(9,([[],[0],[0,1],[0,1,2],[],[4],[4,5],[4,5,6],[]],[(3,8),(7,8)])),(1,([],[])),(5,([[],[0],[0],[],[0,1,3]],[])),(1,([],[]))])) (.node 12 13 (.node 8 13 (.leaf [0,1,2,3,4,5,6,7,12,8,9,10,11,13,14,15] (bN [0,1,3,7,0,16,48,112,0,511,1023,2047,2047,1023,12287,32767]) [(9,([[],[0],[0,1],[0,1,2],[],[4],[4,5],[4,5,6],[]],[(3,8),(7,8)])),(1,([],[])),(5,([[],[0],[0],[],[0,1,3]],[])),(1,([],[]))]) (.leaf [0,1,2,3,4,5,6,7,12,13,8,9,10,11,14,15] (bN [0,1,3,7,0,16,48,112,0,256,1023,2047,4095,4095,8191,32767]) [(10,([[],[0],[0,1],[0,1,2],[],[4],[4,5],[4,5,6],[],[8]],[(3,8),(3,9),(7,8),(7,9)])),(1,([],[])),(1,([],[])),(3,([[],[],[0]],[])),(1,([],[]))])) (.leaf [0,1,2,3,4,5,6,7,13,12,8,9,10,11,14,15] (bN [0,1,3,7,0,16,48,112,0,256,1023,2047,4095,4095,8191,32767]) [(10,([[],[0],[0,1],[0,1,2],[],[4],[4,5],[4,5,6],[],[8]],[(3,8),(3,9),(7,8),(7,9)])),(1,([],[])),(1,([],[])),(3,([[],[],[0]],[])),(1,([],[]))]))) (by kernel_rfl) (by kernel_rfl) ?_
 simp only [PT.run]
 repeat' (with_reducible apply And.intro)
 all_goals (simp only [zB0,zWb,List.map_nil,zWV,zWk];refine af1 (kX11 @hob @hj @n1 @k1 @k2 @k3 @k4 @l1 @l2 @l3 @l4) ?_;intros;apply wr)
 iterate 2
  ·first|refine .inr ((hdo (by simp [lookO,n1,hj,l1,l2,l3,l4]) (by omega)).mono fun r nx' ob' hp=>?_)|refine (hdo (by simp [lookO,n1,hj,l1,l2,l3,l4]) (by omega)).mono fun r nx' ob' hp=>?_|refine ((hdo (by simp [lookO,n1,hj,l1,l2,l3,l4]) (by omega)).mono fun r nx' ob' hp=>?_).2
   simp only [aftI];obtain ⟨rfl,g1,g2,g3⟩:=hp;have y1:=g3 id (by omega) hne
   simp [lookO,k1,k2,k3,k4,l1,l2,l3,l4] at y1;have p1:¬ id=nx':=by omega
   have p2:¬ nx'=id:=by omega
   have p3:¬ id=nx'+1:=by omega
   have p4:¬ nx'+1=id:=by omega
   have q1:¬ j=nx':=by omega
   have q2:¬ j=nx'+1:=by omega
   simp;refine af1 (kX9 @y1 @p1 @p2 @p3 @p4 @k1 @k2 @k3 @k4) ?_;intros;apply wr;rcases hk with ⟨hk0,rfl⟩|⟨hk2,hcA,hout⟩
   ·refine zAt @hk0 rfl ?_;intros;apply wr;refine zAt @hk0 rfl ?_;intros;apply wr;refine zAt @hk0 rfl ?_;intros;apply wr;refine zEM @hk0 rfl (kX9 @y1 @p1 @p2 @p3 @p4 @k1 @k2 @k3 @k4) ?_;intros;apply wr;refine zAB ?_;simp [hct];refine ⟨by omega,by simp [lookO,aftM],by simp [lookO,n1,q1,q2,l1,l2,g2,aftM],fun i h1 h2 h3=>?_⟩
    have a1:¬ i=nx':=by omega
    have a2:¬ i=nx'+1:=by omega
    have a3:¬ i=nx+25:=by omega
    have a4:¬ i=nx+25+1:=by omega
    have ee:=g3 i (by omega) h3
    simp [lookO,a1,a2,a3,a4,h2] at ee;simp [lookO,a1,a2,a3,a4,h2,ee]
   refine zAt @hk2 rfl ?_;intros;apply wr;refine zC0 @hk2 rfl (kX9 @y1 @p1 @p2 @p3 @p4 @k1 @k2 @k3 @k4) ?_;intros;apply wr;obtain ⟨na,rfl⟩:∃ na,na=nx':=⟨_,rfl⟩;obtain ⟨oa,rfl⟩:∃ oa,oa=ob':=⟨_,rfl⟩
   first|refine .inr ((hout (by simp [lookO,aftM]) (by simp [lookO,n1,q1,q2,l1,l2,g2]) (by omega) (by omega)).mono fun r nx' ob' hp=>?_)|refine (hout (by simp [lookO,aftM]) (by simp [lookO,n1,q1,q2,l1,l2,g2]) (by omega) (by omega)).mono fun r nx' ob' hp=>?_|refine ((hout (by simp [lookO,aftM]) (by simp [lookO,n1,q1,q2,l1,l2,g2]) (by omega) (by omega)).mono fun r nx' ob' hp=>?_).2
   simp only [aftI];obtain ⟨hr,b1,b2,b3,b4⟩:=hp;rcases hr with rfl|rfl
   ·simp;refine af1 (kX2 @b2 @hcA) ?_;intros;apply wr;refine zAB ?_;simp [hct];refine ⟨by omega,by simp [lookO],by simp [lookO,n1,b3],fun i h1 h2 h3=>?_⟩
    have a1:¬ i=na:=by omega
    have a2:¬ i=na+1:=by omega
    have a3:¬ i=nx+25:=by omega
    have a4:¬ i=nx+25+1:=by omega
    have ee:=g3 i (by omega) h3
    have e2:=b4 i (by omega) h2 h3
    simp [lookO,a1,a2,a3,a4,h2] at ee e2;simp [lookO,a1,a2,a3,a4,h2,ee,e2]
   simp;refine af1 (kX2 @b2 @hcA) ?_;intros;apply wr;refine zAB ?_;simp [hct];refine ⟨by omega,by simp [lookO],by simp [lookO,n1,b3],fun i h1 h2 h3=>?_⟩
   have a1:¬ i=na:=by omega
   have a2:¬ i=na+1:=by omega
   have a3:¬ i=nx+25:=by omega
   have a4:¬ i=nx+25+1:=by omega
   have ee:=g3 i (by omega) h3
   have e2:=b4 i (by omega) h2 h3
   simp [lookO,a1,a2,a3,a4,h2] at ee e2;simp [lookO,a1,a2,a3,a4,h2,ee,e2]
 iterate 2
  ·first|refine .inr ((hdo (by simp [lookO,n1,hj,l1,l2,l3,l4]) (by omega)).mono fun r nx' ob' hp=>?_)|refine (hdo (by simp [lookO,n1,hj,l1,l2,l3,l4]) (by omega)).mono fun r nx' ob' hp=>?_|refine ((hdo (by simp [lookO,n1,hj,l1,l2,l3,l4]) (by omega)).mono fun r nx' ob' hp=>?_).2
   simp only [aftI];obtain ⟨rfl,g1,g2,g3⟩:=hp;have y1:=g3 id (by omega) hne
   have y2:=g3 (nx+25) (by omega) l3
   simp [lookO,k1,k2,k3,k4,l1,l2,l3,l4] at y1;simp [lookO,k1,k2,k3,k4,l1,l2,l3,l4] at y2;have p1:¬ id=nx':=by omega
   have p2:¬ nx'=id:=by omega
   have p3:¬ id=nx'+1:=by omega
   have p4:¬ nx'+1=id:=by omega
   have q1:¬ j=nx':=by omega
   have q2:¬ j=nx'+1:=by omega
   have r1:¬ nx+25=nx':=by omega
   have r2:¬ nx'=nx+25:=by omega
   simp;refine af1 (kX12 @y1 @y2 @p1 @p2 @p3 @p4 @k1 @k2 @k3 @k4 @r1 @r2) ?_;intros;apply wr;rcases hk with ⟨hk0,rfl⟩|⟨hk2,hcA,hout⟩
   ·refine zAt @hk0 rfl ?_;intros;apply wr;refine zAt @hk0 rfl ?_;intros;apply wr;refine zAt @hk0 rfl ?_;intros;apply wr;refine zEM @hk0 rfl (kX12 @y1 @y2 @p1 @p2 @p3 @p4 @k1 @k2 @k3 @k4 @r1 @r2) ?_;intros;apply wr;refine zAB ?_;simp [hct];refine ⟨by omega,by simp [lookO,aftM],by simp [lookO,n1,q1,q2,l1,l2,g2,aftM],fun i h1 h2 h3=>?_⟩
    have a1:¬ i=nx':=by omega
    have a2:¬ i=nx'+1:=by omega
    have a3:¬ i=nx+25:=by omega
    have a4:¬ i=nx+25+1:=by omega
    have ee:=g3 i (by omega) h3
    simp [lookO,a1,a2,a3,a4,h2] at ee;simp [lookO,a1,a2,a3,a4,h2,ee]
   refine zAt @hk2 rfl ?_;intros;apply wr;refine zC0 @hk2 rfl (kX12 @y1 @y2 @p1 @p2 @p3 @p4 @k1 @k2 @k3 @k4 @r1 @r2) ?_;intros;apply wr;obtain ⟨na,rfl⟩:∃ na,na=nx':=⟨_,rfl⟩;obtain ⟨oa,rfl⟩:∃ oa,oa=ob':=⟨_,rfl⟩
   first|refine .inr ((hout (by simp [lookO,aftM]) (by simp [lookO,n1,q1,q2,l1,l2,g2]) (by omega) (by omega)).mono fun r nx' ob' hp=>?_)|refine (hout (by simp [lookO,aftM]) (by simp [lookO,n1,q1,q2,l1,l2,g2]) (by omega) (by omega)).mono fun r nx' ob' hp=>?_|refine ((hout (by simp [lookO,aftM]) (by simp [lookO,n1,q1,q2,l1,l2,g2]) (by omega) (by omega)).mono fun r nx' ob' hp=>?_).2
   simp only [aftI];obtain ⟨hr,b1,b2,b3,b4⟩:=hp;rcases hr with rfl|rfl
   ·simp;refine af1 (kX2 @b2 @hcA) ?_;intros;apply wr;refine zAB ?_;simp [hct];refine ⟨by omega,by simp [lookO],by simp [lookO,n1,b3],fun i h1 h2 h3=>?_⟩
    have a1:¬ i=na:=by omega
    have a2:¬ i=na+1:=by omega
    have a3:¬ i=nx+25:=by omega
    have a4:¬ i=nx+25+1:=by omega
    have ee:=g3 i (by omega) h3
    have e2:=b4 i (by omega) h2 h3
    simp [lookO,a1,a2,a3,a4,h2] at ee e2;simp [lookO,a1,a2,a3,a4,h2,ee,e2]
   simp;refine af1 (kX2 @b2 @hcA) ?_;intros;apply wr;refine zAB ?_;simp [hct];refine ⟨by omega,by simp [lookO],by simp [lookO,n1,b3],fun i h1 h2 h3=>?_⟩
   have a1:¬ i=na:=by omega
   have a2:¬ i=na+1:=by omega
   have a3:¬ i=nx+25:=by omega
   have a4:¬ i=nx+25+1:=by omega
   have ee:=g3 i (by omega) h3
   have e2:=b4 i (by omega) h2 h3
   simp [lookO,a1,a2,a3,a4,h2] at ee e2;simp [lookO,a1,a2,a3,a4,h2,ee,e2]
 iterate 2
  ·first|refine .inr ((hdo (by simp [lookO,n1,hj,l1,l2,l3,l4]) (by omega)).mono fun r nx' ob' hp=>?_)|refine (hdo (by simp [lookO,n1,hj,l1,l2,l3,l4]) (by omega)).mono fun r nx' ob' hp=>?_|refine ((hdo (by simp [lookO,n1,hj,l1,l2,l3,l4]) (by omega)).mono fun r nx' ob' hp=>?_).2
   simp only [aftI];obtain ⟨rfl,g1,g2,g3⟩:=hp;have y1:=g3 id (by omega) hne
   have y2:=g3 (nx+25) (by omega) l3
   have y3:=g3 (nx+25+1) (by omega) l4
   simp [lookO,k1,k2,k3,k4,l1,l2,l3,l4] at y1;simp [lookO,k1,k2,k3,k4,l1,l2,l3,l4] at y2;simp [lookO,k1,k2,k3,k4,l1,l2,l3,l4] at y3;have p1:¬ id=nx':=by omega
   have p2:¬ nx'=id:=by omega
   have p3:¬ id=nx'+1:=by omega
   have p4:¬ nx'+1=id:=by omega
   have q1:¬ j=nx':=by omega
   have q2:¬ j=nx'+1:=by omega
   simp;refine af1 (kX11 @y1 @y2 @y3 @p1 @p2 @p3 @p4 @k1 @k2 @k3 @k4) ?_;intros;apply wr;rcases hk with ⟨hk0,rfl⟩|⟨hk2,hcA,hout⟩
   ·refine zAt @hk0 rfl ?_;intros;apply wr;refine zAt @hk0 rfl ?_;intros;apply wr;refine zAt @hk0 rfl ?_;intros;apply wr;refine zEM @hk0 rfl (kX11 @y1 @y2 @y3 @p1 @p2 @p3 @p4 @k1 @k2 @k3 @k4) ?_;intros;apply wr;refine zAB ?_;simp [hct];refine ⟨by omega,by simp [lookO,aftM],by simp [lookO,n1,q1,q2,l1,l2,g2,aftM],fun i h1 h2 h3=>?_⟩
    have a1:¬ i=nx':=by omega
    have a2:¬ i=nx'+1:=by omega
    have a3:¬ i=nx+25:=by omega
    have a4:¬ i=nx+25+1:=by omega
    have ee:=g3 i (by omega) h3
    simp [lookO,a1,a2,a3,a4,h2] at ee;simp [lookO,a1,a2,a3,a4,h2,ee]
   refine zAt @hk2 rfl ?_;intros;apply wr;refine zC0 @hk2 rfl (kX11 @y1 @y2 @y3 @p1 @p2 @p3 @p4 @k1 @k2 @k3 @k4) ?_;intros;apply wr;obtain ⟨na,rfl⟩:∃ na,na=nx':=⟨_,rfl⟩;obtain ⟨oa,rfl⟩:∃ oa,oa=ob':=⟨_,rfl⟩
   first|refine .inr ((hout (by simp [lookO,aftM]) (by simp [lookO,n1,q1,q2,l1,l2,g2]) (by omega) (by omega)).mono fun r nx' ob' hp=>?_)|refine (hout (by simp [lookO,aftM]) (by simp [lookO,n1,q1,q2,l1,l2,g2]) (by omega) (by omega)).mono fun r nx' ob' hp=>?_|refine ((hout (by simp [lookO,aftM]) (by simp [lookO,n1,q1,q2,l1,l2,g2]) (by omega) (by omega)).mono fun r nx' ob' hp=>?_).2
   simp only [aftI];obtain ⟨hr,b1,b2,b3,b4⟩:=hp;rcases hr with rfl|rfl
   ·simp;refine af1 (kX2 @b2 @hcA) ?_;intros;apply wr;refine zAB ?_;simp [hct];refine ⟨by omega,by simp [lookO],by simp [lookO,n1,b3],fun i h1 h2 h3=>?_⟩
    have a1:¬ i=na:=by omega
    have a2:¬ i=na+1:=by omega
    have a3:¬ i=nx+25:=by omega
    have a4:¬ i=nx+25+1:=by omega
    have ee:=g3 i (by omega) h3
    have e2:=b4 i (by omega) h2 h3
    simp [lookO,a1,a2,a3,a4,h2] at ee e2;simp [lookO,a1,a2,a3,a4,h2,ee,e2]
   simp;refine af1 (kX2 @b2 @hcA) ?_;intros;apply wr;refine zAB ?_;simp [hct];refine ⟨by omega,by simp [lookO],by simp [lookO,n1,b3],fun i h1 h2 h3=>?_⟩
   have a1:¬ i=na:=by omega
   have a2:¬ i=na+1:=by omega
   have a3:¬ i=nx+25:=by omega
   have a4:¬ i=nx+25+1:=by omega
   have ee:=g3 i (by omega) h3
   have e2:=b4 i (by omega) h2 h3
   simp [lookO,a1,a2,a3,a4,h2] at ee e2;simp [lookO,a1,a2,a3,a4,h2,ee,e2]
theorem zT1 {nx:Nat} {ob:List (Nat × Option Ob)} (id j:Nat) (m:MchD) (hM:OkM m) (hob:lookO ob id=some (mchO m (.own j))) (hj:lookO ob j=some (memO m.mem)) (hi:id<nx) (hjn:j<nx) (hne:id≠j) (hq:zKQ m=true) (hsl:zSq m=true) :
  InlC prog 123 [.ptr id 49 0 0,uv 0] nx ob fun r nx' ob'=>(r=.sl 0 true []\/r=.sl 4 false [])/\zCv nx ob id j (goD m 0).1 nx' ob':=by
 have hsl1:zDX (zAK m).cpu=false:=by unfold zSq at hsl;simp only [zWJ,zWl] at hsl;exact hsl.1
 have hsl2:sOp (decI (wAt (zAE (zAK m).cpu m.mem (zAK m).cpu.pc 4 1).2.1 ((zAE (zAK m).cpu m.mem (zAK m).cpu.pc 4 1).1 / 4))).op:=by
  unfold zSq at hsl;simp only [zWJ] at hsl;have h2:=hsl.2;simp only [List.contains_cons,List.contains_nil,Bool.or_eq_true,beq_iff_eq,Bool.or_false] at h2;exact h2
 have hdo:∀ {nx:Nat} {ob:List (Nat × Option Ob)},lookO ob j=some (memO m.mem)->j<nx->InlC prog 169 [.st (zAK m).cpu.row,.own j] nx ob fun r nx' ob'=>r=.tup [.st (zAl (zAK m).cpu m.mem).1.row,.st (zAl (zAK m).cpu m.mem).2.2.row]/\zEZ nx ob j (zAl (zAK m).cpu m.mem).2.1 nx' ob':=fun h1 h2=>rdo_ok j (zAK m).cpu m.mem (zFK hM) hM.w hsl1 hsl2 h1 h2
 have hgo:(goD m 0).1={(zBH (aftM m (zAl (zAK m).cpu m.mem).1 (zAl (zAK m).cpu m.mem).2.1) (zAl (zAK m).cpu m.mem).2.2 0 m.count).1 with count:=(zBH (aftM m (zAl (zAK m).cpu m.mem).1 (zAl (zAK m).cpu m.mem).2.1) (zAl (zAK m).cpu m.mem).2.2 0 m.count).1.count+1}:=by
  unfold goD;rw [zOK];rfl
 have hMA:=(zF6 hM).1;rw [zOK] at hMA;unfold zKQ effD at hq;generalize zAl (zAK m).cpu m.mem=E at *
 obtain ⟨c2,M2,e⟩:=E;simp only [Bool.or_eq_true,zWJ,decide_eq_true_eq] at hdo hgo hMA hq;rcases hq with hk|⟨hk,hp⟩
 ·have hd:zBH (aftM m c2 M2) e 0 m.count=(aftM m c2 M2,[]):=by
   unfold zBH;rw [if_neg (by omega),if_neg (by omega),if_neg (by omega),if_neg (by omega)]
  rw [hd] at hgo;rw [hgo];exact zI2 id j m (aftM m c2 M2) c2 M2 e hM hob hj hi hjn hne hdo (.inl ⟨hk,rfl⟩)
 have hd:zBH (aftM m c2 M2) e 0 m.count=zAL (aftM m c2 M2) e.port e.val m.count:=by
  unfold zBH;rw [if_neg (by omega),if_pos hk]
 rw [hd] at hgo;rcases hp with (hp|hp)|⟨hp,hv⟩
 ·have hw:(zAL (aftM m c2 M2) e.port e.val m.count).1={aftM m c2 M2 with tim:=armD e.val}:=by unfold zAL;rw [hp];rfl
  rw [hw] at hgo;rw [hgo];refine zI2 id j m {aftM m c2 M2 with tim:=armD e.val} c2 M2 e hM hob hj hi hjn hne hdo (.inr ⟨hk,rfl,fun h1 h2 h3 h4=>?_⟩)
  rw [hp];exact (zSg id j (aftM m c2 M2) e.val h1 h2 h3 h4 hne).mono fun r nx' ob' h=>⟨.inl h.1,h.2⟩
 ·have hw:(zAL (aftM m c2 M2) e.port e.val m.count).1={aftM m c2 M2 with nc:=(zAb (aftM m c2 M2).nc (aftM m c2 M2).mem 7 e.val (aftM m c2 M2).count).1}:=by unfold zAL;rw [hp];rfl
  rw [hw] at hgo;rw [hgo];refine zI2 id j m {aftM m c2 M2 with nc:=(zAb (aftM m c2 M2).nc (aftM m c2 M2).mem 7 e.val (aftM m c2 M2).count).1} c2 M2 e hM hob hj hi hjn hne hdo (.inr ⟨hk,rfl,fun h1 h2 h3 h4=>?_⟩)
  rw [hp];exact (zSh id j (aftM m c2 M2) e.val hMA h1 h2 h3 h4 hne).mono fun r nx' ob' h=>⟨.inr h.1,h.2⟩
 have hw:(zAL (aftM m c2 M2) e.port e.val m.count).1={aftM m c2 M2 with nc:=(zAb (aftM m c2 M2).nc (aftM m c2 M2).mem 9 e.val (aftM m c2 M2).count).1}:=by unfold zAL;rw [hp];rfl
 rw [hw] at hgo;rw [hgo];refine zI2 id j m {aftM m c2 M2 with nc:=(zAb (aftM m c2 M2).nc (aftM m c2 M2).mem 9 e.val (aftM m c2 M2).count).1} c2 M2 e hM hob hj hi hjn hne hdo (.inr ⟨hk,rfl,fun h1 h2 h3 h4=>?_⟩)
 rw [hp];exact (zSi id j (aftM m c2 M2) e.val hMA h1 h2 h3 h4 hne hv).mono fun r nx' ob' h=>⟨.inr h.1,h.2⟩
theorem zVh (l:List Int) (hl:l.length<=60):zAD prog 64 [.st (newD (imgD 1 l)).row,nilE,lv 87] (.tup [.st (itD (newD (imgD 1 l)) 87).row,.sl 4 false [],iv 0,iv 0]):=by
 have hi:=zIi 1 l;have h1:=zTd (zTU 1 l) (by omega)
 have h2:=zMV (w:=imgD 1 l) (by omega)
 have hq:∀ j<87,zG7 (itD (newD (imgD 1 l)) j)=true:=by
  intro j hj
  rw [zTc l hl];exact List.all_eq_true.1 (k_q1 fun i=>(zCP l).getD i 0) j (List.mem_range.2 hj)
 have h0:(newD (imgD 1 l)).count=0:=rfl;generalize newD (imgD 1 l)=m at *
 have hit:∀ k≤87,OkM (itD m k)/\mayD (itD m k)=true/\(itD m k).count=k/\(itD m k).dk=m.dk:=fun k hk=>it_ok h1 h2 h0 k (by omega) fun j hj=>hq j (by omega)
 refine run_ok m 87 h2 ⟨h1.gv.1,by have:=h1.gv.2;omega⟩ h0 (by omega) (by have:=h1.n;omega) (fun k hk=>?_) (fun k hk=>(hit k hk).2.2.1) (fun k hk=>zSc _ (hit k (by omega)).1) (fun k hk=>zQL _ (hit k (by omega)).1) (zI9 m (by have:=h1.n;omega)) (fun k hk {nx ob} id j g1 g2 g3 g4 g5=>?_)
 ·have q:=hq k hk;unfold zG7 at q;simp only [zWJ,zWl] at q;exact ⟨q.1,q.2.1,q.2.2.1⟩
 have q:=hq k hk;unfold zG7 at q;simp only [zWJ,zWl] at q;exact zT1 id j (itD m k) (hit k (by omega)).1 g1 g2 g3 g4 g5 q.2.2.2.1 q.2.2.2.2
theorem zMQ (kind:Int) (l:List Int) (hl:l.length<=60):zAD prog 24 [iv kind,.sl 1 false (ints .i64 l)] (.st (mkD (kind % 3) l).row):=zR2 kind l hl (zVh l hl)
end Go.Proofs.YthjpcmecgjfilaaGreat
end
section
namespace Go.Proofs.YthjpcmecgjfilaaGreat

end Go.Proofs.YthjpcmecgjfilaaGreat
end
