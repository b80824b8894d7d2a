/- A part of the proof of ReplicaBare+ReplicaWindow. -/
import Derived.Test.YtoondlebmacanaaGreatB33
import Derived.Test.YtoondlebmacanaaGreatB44
import Derived.Test.YtoondlebmacanaaGreatB48
set_option linter.unusedSimpArgs false
set_option linter.unusedVariables false
set_option maxHeartbeats 16000000
set_option maxRecDepth 100000
section
namespace Go.Proofs.YtoondlebmacanaaGreat
open Go.Ab Go.RowKit
def aftM (m:MchD) (c:CpuD) (l:List Int):MchD:={m with cpu:=c,mem:=l,waiting:=false}
theorem zTe (m:MchD):zCC m=aftM m (zAr (zAO m).cpu m.mem).1 (zAr (zAO m).cpu m.mem).2.1:=by
 unfold zCC aftM;have h:({zAO m with cpu:=m.cpu}:MchD)={m with waiting:=false}:=by
  unfold zAO;split
  ·rfl
  split<;>rfl
 have h2:=congrArg (fun x:MchD=>({x with cpu:=(zAr (zAO m).cpu m.mem).1,mem:=(zAr (zAO m).cpu m.mem).2.1}:MchD)) h
 exact h2
theorem zCZ {nx:Nat} {ob:List (Nat × Option Ob)} (id j:Nat) (m:MchD) (clock:Int) (hM:OkM m) (hob:lookO ob id=some (mchO m (.own j))) (hj:lookO ob j=some (memO m.mem)) (hi:id<nx) (hjn:j<nx) (hne:id≠j) :
  InlC Tryz.prog 86 [.ptr id 49 0 0,uv clock] nx ob fun r nx' ob'=>zN8 nx ob id j (goD m clock) r nx' ob':=by
 have n1:¬ j=id:=fun e=>hne e.symm
 have k1:¬ id=nx+25:=by omega
 have k2:¬ id=nx+25+1:=by omega
 have k3:¬ nx+25=id:=by omega
 have k4:¬ nx+25+1=id:=by omega
 have l1:¬ j=nx+25:=by omega
 have l2:¬ j=nx+25+1:=by omega
 have l3:¬ nx+25=j:=by omega
 have l4:¬ nx+25+1=j:=by omega
 have hC:=zGY hM;have hct:IntKind.u64.wrap (m.count+1)=m.count+1:=u64_in (by have:=hM.ct;omega) (by have:=hM.ct;omega)
 have hdo:∀ {nx:Nat} {ob:List (Nat × Option Ob)},lookO ob j=some (memO m.mem)→j<nx→InlC Tryz.prog 143 [.st (zAO m).cpu.row,.own j] nx ob fun r nx' ob'=>r=.tup [.st (zAr (zAO m).cpu m.mem).1.row,.st (zAr (zAO m).cpu m.mem).2.2.row]∧zBm nx ob j (zAr (zAO m).cpu m.mem).2.1 nx' ob':=fun h1 h2=>rdo_ok j (zAO m).cpu m.mem hC hM.w h1 h2
 obtain ⟨hMA,hEf⟩:=zGC hM;have hgo:goD m clock=({(zBQ (aftM m (zAr (zAO m).cpu m.mem).1 (zAr (zAO m).cpu m.mem).2.1) (zAr (zAO m).cpu m.mem).2.2 clock m.count).1 with count:=(zBQ (aftM m (zAr (zAO m).cpu m.mem).1 (zAr (zAO m).cpu m.mem).2.1) (zAr (zAO m).cpu m.mem).2.2 clock m.count).1.count+1},(zBQ (aftM m (zAr (zAO m).cpu m.mem).1 (zAr (zAO m).cpu m.mem).2.1) (zAr (zAO m).cpu m.mem).2.2 clock m.count).2):=by
  unfold goD;rw [zTe];rfl
 rw [zTe] at hMA;unfold effD at hEf;generalize zAr (zAO m).cpu m.mem=E at *
 obtain ⟨c2,M2,e⟩:=E;simp only at hdo hgo hMA hEf;refine InlC.of Tryz.func86 rfl (by kernel_rfl) rfl ?_
 simp only [Tryz.ntmps86,St.startI,argT];refine au1 (kX2 @hob @hj) ?_;(repeat intro K hK);apply wr
 refine cn1 (zQJ m hM) (kX2 @hob @hj) ?_;refine au1 (kX3 @hob @hj @n1) ?_;(repeat intro K hK);apply wr
 have hkx:=hK;have rest:∀ (C E n2:Nat) (T:List (Nat × V)) (o:List (Nat × Option Ob)),lkT T 0=.ptr id 49 0 0→lkT T 1=uv clock→lkT T 5=.sl 0 true []→lkT T 6=.ptr C 25 0 0→lkT T 7=.ptr E 4 0 0 →
   nx≤C→nx≤E→C<n2→E<n2→C≠E→nx≤n2→lookO o id=some (mchO {m with cpu:=(zAO m).cpu,waiting:=false} (.own j))→lookO o C=some ⟨29,25,true,false,[c2.row]⟩→lookO o E=some ⟨252,4,true,false,[e.row]⟩→lookO o j=some (memO M2)→(∀ i,i<nx→i≠id→i≠j→lookO o i=lookO ob i)→K ⟨81,T,n2,o,nx⟩:=by
  intro C E n2 T o t0 t1 t5 t6 t7 hC1 hE1 hC2 hE2 hCE hn2 oI oC oE oJ oO
  refine hkx _ ?_;refine zH3 [(0,.ptr id 49 0 0),(1,uv clock),(5,.sl 0 true []),(6,.ptr C 25 0 0),(7,.ptr E 4 0 0)] (by simp [t0,t1,t5,t6,t7]) ?_
  simp;have m1:¬ E=id:=by omega
  have m2:¬ E=j:=by omega
  have m3:¬ C=id:=by omega
  refine au1 (kX5 @oI @oC @oE @m1 @m3) ?_;(repeat intro K hK);apply wr
  by_cases q1:e.kind=1
  ·have hE:goD m clock=({(zAS (aftM m c2 M2) e.port clock).1 with cpu:=(zAS (aftM m c2 M2) e.port clock).1.cpu.setR e.reg (zAS (aftM m c2 M2) e.port clock).2,count:=(zAS (aftM m c2 M2) e.port clock).1.count+1},[]):=by rw [hgo];unfold zBQ;rw [if_pos q1]
   obtain ⟨h0,h15⟩:=hEf.r q1;refine gT11 @q1 rfl (kX4 @oI @oE @m1 @m3) ?_;(repeat intro K hK);apply wr
   first|refine .inr ((zQI id j (aftM m c2 M2) e.port clock hMA (by simp [lookO,aftM]) (by simp [lookO,n1,oJ,aftM]) (by omega) (by omega) hne).mono fun r nx' ob' hp=>?_)|refine (zQI id j (aftM m c2 M2) e.port clock hMA (by simp [lookO,aftM]) (by simp [lookO,n1,oJ,aftM]) (by omega) (by omega) hne).mono fun r nx' ob' hp=>?_|refine ((zQI id j (aftM m c2 M2) e.port clock hMA (by simp [lookO,aftM]) (by simp [lookO,n1,oJ,aftM]) (by omega) (by omega) hne).mono fun r nx' ob' hp=>?_).2
   simp only [aftI];obtain ⟨rfl,b1,b2,b3,b4⟩:=hp;have z1:=b4 E (by omega) m1 m2
   have hcn:(zAS (aftM m c2 M2) e.port clock).1.count=m.count:=zEZ _ _ _;simp [lookO,m1,oE] at z1;generalize zAS (aftM m c2 M2) e.port clock=R at *
   simp;refine au1 (kX2 @b2 @z1) ?_;(repeat intro K hK);apply wr
   refine zAG 12 [0,0,2,6,14,0,32,0,254,511,1023,2047] [(9,([[],[],[1],[1,2],[1,2,3],[],[5],[],[1,2,3,4,5,6,7]],[])),(1,([],[])),(1,([],[])),(1,([],[]))] ?_;refine af1 (kX2 @b2 @z1) ?_;(repeat intro K hK);apply wr
   refine cYf (zCI R.1.cpu e.reg R.2 h0 h15) @b2 ?_;(repeat intro K hK);apply wr
   refine zAA ?_;simp [hE,hct,hcn];refine ⟨.inr ⟨rfl,rfl⟩,by omega,by simp [lookO,hcn],by simp [lookO,n1,b3],fun i h1 h2 h3=>?_⟩
   simp [lookO,h2];rw [b4 i (by omega) h2 h3]
   simp [lookO,h2,oO i h1 h2 h3]
  by_cases q2:e.kind=2
  ·have hE:zBQ (aftM m c2 M2) e clock m.count=zAJ (aftM m c2 M2) e.port e.val m.count:=by unfold zBQ;rw [if_neg q1,if_pos q2]
   refine zAi @q1 rfl ?_;(repeat intro K hK);apply wr
   refine zBv @q2 rfl (kX4 @oI @oE @m1 @m3) ?_;(repeat intro K hK);apply wr
   first|refine .inr ((zLC id j (aftM m c2 M2) e.port e.val hMA hEf.v (by simp [lookO,aftM]) (by simp [lookO,n1,oJ,aftM]) (by omega) (by omega) hne).mono fun r nx' ob' hp=>?_)|refine (zLC id j (aftM m c2 M2) e.port e.val hMA hEf.v (by simp [lookO,aftM]) (by simp [lookO,n1,oJ,aftM]) (by omega) (by omega) hne).mono fun r nx' ob' hp=>?_|refine ((zLC id j (aftM m c2 M2) e.port e.val hMA hEf.v (by simp [lookO,aftM]) (by simp [lookO,n1,oJ,aftM]) (by omega) (by omega) hne).mono fun r nx' ob' hp=>?_).2
   simp only [aftI];obtain ⟨hr,b1,b2,b3,b4⟩:=hp;rw [hE] at hgo;have hcn:(zAJ (aftM m c2 M2) e.port e.val m.count).1.count=m.count:=zEC _ _ _ _;rw [show (aftM m c2 M2).count=m.count from rfl] at hr b2 b3
   generalize zAJ (aftM m c2 M2) e.port e.val m.count=W at *
   rcases hr with rfl|⟨rfl,hz⟩
   ·simp;refine af1 @b2 ?_;(repeat intro K hK);apply wr
    refine zAA ?_;simp [hgo,hct,hcn];refine ⟨.inl rfl,by omega,by simp [lookO,hcn],by simp [lookO,n1,b3],fun i h1 h2 h3=>?_⟩
    simp [lookO,h2];rw [b4 i (by omega) h2 h3]
    simp [lookO,h2,oO i h1 h2 h3]
   simp;refine af1 @b2 ?_;(repeat intro K hK);apply wr
   refine zAA ?_;simp [hgo,hct,hcn];refine ⟨.inr ⟨rfl,hz⟩,by omega,by simp [lookO,hcn],by simp [lookO,n1,b3],fun i h1 h2 h3=>?_⟩
   simp [lookO,h2];rw [b4 i (by omega) h2 h3]
   simp [lookO,h2,oO i h1 h2 h3]
  by_cases q3:e.kind=3
  ·have hE:goD m clock=({aftM m c2 M2 with waiting:=true,count:=m.count+1},[]):=by rw [hgo];unfold zBQ;rw [if_neg q1,if_neg q2,if_pos q3];rfl
   refine zAi @q1 rfl ?_;(repeat intro K hK);apply wr
   refine zAi @q2 rfl ?_;(repeat intro K hK);apply wr
   refine zBv @q3 rfl (kX2 @oI @m3) ?_;(repeat intro K hK);apply wr
   refine zAA ?_;simp [hE,hct];exact ⟨.inr ⟨rfl,rfl⟩,by omega,by simp [lookO,aftM],by simp [lookO,n1,oJ,aftM],fun i h1 h2 h3=>by simp [lookO,h2,oO i h1 h2 h3]⟩
  by_cases q4:e.kind=4
  ·have hE:goD m clock=({aftM m c2 M2 with halted:=true,count:=m.count+1},[]):=by rw [hgo];unfold zBQ;rw [if_neg q1,if_neg q2,if_neg q3,if_pos q4];rfl
   refine zAi @q1 rfl ?_;(repeat intro K hK);apply wr
   refine zAi @q2 rfl ?_;(repeat intro K hK);apply wr
   refine zAi @q3 rfl ?_;(repeat intro K hK);apply wr
   refine zBv @q4 rfl (kX2 @oI @m3) ?_;(repeat intro K hK);apply wr
   refine zAA ?_;simp [hE,hct];exact ⟨.inr ⟨rfl,rfl⟩,by omega,by simp [lookO,aftM],by simp [lookO,n1,oJ,aftM],fun i h1 h2 h3=>by simp [lookO,h2,oO i h1 h2 h3]⟩
  have hE:goD m clock=({aftM m c2 M2 with count:=m.count+1},[]):=by rw [hgo];unfold zBQ;rw [if_neg q1,if_neg q2,if_neg q3,if_neg q4];rfl
  refine zAi @q1 rfl ?_;(repeat intro K hK);apply wr
  refine zAi @q2 rfl ?_;(repeat intro K hK);apply wr
  refine zAi @q3 rfl ?_;(repeat intro K hK);apply wr
  refine zDE @q4 rfl (kX2 @oI @m3) ?_;(repeat intro K hK);apply wr
  refine zAA ?_;simp [hE,hct];exact ⟨.inr ⟨rfl,rfl⟩,by omega,by simp [lookO,aftM],by simp [lookO,n1,oJ,aftM],fun i h1 h2 h3=>by simp [lookO,h2,oO i h1 h2 h3]⟩
 clear hkx hK;refine zAv (.node 8 12 (.node 8 13 (.node 12 13 (.leaf [0,1,2,3,4,5,6,7,8,9,10,11,12,13,14,15] (bN [0,1,3,7,0,16,48,112,255,511,1023,1023,511,4607,14335,32767]) [(8,([[],[0],[0,1],[0,1,2],[],[4],[4,5],[4,5,6]],[])),(1,([],[])),(6,([[],[0],[0],[],[3],[0,1,3,4]],[])),(1,([],[]))]) (.leaf [0,1,2,3,4,5,6,7,8,9,10,11,13,12,14,15] (bN [0,1,3,7,0,16,48,112,255,511,1023,1023,511,4607,14335,32767]) [(8,([[],[0],[0,1],[0,1,2],[],[4],[4,5],[4,5,6]],[])),(1,([],[])),(6,([[],[0],[0],[],[3],[0,1,3,4]],[])),(1,([],[]))])) (.leaf [0,1,2,3,4,5,6,7,13,8,9,10,11,12,14,15] (bN [0,1,3,7,0,16,48,112,0,511,1023,2047,2047,1023,12287,32767]) [(9,([[],[0],[0,1],[0,1,2],[],[4],[4,5],[4,5,6],[]],[(3,8),(7,8)])),(1,([],[])),(5,([[],[0],[0],[],[0,1,3]],[])),(1,([],[]))])) (.node 12 13 (.node 8 13 (.leaf [0,1,2,3,4,5,6,7,12,8,9,10,11,13,14,15] (bN [0,1,3,7,0,16,48,112,0,511,1023,2047,2047,1023,12287,32767]) [(9,([[],[0],[0,1],[0,1,2],[],[4],[4,5],[4,5,6],[]],[(3,8),(7,8)])),(1,([],[])),(5,([[],[0],[0],[],[0,1,3]],[])),(1,([],[]))]) (.leaf [0,1,2,3,4,5,6,7,12,13,8,9,10,11,14,15] (bN [0,1,3,7,0,16,48,112,0,256,1023,2047,4095,4095,8191,32767]) [(10,([[],[0],[0,1],[0,1,2],[],[4],[4,5],[4,5,6],[],[8]],[(3,8),(3,9),(7,8),(7,9)])),(1,([],[])),(1,([],[])),(3,([[],[],[0]],[])),(1,([],[]))])) (.leaf [0,1,2,3,4,5,6,7,13,12,8,9,10,11,14,15] (bN [0,1,3,7,0,16,48,112,0,256,1023,2047,4095,4095,8191,32767]) [(10,([[],[0],[0,1],[0,1,2],[],[4],[4,5],[4,5,6],[],[8]],[(3,8),(3,9),(7,8),(7,9)])),(1,([],[])),(1,([],[])),(3,([[],[],[0]],[])),(1,([],[]))]))) (by kernel_rfl) (by kernel_rfl) ?_
 simp only [PT.run]
 repeat' (with_reducible apply And.intro)
 all_goals (simp only [zBZ,zWq,List.map_nil,zWi,zWn];refine af1 (kX11 @hob @hj @n1 @k1 @k2 @k3 @k4 @l1 @l2 @l3 @l4) ?_;(repeat intro K hK);apply wr)
 iterate 2
  ·first|refine .inr ((hdo (by simp [lookO,n1,hj,l1,l2,l3,l4]) (by omega)).mono fun r nx' ob' hp=>?_)|refine (hdo (by simp [lookO,n1,hj,l1,l2,l3,l4]) (by omega)).mono fun r nx' ob' hp=>?_|refine ((hdo (by simp [lookO,n1,hj,l1,l2,l3,l4]) (by omega)).mono fun r nx' ob' hp=>?_).2
   simp only [aftI];obtain ⟨rfl,g1,g2,g3⟩:=hp;have y1:=g3 id (by omega) hne
   simp [lookO,k1,k2,k3,k4,l1,l2,l3,l4] at y1;have p1:¬ id=nx':=by omega
   have p2:¬ nx'=id:=by omega
   have p3:¬ id=nx'+1:=by omega
   have p4:¬ nx'+1=id:=by omega
   have q1:¬ j=nx':=by omega
   have q2:¬ j=nx'+1:=by omega
   skip
   simp;refine af1 (kX9 @y1 @p1 @p2 @p3 @p4 @k1 @k2 @k3 @k4) ?_;(repeat intro K hK);apply wr
   refine rest _ _ _ _ _ rfl rfl rfl rfl rfl (by omega) (by omega) (by omega) (by omega) (by omega) (by omega) (by simp [lookO,y1,p1,p3,k1,k2]) (by simp [lookO]) (by simp [lookO]) (by simp [lookO,n1,q1,q2,l1,l2,g2]) fun i h1 h2 h3=>?_
   have a1:¬ i=nx':=by omega
   have a2:¬ i=nx'+1:=by omega
   have a3:¬ i=nx+25:=by omega
   have a4:¬ i=nx+25+1:=by omega
   have ee:=g3 i (by omega) h3
   simp [lookO,a1,a2,a3,a4,h2] at ee;simp [lookO,a1,a2,a3,a4,h2,ee]
 iterate 2
  ·first|refine .inr ((hdo (by simp [lookO,n1,hj,l1,l2,l3,l4]) (by omega)).mono fun r nx' ob' hp=>?_)|refine (hdo (by simp [lookO,n1,hj,l1,l2,l3,l4]) (by omega)).mono fun r nx' ob' hp=>?_|refine ((hdo (by simp [lookO,n1,hj,l1,l2,l3,l4]) (by omega)).mono fun r nx' ob' hp=>?_).2
   simp only [aftI];obtain ⟨rfl,g1,g2,g3⟩:=hp;have y1:=g3 id (by omega) hne
   simp [lookO,k1,k2,k3,k4,l1,l2,l3,l4] at y1;have p1:¬ id=nx':=by omega
   have p2:¬ nx'=id:=by omega
   have p3:¬ id=nx'+1:=by omega
   have p4:¬ nx'+1=id:=by omega
   have q1:¬ j=nx':=by omega
   have q2:¬ j=nx'+1:=by omega
   have y2:=g3 (nx+25) (by omega) l3
   simp [lookO,k1,k2,k3,k4,l1,l2,l3,l4] at y2;have r1:¬ nx+25=nx':=by omega
   have r2:¬ nx'=nx+25:=by omega
   simp;refine af1 (kX12 @y1 @p1 @p2 @p3 @p4 @k1 @k2 @k3 @k4 @y2 @r1 @r2) ?_;(repeat intro K hK);apply wr
   refine rest _ _ _ _ _ rfl rfl rfl rfl rfl (by omega) (by omega) (by omega) (by omega) (by omega) (by omega) (by simp [lookO,y1,p1,p3,k1,k2]) (by simp [lookO,y2,r1,r2]) (by simp [lookO,y2,r1,r2]) (by simp [lookO,n1,q1,q2,l1,l2,g2]) fun i h1 h2 h3=>?_
   have a1:¬ i=nx':=by omega
   have a2:¬ i=nx'+1:=by omega
   have a3:¬ i=nx+25:=by omega
   have a4:¬ i=nx+25+1:=by omega
   have ee:=g3 i (by omega) h3
   simp [lookO,a1,a2,a3,a4,h2] at ee;simp [lookO,a1,a2,a3,a4,h2,ee]
 iterate 2
  ·first|refine .inr ((hdo (by simp [lookO,n1,hj,l1,l2,l3,l4]) (by omega)).mono fun r nx' ob' hp=>?_)|refine (hdo (by simp [lookO,n1,hj,l1,l2,l3,l4]) (by omega)).mono fun r nx' ob' hp=>?_|refine ((hdo (by simp [lookO,n1,hj,l1,l2,l3,l4]) (by omega)).mono fun r nx' ob' hp=>?_).2
   simp only [aftI];obtain ⟨rfl,g1,g2,g3⟩:=hp;have y1:=g3 id (by omega) hne
   simp [lookO,k1,k2,k3,k4,l1,l2,l3,l4] at y1;have p1:¬ id=nx':=by omega
   have p2:¬ nx'=id:=by omega
   have p3:¬ id=nx'+1:=by omega
   have p4:¬ nx'+1=id:=by omega
   have q1:¬ j=nx':=by omega
   have q2:¬ j=nx'+1:=by omega
   have y2:=g3 (nx+25) (by omega) l3
   have y3:=g3 (nx+25+1) (by omega) l4
   simp [lookO,k1,k2,k3,k4,l1,l2,l3,l4] at y2;simp [lookO,k1,k2,k3,k4,l1,l2,l3,l4] at y3;simp;refine af1 (kX11 @y1 @p1 @p2 @p3 @p4 @k1 @k2 @k3 @k4 @y2 @y3) ?_;(repeat intro K hK);apply wr
   refine rest _ _ _ _ _ rfl rfl rfl rfl rfl (by omega) (by omega) (by omega) (by omega) (by omega) (by omega) (by simp [lookO,y1,p1,p3,k1,k2]) (by simp [lookO,y2,y3]) (by simp [lookO,y2,y3]) (by simp [lookO,n1,q1,q2,l1,l2,g2]) fun i h1 h2 h3=>?_
   have a1:¬ i=nx':=by omega
   have a2:¬ i=nx'+1:=by omega
   have a3:¬ i=nx+25:=by omega
   have a4:¬ i=nx+25+1:=by omega
   have ee:=g3 i (by omega) h3
   simp [lookO,a1,a2,a3,a4,h2] at ee;simp [lookO,a1,a2,a3,a4,h2,ee]
end Go.Proofs.YtoondlebmacanaaGreat
end
