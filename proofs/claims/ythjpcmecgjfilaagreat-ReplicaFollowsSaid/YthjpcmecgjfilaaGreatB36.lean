/- A part of the proof of ReplicaFollows. -/
import Derived.Test.YthjpcmecgjfilaaGreatB20
import Derived.Test.YthjpcmecgjfilaaGreatB25
import Derived.Test.YthjpcmecgjfilaaGreatB34
set_option linter.unusedSimpArgs false
set_option linter.unusedVariables false
set_option maxHeartbeats 16000000
set_option maxRecDepth 100000
section
namespace Go.Proofs.YthjpcmecgjfilaaGreat
open Go.Ab Go.RowKit Tryz
theorem zCZ {C D E G:Prop} (c:C) (d:D) (e:E) (t:C->D->E->G:=by intro c d e;(refine af1 e ?_;intros;apply wr);repeat' ((first|(refine zAC rfl (fun h=>?_) (fun h=>?_)<;>(first|(simp [e] at h;done)|(simp [e] at h)|skip)<;>(first|(exfalso;omega)|skip))|((first|refine .inl ⟨1,_,d.1,?_⟩|refine ⟨1,_,d.1,?_⟩);simp [aftC,aftE,noX,noXc,noX1,e];first|refine And.intro zAO ?_|skip)|((first|refine .inl ⟨1,_,d.2.1,?_⟩|refine ⟨1,_,d.2.1,?_⟩);simp [aftC,aftE,noX,noXc,noX1,e];first|refine And.intro zAO ?_|skip)|refine cc1 c.1 e ?_|refine cc1 c.2.1 e ?_|refine cc1 c.2.2.1 e ?_|refine cc1 c.2.2.2.1 e ?_|refine cc1 c.2.2.2.2.1 e ?_|refine cc1 c.2.2.2.2.2.1 e ?_|(refine zBX (.node 7 8 (.leaf [0,1,2,3,4,5,6,7,8,9] (bN [0,0,0,0,8,28,62,126,255,511]) [(8,([[],[],[],[],[3],[2,3,4],[1,2,3,4,5],[1,2,3,4,5,6]],[(0,7)])),(1,([],[])),(1,([],[]))]) (.leaf [0,1,2,3,4,5,6,8,7,9] (bN [0,0,0,0,8,28,62,1,255,511]) [(8,([[],[],[],[],[3],[2,3,4],[1,2,3,4,5],[0]],[(4,7),(5,7)])),(1,([],[])),(1,([],[]))])) (by kernel_rfl) (by kernel_rfl) ?_;simp only [PT.run];repeat' (with_reducible apply And.intro);all_goals (simp only [zB0,zWb,List.map_nil,zWV,zWk]))|exact rt1 e|fail)<;>(refine af1 e ?_;intros;apply wr))):G:=t c d e
abbrev zFo (n:NicD) (l:List Int) (p v t:Int):Prop:=zAD prog 226 [.st n.row,memV l,iv p,uv v,lv t] (.tup [.st (zAb n l p v t).1.row,zLS (zAb n l p v t).2])
theorem zQH (n:NicD) (l:List Int) (p v t:Int) (h9:¬ p=9):zFo n l p v t:=by
 unfold zFo;by_cases h7:p=7
 ·subst h7;refine sZ func226 ntmps226 ?_;exact zCZ trivial trivial @zAb.eq_1
 by_cases h8:p=8
 ·subst h8;refine sZ func226 ntmps226 ?_;exact zCZ trivial trivial @zAb.eq_1
 refine sZ func226 ntmps226 ?_;exact zCZ trivial trivial (kX4 @h7 @h8 @h9 @zAb.eq_1)
theorem zQI (n:NicD) (l:List Int) (v t:Int) (hf:W32 n.frame) (h1:¬ v=1):zFo n l 9 v t:=by
 unfold zFo;have hp:=zAc l;have hg:=zHI l n.frame hf;by_cases h0:v=0
 ·subst h0;refine sZ func226 ntmps226 ?_;exact zCZ trivial trivial @zAb.eq_1
 by_cases h2:v=2
 ·subst h2;by_cases hq:n.frame<pagesD l
  ·by_cases hr:n.posted=false/\n.received=false
   ·have hE:zAb n l 9 2 t=({n with posted:=true,buffer:=n.frame},[]):=by
     unfold zAb;rw [if_neg (by omega),if_neg (by omega),if_pos rfl,if_neg (by omega),if_pos rfl,if_pos ⟨hq,hr.1,hr.2⟩]
    rw [hE];refine sZ func226 ntmps226 ?_;exact zCZ (qX1 (hg)) trivial (kX3 @hq @hr.1 @hr.2)
   have hE:zAb n l 9 2 t=(n,[]):=by
    unfold zAb;rw [if_neg (by omega),if_neg (by omega),if_pos rfl,if_neg (by omega),if_pos rfl,if_neg (fun q=>hr q.2)]
   rw [hE];cases hpo:n.posted with
   | true =>
    refine sZ func226 ntmps226 ?_;exact zCZ (qX1 (hg)) trivial (kX2 @hq @hpo)
   | false =>
    have hre:n.received=true:=by simpa [hpo] using hr
    refine sZ func226 ntmps226 ?_;exact zCZ (qX1 (hg)) trivial (kX3 @hq @hpo @hre)
  have hE:zAb n l 9 2 t=(n,[]):=by
   unfold zAb;rw [if_neg (by omega),if_neg (by omega),if_pos rfl,if_neg (by omega),if_pos rfl,if_neg (fun q=>hq q.1)]
  rw [hE];refine sZ func226 ntmps226 ?_;exact zCZ (qX1 (hg)) trivial @hq
 have hE:zAb n l 9 v t=(n,[]):=by simp [zAb,h0,h1,h2]
 rw [hE];have b1:(v==1)=false:=by simp [h1]
 have b2:(v==2)=false:=by simp [h2]
 refine sZ func226 ntmps226 ?_;exact zCZ trivial trivial (kX5 @h0 @h1 @h2 @b1 @b2)
theorem zI9 (m:MchD) (h1:m.mem.length<=100000):zAD prog 40 [.st m.row] (.st (rowM m (.new 25 1 (ints .u32 m.mem)))):=by
 refine sX func40 ntmps40 ?_;intros;apply wr;refine cX (zMk m.mem h1) ?_;intros;apply wr;refine zAB ?_;simp
theorem zQL (m:MchD) (hM:OkM m):zAD prog 122 [.st m.row] (.bool (rdsD m)):=by
 have hr:=zQC m hM;have hc:=zFK hM;obtain ⟨w,hw⟩:∃ w,w=wAt m.mem ((zAK m).cpu.pc / 4):=⟨_,rfl⟩;have hww:W32 w:=by rw [hw];exact zLi hM.w _
 have hl:=zSd m.mem (zAK m).cpu.pc 4 (.inr rfl) hc.pc;have hE:rdsD m=(decide ((zAK m).cpu.csr 0 % 2=1)&&zAR m.mem (zAK m).cpu.pc 4&&validD (decI w)&&decide ((decI w).op=60)&&decide ((decI w).imm=2)):=by rw [hw];rfl
 have hL:zBs m.mem (zAK m).cpu.pc 4=w:=by rw [hw];rfl
 rw [hL] at hl;have hk:=zPM (hc.csr 0);generalize (zAK m).cpu=c at *
 rw [hE];by_cases h0:c.csr 0 % 2=0
 ·refine sZ func122 ntmps122 ?_;exact wx1 (qX1 (hr)) trivial (kX2 @hk @h0)
 have h1:c.csr 0 % 2=1:=by omega
 cases hwi:zAR m.mem c.pc 4 with
 | false =>
  rw [hwi] at hl;simp only [zWa,if_false] at hl;have hd:=zEE 0 ⟨by omega,by omega⟩
  refine sZ func122 ntmps122 ?_;exact wx1 (qX3 (hr) (hl) (hd)) trivial (kX3 @hk @h1 @decV.eq_1)
 | true =>
  rw [hwi] at hl;simp only [if_true] at hl;have hd:=zEE w hww;unfold decV at hd;cases hv:validD (decI w) with
  | false =>
   rw [hv,if_neg (by simp)] at hd
   refine sZ func122 ntmps122 ?_;exact wx1 (qX3 (hr) (hl) (hd)) trivial (kX2 @hk @h1)
  | true =>
   rw [hv,if_pos rfl] at hd;refine sZ func122 ntmps122 ?_;exact wx1 (qX3 (hr) (hl) (hd)) trivial (kX2 @hk @h1)
theorem zSg {nx:Nat} {ob:List (Nat × Option Ob)} (id j:Nat) (m:MchD) (v:Int) (hob:lookO ob id=some (mchO m (.own j))) (hj:lookO ob j=some (memO m.mem)) (hi:id<nx) (hjn:j<nx) (hne:id≠j) :
  InlC prog 172 [.ptr id 49 0 0,iv 3,uv v] nx ob fun r nx' ob'=>r=.sl 0 true []/\zCv nx ob id j {m with tim:=armD v} nx' ob':=by
 have n1:¬ j=id:=fun e=>hne e.symm
 refine InlC.of func172 rfl (by kernel_rfl) rfl ?_
 simp only [ntmps172,St.startI,argT];refine au1 (kX2 @hob @hj) ?_;intros;apply wr;refine gF00 rfl ?_;intros;apply wr;refine gF00 rfl ?_;intros;apply wr;refine gT01 rfl @hob ?_;intros;apply wr;refine cZ (zVW v) @hob @hob ?_;intros;apply wr;refine zAB ?_;simp;exact ⟨by omega,by simp [lookO],by simp [lookO,n1,hj],fun i h1 h2 h3=>by simp [lookO,h2]⟩
theorem zSh {nx:Nat} {ob:List (Nat × Option Ob)} (id j:Nat) (m:MchD) (v:Int) (hM:OkM m) (hob:lookO ob id=some (mchO m (.own j))) (hj:lookO ob j=some (memO m.mem)) (hi:id<nx) (hjn:j<nx) (hne:id≠j) :
  InlC prog 172 [.ptr id 49 0 0,iv 7,uv v] nx ob fun r nx' ob'=>r=.sl 4 false []/\zCv nx ob id j {m with nc:=(zAb m.nc m.mem 7 v m.count).1} nx' ob':=by
 have n1:¬ j=id:=fun e=>hne e.symm
 have hn:zFo m.nc m.mem 7 v m.count:=zQH m.nc m.mem 7 v m.count (by omega)
 have hE:(zAb m.nc m.mem 7 v m.count).2=[]:=by simp [zAb]
 unfold zFo at hn;rw [hE] at hn;generalize (zAb m.nc m.mem 7 v m.count).1=N at *
 refine InlC.of func172 rfl (by kernel_rfl) rfl ?_
 simp only [ntmps172,St.startI,argT];refine au1 (kX2 @hob @hj) ?_;intros;apply wr;refine gF00 rfl ?_;intros;apply wr;refine gF00 rfl ?_;intros;apply wr;refine gF00 rfl ?_;intros;apply wr;refine gF00 rfl ?_;intros;apply wr;refine gT01 rfl @hob ?_;intros;apply wr;refine zAG 23 [0,0,2,6,14,0,32,96,224,0,0,0,2048,6144,14336,32766,65534,131070,131070,262143,786431,1835007,4194303] [(22,([[],[],[1],[1,2],[1,2,3],[],[5],[5,6],[5,6,7],[],[],[],[11],[11,12],[11,12,13],[1,2,3,4,5,6,7,8,9,10,11,12,13,14],[1,2,3,4,5,6,7,8,9,10,11,12,13,14,15],[1,2,3,4,5,6,7,8,9,10,11,12,13,14,15,16],[1,2,3,4,5,6,7,8,9,10,11,12,13,14,15,16],[0,1,2,3,4,5,6,7,8,9,10,11,12,13,14,15,16,17],[0,1,2,3,4,5,6,7,8,9,10,11,12,13,14,15,16,17,19],[0,1,2,3,4,5,6,7,8,9,10,11,12,13,14,15,16,17,19,20]],[])),(1,([],[]))] ?_;refine af1 (kX2 @hob @hj) ?_;intros;apply wr;refine ⟨1,_,hn,?_⟩;simp [aftE,noX,noXc,noX1,hob,hj]
 first|refine And.intro zAO ?_|skip
 refine af1 (kX2 @hob @hj) ?_;intros;apply wr;refine zAB ?_;simp;exact ⟨ by omega,by simp [lookO],by simp [lookO,n1,hj],fun i h1 h2 h3=>by simp [lookO,h2]⟩
theorem zSi {nx:Nat} {ob:List (Nat × Option Ob)} (id j:Nat) (m:MchD) (v:Int) (hM:OkM m) (hob:lookO ob id=some (mchO m (.own j))) (hj:lookO ob j=some (memO m.mem)) (hi:id<nx) (hjn:j<nx) (hne:id≠j)(hv:v=2) :
  InlC prog 172 [.ptr id 49 0 0,iv 9,uv v] nx ob fun r nx' ob'=>r=.sl 4 false []/\zCv nx ob id j {m with nc:=(zAb m.nc m.mem 9 v m.count).1} nx' ob':=by
 have n1:¬ j=id:=fun e=>hne e.symm
 have hn:zFo m.nc m.mem 9 v m.count:=zQI m.nc m.mem v m.count hM.r.a (by omega)
 have hE:(zAb m.nc m.mem 9 v m.count).2=[]:=by (subst hv;simp [zAb])
 unfold zFo at hn;rw [hE] at hn;generalize (zAb m.nc m.mem 9 v m.count).1=N at *
 refine InlC.of func172 rfl (by kernel_rfl) rfl ?_
 simp only [ntmps172,St.startI,argT];refine au1 (kX2 @hob @hj) ?_;intros;apply wr;refine gF00 rfl ?_;intros;apply wr;refine gF00 rfl ?_;intros;apply wr;refine gF00 rfl ?_;intros;apply wr;refine gF00 rfl ?_;intros;apply wr;refine gT01 rfl @hob ?_;intros;apply wr;refine zAG 23 [0,0,2,6,14,0,32,96,224,0,0,0,2048,6144,14336,32766,65534,131070,131070,262143,786431,1835007,4194303] [(22,([[],[],[1],[1,2],[1,2,3],[],[5],[5,6],[5,6,7],[],[],[],[11],[11,12],[11,12,13],[1,2,3,4,5,6,7,8,9,10,11,12,13,14],[1,2,3,4,5,6,7,8,9,10,11,12,13,14,15],[1,2,3,4,5,6,7,8,9,10,11,12,13,14,15,16],[1,2,3,4,5,6,7,8,9,10,11,12,13,14,15,16],[0,1,2,3,4,5,6,7,8,9,10,11,12,13,14,15,16,17],[0,1,2,3,4,5,6,7,8,9,10,11,12,13,14,15,16,17,19],[0,1,2,3,4,5,6,7,8,9,10,11,12,13,14,15,16,17,19,20]],[])),(1,([],[]))] ?_;refine af1 (kX2 @hob @hj) ?_;intros;apply wr;refine ⟨1,_,hn,?_⟩;simp [aftE,noX,noXc,noX1,hob,hj]
 first|refine And.intro zAO ?_|skip
 refine af1 (kX2 @hob @hj) ?_;intros;apply wr;refine zAB ?_;simp;exact ⟨ by omega,by simp [lookO],by simp [lookO,n1,hj],fun i h1 h2 h3=>by simp [lookO,h2]⟩
end Go.Proofs.YthjpcmecgjfilaaGreat
end
