/- A part of the proof of ReplicaHalts. -/
import Derived.Test.YthjpcmecgjfilaaGreatH06
import Derived.Test.YthjpcmecgjfilaaGreatH20
import Derived.Test.YthjpcmecgjfilaaGreatH28
import Derived.Test.YthjpcmecgjfilaaGreatH31
set_option linter.unusedSimpArgs false
set_option linter.unusedVariables false
set_option maxHeartbeats 16000000
set_option maxRecDepth 100000
section
namespace Go.Proofs.YthjpcmecgjfilaaGreat
open Go.Ab Go.RowKit Tryz
theorem zP5 (l:List Int) (f:Int) (h:W32 f):zAD prog 154 [memV l,uv f] (.bool (decide (f<pagesD l))):=by
 have e1:IntKind.u64.wrap f=f:=u64_in h.1 (by have:=h.2;omega)
 have e2:IntKind.u64.wrap (pagesD l)=pagesD l:=u64_in (zAf l).1 (by have:=zAf l;omega)
 refine sZ func154 ntmps154 ?_;exact wx1 (qX1 (zDp l)) trivial (kX2 @e1 @e2)
theorem zCU {C D E G:Prop} (c:C) (d:D) (e:E) (t:C->D->E->G:=by intro c d e;(refine af1 e ?_;intros;apply wr);repeat' ((first|(refine zAC rfl (fun h=>?_) (fun h=>?_)<;>(first|(simp [e] at h;done)|(simp [e] at h)|skip)<;>(first|(exfalso;omega)|skip))|((first|refine .inl ⟨1,_,d.1,?_⟩|refine ⟨1,_,d.1,?_⟩);simp [aftC,aftE,noX,noXc,noX1,e];first|refine And.intro zAM ?_|skip)|((first|refine .inl ⟨1,_,d.2.1,?_⟩|refine ⟨1,_,d.2.1,?_⟩);simp [aftC,aftE,noX,noXc,noX1,e];first|refine And.intro zAM ?_|skip)|refine cc1 c.1 e ?_|refine cc1 c.2.1 e ?_|refine cc1 c.2.2.1 e ?_|refine cc1 c.2.2.2.1 e ?_|refine cc1 c.2.2.2.2.1 e ?_|refine cc1 c.2.2.2.2.2.1 e ?_|(refine zCJ (.node 7 8 (.leaf [0,1,2,3,4,5,6,7,8,9] (bN [0,0,0,0,8,28,62,126,255,511]) [(8,([[],[],[],[],[3],[2,3,4],[1,2,3,4,5],[1,2,3,4,5,6]],[(0,7)])),(1,([],[])),(1,([],[]))]) (.leaf [0,1,2,3,4,5,6,8,7,9] (bN [0,0,0,0,8,28,62,1,255,511]) [(8,([[],[],[],[],[3],[2,3,4],[1,2,3,4,5],[0]],[(4,7),(5,7)])),(1,([],[])),(1,([],[]))])) (by kernel_rfl) (by kernel_rfl) ?_;simp only [PT.run];repeat' (with_reducible apply And.intro);all_goals (simp only [zCO,zWP,List.map_nil,zWN,List.getD_cons_succ]))|exact rt1 e|fail)<;>(refine af1 e ?_;intros;apply wr))):G:=t c d e
abbrev zFe (n:NicD) (l:List Int) (p v t:Int):Prop:=zAD prog 226 [.st n.row,memV l,iv p,uv v,lv t] (.tup [.st (zAa n l p v t).1.row,zLI (zAa n l p v t).2])
theorem zP0 (n:NicD) (l:List Int) (p v t:Int) (h9:¬ p=9):zFe n l p v t:=by
 unfold zFe;by_cases h7:p=7
 ·subst h7;refine sZ func226 ntmps226 ?_;exact zCU trivial trivial @zAa.eq_1
 by_cases h8:p=8
 ·subst h8;refine sZ func226 ntmps226 ?_;exact zCU trivial trivial @zAa.eq_1
 refine sZ func226 ntmps226 ?_;exact zCU trivial trivial (kX4 @h7 @h8 @h9 @zAa.eq_1)
theorem zP1 (n:NicD) (l:List Int) (v t:Int) (hf:W32 n.frame) (h1:¬ v=1):zFe n l 9 v t:=by
 unfold zFe;have hp:=zAf l;have hg:=zP5 l n.frame hf;by_cases h0:v=0
 ·subst h0;refine sZ func226 ntmps226 ?_;exact zCU trivial trivial @zAa.eq_1
 by_cases h2:v=2
 ·subst h2;by_cases hq:n.frame<pagesD l
  ·by_cases hr:n.posted=false/\n.received=false
   ·have hE:zAa n l 9 2 t=({n with posted:=true,buffer:=n.frame},[]):=by
     unfold zAa;rw [if_neg (by omega),if_neg (by omega),if_pos rfl,if_neg (by omega),if_pos rfl,if_pos ⟨hq,hr.1,hr.2⟩]
    rw [hE];refine sZ func226 ntmps226 ?_;exact zCU (qX1 (hg)) trivial (kX3 @hq @hr.1 @hr.2)
   have hE:zAa n l 9 2 t=(n,[]):=by
    unfold zAa;rw [if_neg (by omega),if_neg (by omega),if_pos rfl,if_neg (by omega),if_pos rfl,if_neg (fun q=>hr q.2)]
   rw [hE];cases hpo:n.posted with
   | true =>
    refine sZ func226 ntmps226 ?_;exact zCU (qX1 (hg)) trivial (kX2 @hq @hpo)
   | false =>
    have hre:n.received=true:=by simpa [hpo] using hr
    refine sZ func226 ntmps226 ?_;exact zCU (qX1 (hg)) trivial (kX3 @hq @hpo @hre)
  have hE:zAa n l 9 2 t=(n,[]):=by
   unfold zAa;rw [if_neg (by omega),if_neg (by omega),if_pos rfl,if_neg (by omega),if_pos rfl,if_neg (fun q=>hq q.1)]
  rw [hE];refine sZ func226 ntmps226 ?_;exact zCU (qX1 (hg)) trivial @hq
 have hE:zAa n l 9 v t=(n,[]):=by simp [zAa,h0,h1,h2]
 rw [hE];have b1:(v==1)=false:=by simp [h1]
 have b2:(v==2)=false:=by simp [h2]
 refine sZ func226 ntmps226 ?_;exact zCU trivial trivial (kX5 @h0 @h1 @h2 @b1 @b2)
abbrev rowM (m:MchD) (v:V):List V:=m.cpu.row++v::.str m.keys::(m.tim.row++(m.dk.row++(m.nc.row++[uv m.tgt,uv m.given,lv m.count,.bool m.waiting,.bool m.halted])))
abbrev mchO (m:MchD) (v:V):Ob:=⟨42,49,true,false,[rowM m v]⟩
def zDB (nx:Nat) (ob:List (Nat × Option Ob)) (id j:Nat) (m:MchD) (nx':Nat) (ob':List (Nat × Option Ob)):Prop :=
 nx<=nx'/\lookO ob' id=some (mchO m (.own j))/\lookO ob' j=some (⟨25,1,false,false,ints .u32 m.mem⟩)/\∀ i,i<nx->i≠id->i≠j->lookO ob' i=lookO ob i
abbrev zMR0:=[uv 0,uv 0,uv 0,uv 0,uv 0,uv 0,uv 0,uv 0,uv 0,uv 0,uv 0,uv 0,uv 0,uv 0,uv 0,uv 0,uv 0,uv 0,uv 0,uv 0,uv 0,uv 0,uv 0,uv 0,uv 0,.sl 0 true [],.str [],.bool false,uv 0,.bool false,uv 0,uv 0,uv 0,iv 0,iv 0,uv 0,uv 0,.str [],uv 0,uv 0,.bool false,uv 0,.bool false,uv 0,uv 0,uv 0,lv 0,.bool false,.bool false]
abbrev nilE:V:=.sl 0 true []
theorem zSS:zAD prog 120 [nilE] (.bool true):=by
 refine sX func120 ntmps120 ?_;(repeat intro K hK);apply wr
 refine zAX 1 ?_;refine zAk fun K hK=>?_
 refine au ?_;(repeat intro K hK);apply wr
 refine gF00 rfl ?_;(repeat intro K hK);apply wr
 refine zAB ?_;simp
theorem run_ok (m:MchD) (n:Nat) (hmay:mayD m=true) (hg:0<=m.given/\m.given<=4294967295) (hc:m.count=0) (hn:n<=1000) (hml:m.mem.length<=100000)
  (hq:∀ k<n,(itD m k).halted=false/\zIZ (itD m k)=false/\rdsD (itD m k)=false) (hct:∀ k≤n,(itD m k).count=k)
  (hDl:∀ k<n,zAD prog 121 [.st (itD m k).row] (.bool (zIZ (itD m k))))
  (hR:∀ k<n,zAD prog 122 [.st (itD m k).row] (.bool (rdsD (itD m k))))
  (hO:zAD prog 40 [.st m.row] (.st (rowM m (.new 25 1 (ints .u32 m.mem)))))
  (hA:∀ k<n,∀ {nx:Nat} {ob:List (Nat × Option Ob)} (id j:Nat),lookO ob id=some (mchO (itD m k) (.own j))->lookO ob j=some ⟨25,1,false,false,ints .u32 (itD m k).mem⟩->id<nx->j<nx->id≠j ->
   InlC prog 123 [.ptr id 49 0 0,uv 0] nx ob fun r nx' ob'=>(r=.sl 0 true []\/r=.sl 4 false [])/\zDB nx ob id j (itD m (k+1)) nx' ob') :
  zAD prog 64 [.st m.row,nilE,lv n] (.tup [.st (itD m n).row,.sl 4 false [],iv 0,iv 0]):=by
 have hm:=zVM m hg.1 hg.2;rw [hmay] at hm;have g1:¬ (n:Int)<m.count:=by omega
 have g2:¬ 4000<IntKind.u64.wrap ((n:Int)-m.count):=by rw [hc,IntKind.wrap_u64];omega
 refine sX func64 ntmps64 ?_;intros;apply wr;refine cX (hm) ?_;intros;apply wr;refine gF10 (kX2 @g1 @g2) rfl ?_;intros;apply wr;refine zAE 17 [0,1,3,7,15,31,63,127,255,511,1023,2047,255,4351,16383,32767,65535] [(1,([],[])),(1,([],[])),(1,([],[])),(1,([],[])),(1,([],[])),(1,([],[])),(1,([],[])),(1,([],[])),(6,([[],[0],[0,1],[0,1,2],[],[4]],[])),(1,([],[])),(1,([],[])),(1,([],[]))] ?_;refine af ?_;intros;apply wr;refine cXf (zSS) ?_;intros;apply wr;refine zBy rfl ?_;intros;apply wr;refine cXf (hO) ?_;intros;apply wr;refine zAT 10 90 4 (by decide) rfl ?_
 simp;obtain ⟨I,hI⟩:∃ I:Nat->St->Prop,I=(fun kk ss=>∃ (i:Nat) ,i<=n/\kk=n-i/\(True)/\ss=⟨140,[(11,iv 0),(10,.own 53),(3,.ptr 0 49 0 0),(1,nilE),(2,lv n),(6,.ptr 1 49 0 0)],54,[(0,some (mchO (itD m i) (.own 29))),(29,some ⟨25,1,false,false,ints .u32 (itD m i).mem⟩),(53,some ⟨90,4,false,false,[]⟩),(1,some ⟨42,49,true,false,[zMR0]⟩)],0⟩):=⟨_,rfl⟩
 refine lX1 I (id) (by rw [hI];exact ⟨0,by simp,rfl,trivial,rfl⟩) @itD.eq_1 ?_
 intro kk ss hIk _
 rw [hI] at hIk;obtain ⟨i,hi,rfl,hx,rfl⟩:=hIk;have hci:=hct i hi;refine af1 @hci ?_;intros;apply wr;by_cases hi':i<n
 ·have c1:(i:Int)<n:=by omega
  have c2:(i:Int)<1152921504606846976:=by omega
  obtain ⟨q1,q2,q3⟩:=hq i hi';have hIi:=hDl i hi';have hRi:=hR i hi';rw [q2] at hIi;rw [q3] at hRi;refine zDe (kX2 @hi' @c2) rfl ?_;intros;apply wr;refine zAX 1 ?_;refine zAk fun K2 hK2=>?_
  refine af ?_;intros;apply wr;refine zAE 23 [0,0,2,7,15,31,31,127,255,511,31,1055,4095,8191,16383,32767,32767,131071,262143,524287,1048575,2097151,4194303] [(3,([[],[],[1]],[])),(1,([],[])),(1,([],[])),(7,([[],[],[0,1],[0,1,2],[0,1,2,3],[],[5]],[])),(1,([],[])),(1,([],[])),(1,([],[])),(2,([[],[]],[])),(1,([],[])),(1,([],[])),(1,([],[])),(1,([],[])),(1,([],[])),(1,([],[]))] ?_;refine af ?_;intros;apply wr;refine gF01f rfl @q1 ?_;intros;apply wr;refine zBy rfl ?_;intros;apply wr;refine cn (hIi) ?_;refine af ?_;intros;apply wr;refine zBy rfl ?_;intros;apply wr;refine zAE 15 [0,0,2,7,15,31,31,127,255,511,31,1055,4095,8191,16383] [(3,([[],[],[1]],[])),(1,([],[])),(1,([],[])),(7,([[],[],[0,1],[0,1,2],[0,1,2,3],[],[5]],[])),(1,([],[])),(1,([],[])),(1,([],[]))] ?_;refine af ?_;intros;apply wr;refine cn (hRi) ?_;refine af ?_;intros;apply wr;refine zBy rfl ?_;intros;apply wr;refine zBy rfl ?_;intros;apply wr
  first|refine .inr ((hA i hi' 0 29 (by simp [lookO]) (by simp [lookO]) (by omega) (by omega) (by decide)).mono fun r nx' ob' hp=>?_)|refine (hA i hi' 0 29 (by simp [lookO]) (by simp [lookO]) (by omega) (by omega) (by decide)).mono fun r nx' ob' hp=>?_|refine ((hA i hi' 0 29 (by simp [lookO]) (by simp [lookO]) (by omega) (by omega) (by decide)).mono fun r nx' ob' hp=>?_).2
  simp only [aftI];obtain ⟨hr,p1,p2,p3,p4⟩:=hp;have y1:=p4 1 (by omega) (by decide) (by decide)
  have y2:=p4 53 (by omega) (by decide) (by decide)
  simp [lookO] at y1 y2;have z0:¬ nx'=0:=by omega
  have z1:¬ nx'=1:=by omega
  have z2:¬ nx'=29:=by omega
  have w0:¬ 0=nx':=by omega
  have w1:¬ 1=nx':=by omega
  have w2:¬ 29=nx':=by omega
  have w3:29<nx'+1:=by omega
  rcases hr with rfl|rfl
  ·simp [y2];refine af1 (kX4 @y1 @y2 @p2 @p3) ?_;intros;apply wr;refine zIK (n-(i+1)) ((fun (i:Nat)  =>(⟨140,[(11,iv 0),(10,.own 53),(3,.ptr 0 49 0 0),(1,nilE),(2,lv n),(6,.ptr 1 49 0 0)],54,[(0,some (mchO (itD m i) (.own 29))),(29,some ⟨25,1,false,false,ints .u32 (itD m i).mem⟩),(53,some ⟨90,4,false,false,[]⟩),(1,some ⟨42,49,true,false,[zMR0]⟩)],0⟩:St)) (i+1) ) (fun x=>if x=53 then nx' else x) (by omega) (by rw [hI];exact ⟨i+1,by omega,rfl,trivial,rfl⟩) ⟨rfl,?_,?_,?_,by simp⟩
   ·simp [leT,ltV,lt1,ren,ren1,zAA (n:=(i:Int)+1) (by omega) (by omega),lookO,y1,p2,p3,z0,z1,z2,w0,w1,w2,w3]
   ·simp [leO,lt1,ren1,lookO,y1,p2,p3,z0,z1,z2,w0,w1,w2,w3]
   (simp;try omega)
  simp [y2];refine af1 (kX4 @y1 @y2 @p2 @p3) ?_;intros;apply wr;refine zIK (n-(i+1)) ((fun (i:Nat)  =>(⟨140,[(11,iv 0),(10,.own 53),(3,.ptr 0 49 0 0),(1,nilE),(2,lv n),(6,.ptr 1 49 0 0)],54,[(0,some (mchO (itD m i) (.own 29))),(29,some ⟨25,1,false,false,ints .u32 (itD m i).mem⟩),(53,some ⟨90,4,false,false,[]⟩),(1,some ⟨42,49,true,false,[zMR0]⟩)],0⟩:St)) (i+1) ) (fun x=>if x=53 then nx' else x) (by omega) (by rw [hI];exact ⟨i+1,by omega,rfl,trivial,rfl⟩) ⟨rfl,?_,?_,?_,by simp⟩
  ·simp [leT,ltV,lt1,ren,ren1,zAA (n:=(i:Int)+1) (by omega) (by omega),lookO,y1,p2,p3,z0,z1,z2,w0,w1,w2,w3]
  ·simp [leO,lt1,ren1,lookO,y1,p2,p3,z0,z1,z2,w0,w1,w2,w3]
  (simp;try omega)
 have:i=n:=by omega
 subst this;refine zBy rfl ?_;intros;apply wr;refine zAI ?_;refine zAB ?_;simp
theorem zSW (m:MchD) (h1:m.mem.length<=100000):zAD prog 40 [.st m.row] (.st (rowM m (.new 25 1 (ints .u32 m.mem)))):=by
 refine sX func40 ntmps40 ?_;intros;apply wr;refine cX (zSK m.mem h1) ?_;intros;apply wr;refine zAB ?_;simp
theorem zP4 (m:MchD) (hM:OkM m):zAD prog 122 [.st m.row] (.bool (rdsD m)):=by
 have hr:=zPw m hM;have hc:=zFA hM;obtain ⟨w,hw⟩:∃ w,w=wAt m.mem ((zAK m).cpu.pc / 4):=⟨_,rfl⟩;have hww:W32 w:=by rw [hw];exact zNx hM.w _
 have hl:=zSR m.mem (zAK m).cpu.pc 4 (.inr rfl) hc.pc;have hE:rdsD m=(decide ((zAK m).cpu.csr 0 % 2=1)&&zAR m.mem (zAK m).cpu.pc 4&&validD (decI w)&&decide ((decI w).op=60)&&decide ((decI w).imm=2)):=by rw [hw];rfl
 have hL:zBl m.mem (zAK m).cpu.pc 4=w:=by rw [hw];rfl
 rw [hL] at hl;have hk:=zO9 (hc.csr 0);generalize (zAK m).cpu=c at *
 rw [hE];by_cases h0:c.csr 0 % 2=0
 ·refine sZ func122 ntmps122 ?_;exact wx1 (qX1 (hr)) trivial (kX2 @hk @h0)
 have h1:c.csr 0 % 2=1:=by omega
 cases hwi:zAR m.mem c.pc 4 with
 | false =>
  rw [hwi] at hl;simp only [zWK,if_false] at hl;have hd:=zD8 0 ⟨by omega,by omega⟩
  refine sZ func122 ntmps122 ?_;exact wx1 (qX3 (hr) (hl) (hd)) trivial (kX3 @hk @h1 @decV.eq_1)
 | true =>
  rw [hwi] at hl;simp only [if_true] at hl;have hd:=zD8 w hww;unfold decV at hd;cases hv:validD (decI w) with
  | false =>
   rw [hv,if_neg (by simp)] at hd
   refine sZ func122 ntmps122 ?_;exact wx1 (qX3 (hr) (hl) (hd)) trivial (kX2 @hk @h1)
  | true =>
   rw [hv,if_pos rfl] at hd;refine sZ func122 ntmps122 ?_;exact wx1 (qX3 (hr) (hl) (hd)) trivial (kX2 @hk @h1)
theorem zST {nx:Nat} {ob:List (Nat × Option Ob)} (id j:Nat) (m:MchD) (v:Int) (hob:lookO ob id=some (mchO m (.own j))) (hj:lookO ob j=some (memO m.mem)) (hi:id<nx) (hjn:j<nx) (hne:id≠j) :
  InlC prog 172 [.ptr id 49 0 0,iv 3,uv v] nx ob fun r nx' ob'=>r=.sl 0 true []/\zDB nx ob id j {m with tim:=armD v} nx' ob':=by
 have n1:¬ j=id:=fun e=>hne e.symm
 refine InlC.of func172 rfl (by kernel_rfl) rfl ?_
 simp only [ntmps172,St.startI,argT];refine au1 (kX2 @hob @hj) ?_;intros;apply wr;refine gF00 rfl ?_;intros;apply wr;refine gF00 rfl ?_;intros;apply wr;refine gT01 rfl @hob ?_;intros;apply wr;refine cZ (zVD v) @hob @hob ?_;intros;apply wr;refine zAB ?_;simp;exact ⟨by omega,by simp [lookO],by simp [lookO,n1,hj],fun i h1 h2 h3=>by simp [lookO,h2]⟩
theorem zSU {nx:Nat} {ob:List (Nat × Option Ob)} (id j:Nat) (m:MchD) (v:Int) (hM:OkM m) (hob:lookO ob id=some (mchO m (.own j))) (hj:lookO ob j=some (memO m.mem)) (hi:id<nx) (hjn:j<nx) (hne:id≠j) :
  InlC prog 172 [.ptr id 49 0 0,iv 7,uv v] nx ob fun r nx' ob'=>r=.sl 4 false []/\zDB nx ob id j {m with nc:=(zAa m.nc m.mem 7 v m.count).1} nx' ob':=by
 have n1:¬ j=id:=fun e=>hne e.symm
 have hn:zFe m.nc m.mem 7 v m.count:=zP0 m.nc m.mem 7 v m.count (by omega)
 have hE:(zAa m.nc m.mem 7 v m.count).2=[]:=by simp [zAa]
 unfold zFe at hn;rw [hE] at hn;generalize (zAa m.nc m.mem 7 v m.count).1=N at *
 refine InlC.of func172 rfl (by kernel_rfl) rfl ?_
 simp only [ntmps172,St.startI,argT];refine au1 (kX2 @hob @hj) ?_;intros;apply wr;refine gF00 rfl ?_;intros;apply wr;refine gF00 rfl ?_;intros;apply wr;refine gF00 rfl ?_;intros;apply wr;refine gF00 rfl ?_;intros;apply wr;refine gT01 rfl @hob ?_;intros;apply wr;refine zAE 23 [0,0,2,6,14,0,32,96,224,0,0,0,2048,6144,14336,32766,65534,131070,131070,262143,786431,1835007,4194303] [(22,([[],[],[1],[1,2],[1,2,3],[],[5],[5,6],[5,6,7],[],[],[],[11],[11,12],[11,12,13],[1,2,3,4,5,6,7,8,9,10,11,12,13,14],[1,2,3,4,5,6,7,8,9,10,11,12,13,14,15],[1,2,3,4,5,6,7,8,9,10,11,12,13,14,15,16],[1,2,3,4,5,6,7,8,9,10,11,12,13,14,15,16],[0,1,2,3,4,5,6,7,8,9,10,11,12,13,14,15,16,17],[0,1,2,3,4,5,6,7,8,9,10,11,12,13,14,15,16,17,19],[0,1,2,3,4,5,6,7,8,9,10,11,12,13,14,15,16,17,19,20]],[])),(1,([],[]))] ?_;refine af1 (kX2 @hob @hj) ?_;intros;apply wr;refine ⟨1,_,hn,?_⟩;simp [aftE,noX,noXc,noX1,hob,hj]
 first|refine And.intro zAM ?_|skip
 refine af1 (kX2 @hob @hj) ?_;intros;apply wr;refine zAB ?_;simp;exact ⟨ by omega,by simp [lookO],by simp [lookO,n1,hj],fun i h1 h2 h3=>by simp [lookO,h2]⟩
theorem zSV {nx:Nat} {ob:List (Nat × Option Ob)} (id j:Nat) (m:MchD) (v:Int) (hM:OkM m) (hob:lookO ob id=some (mchO m (.own j))) (hj:lookO ob j=some (memO m.mem)) (hi:id<nx) (hjn:j<nx) (hne:id≠j)(hv:v=2) :
  InlC prog 172 [.ptr id 49 0 0,iv 9,uv v] nx ob fun r nx' ob'=>r=.sl 4 false []/\zDB nx ob id j {m with nc:=(zAa m.nc m.mem 9 v m.count).1} nx' ob':=by
 have n1:¬ j=id:=fun e=>hne e.symm
 have hn:zFe m.nc m.mem 9 v m.count:=zP1 m.nc m.mem v m.count hM.r.a (by omega)
 have hE:(zAa m.nc m.mem 9 v m.count).2=[]:=by (subst hv;simp [zAa])
 unfold zFe at hn;rw [hE] at hn;generalize (zAa m.nc m.mem 9 v m.count).1=N at *
 refine InlC.of func172 rfl (by kernel_rfl) rfl ?_
 simp only [ntmps172,St.startI,argT];refine au1 (kX2 @hob @hj) ?_;intros;apply wr;refine gF00 rfl ?_;intros;apply wr;refine gF00 rfl ?_;intros;apply wr;refine gF00 rfl ?_;intros;apply wr;refine gF00 rfl ?_;intros;apply wr;refine gT01 rfl @hob ?_;intros;apply wr;refine zAE 23 [0,0,2,6,14,0,32,96,224,0,0,0,2048,6144,14336,32766,65534,131070,131070,262143,786431,1835007,4194303] [(22,([[],[],[1],[1,2],[1,2,3],[],[5],[5,6],[5,6,7],[],[],[],[11],[11,12],[11,12,13],[1,2,3,4,5,6,7,8,9,10,11,12,13,14],[1,2,3,4,5,6,7,8,9,10,11,12,13,14,15],[1,2,3,4,5,6,7,8,9,10,11,12,13,14,15,16],[1,2,3,4,5,6,7,8,9,10,11,12,13,14,15,16],[0,1,2,3,4,5,6,7,8,9,10,11,12,13,14,15,16,17],[0,1,2,3,4,5,6,7,8,9,10,11,12,13,14,15,16,17,19],[0,1,2,3,4,5,6,7,8,9,10,11,12,13,14,15,16,17,19,20]],[])),(1,([],[]))] ?_;refine af1 (kX2 @hob @hj) ?_;intros;apply wr;refine ⟨1,_,hn,?_⟩;simp [aftE,noX,noXc,noX1,hob,hj]
 first|refine And.intro zAM ?_|skip
 refine af1 (kX2 @hob @hj) ?_;intros;apply wr;refine zAB ?_;simp;exact ⟨ by omega,by simp [lookO],by simp [lookO,n1,hj],fun i h1 h2 h3=>by simp [lookO,h2]⟩
theorem img_k {k:Int} (l:List Int) (h:k<2):ints .u32 (kW++List.replicate 85 0)++ints .u32 (zCL l)=ints .u32 (imgD k l):=by
 unfold imgD;rw [if_pos h];simp [ints]
theorem img_c {k:Int} (l:List Int) (h:¬ k<2):ints .u32 (zCL l)=ints .u32 (imgD k l):=by
 unfold imgD;rw [if_neg h]
theorem kW_s (i:Nat):ints .u32 (kW++List.replicate i 0)++[[V.int .u32 0]]=ints .u32 (kW++List.replicate (i+1) 0):=by
 rw [List.replicate_succ'];simp [ints]
theorem zRr (kind:Int) (l:List Int) (hl:l.length<=60)
  (hrun:zAD prog 64 [.st (newD (imgD 1 l)).row,nilE,lv 87] (.tup [.st (itD (newD (imgD 1 l)) 87).row,.sl 4 false [],iv 0,iv 0])) :
  zAD prog 24 [iv kind,.sl 1 false (ints .i64 l)] (.st (mkD (kind % 3) l).row):=by
 have hr:=zAn kind 3 (by decide) (by decide)
 have hcode:=zRD l (by omega)
 have hcl:(ints .u32 (zCL l)).length=l.length:=by rw [zAN,zDZ]
 have hil:=zIa (kind % 3) l;have hnew:=zUs (imgD (kind % 3) l) (by omega)
 have hmk:mkD (kind % 3) l=if kind % 3=1 then itD (newD (imgD (kind % 3) l)) 87 else newD (imgD (kind % 3) l):=rfl
 have hil2:¬ (256:Int)<((ints .u32 (imgD (kind % 3) l)).length:Int):=by rw [zAN];omega
 by_cases hk2:kind % 3<2
 ·have hap2:=img_k l hk2;by_cases hk1:kind % 3=1
  ·rw [hmk,if_pos hk1];rw [hk1] at hnew hap2 hil2 ⊢;refine sX func24 ntmps24 ?_;intros;apply wr;refine cX (hr) ?_;intros;apply wr;refine gT10 @hk2 rfl ?_;intros;apply wr;refine cX (As.kernel_ok) ?_;intros;apply wr;obtain ⟨I,hI⟩:∃ I:Nat->St->Prop,I=(fun kk ss=>∃ (i:Nat) ,i<=85/\kk=85-i/\(True)/\ss=⟨47,[(5,.own 3),(0,iv (kind % 3)),(1,.sl 1 false (ints .i64 l)),(4,.ptr 0 49 0 0)],6,[(3,some ⟨25,1,false,false,ints .u32 (kW++List.replicate i 0)⟩),(0,some ⟨42,49,true,false,[zMR0]⟩)],0⟩):=⟨_,rfl⟩
   refine lX I (id) (by rw [hI];exact ⟨0,by simp,rfl,trivial,rfl⟩) ?_
   intro kk ss hIk _
   rw [hI] at hIk;obtain ⟨i,hi,rfl,hx,rfl⟩:=hIk;have hL:(ints .u32 (kW++List.replicate i 0)).length=75+i:=by rw [zAN,zV7,List.length_replicate];rfl
   have hap:=kW_s i;refine au1 @hL ?_;intros;apply wr;refine zAC rfl (fun hh=>?_) (fun hh=>?_)
   ·simp at hh;refine au1 (kX3 @hL @hap @maxLen.eq_1) ?_;intros;apply wr;exact aX (fun x=>if x=3 then 7 else x) (by rw [hI];exact ⟨i+1,by omega,rfl,trivial,rfl⟩) (kX2 (zAA (n:=(i:Int)+1) (by omega) (by omega)) @hap)
   simp at hh;have hi85:i=85:=by omega
   subst hi85;generalize hZ:kW++List.replicate 85 0=Z at hL hap2 ⊢;refine au1 @hL ?_;intros;apply wr;refine cY (hcode) (kX4 @hL @hcl @maxLen.eq_1 @hap2) ?_;intros;apply wr;refine gF11 @hil2 rfl @hil2 ?_;intros;apply wr;refine cX (hnew) ?_;intros;apply wr;refine gT10 @hk1 rfl ?_;intros;apply wr;refine cX (hrun) ?_;intros;apply wr;refine zAI ?_;refine zAB ?_;simp
  rw [hmk,if_neg hk1];refine sX func24 ntmps24 ?_;intros;apply wr;refine cX (hr) ?_;intros;apply wr;refine gT10 @hk2 rfl ?_;intros;apply wr;refine cX (As.kernel_ok) ?_;intros;apply wr;obtain ⟨I,hI⟩:∃ I:Nat->St->Prop,I=(fun kk ss=>∃ (i:Nat) ,i<=85/\kk=85-i/\(True)/\ss=⟨47,[(5,.own 3),(0,iv (kind % 3)),(1,.sl 1 false (ints .i64 l)),(4,.ptr 0 49 0 0)],6,[(3,some ⟨25,1,false,false,ints .u32 (kW++List.replicate i 0)⟩),(0,some ⟨42,49,true,false,[zMR0]⟩)],0⟩):=⟨_,rfl⟩
  refine lX I (id) (by rw [hI];exact ⟨0,by simp,rfl,trivial,rfl⟩) ?_
  intro kk ss hIk _
  rw [hI] at hIk;obtain ⟨i,hi,rfl,hx,rfl⟩:=hIk;have hL:(ints .u32 (kW++List.replicate i 0)).length=75+i:=by rw [zAN,zV7,List.length_replicate];rfl
  have hap:=kW_s i;refine au1 @hL ?_;intros;apply wr;refine zAC rfl (fun hh=>?_) (fun hh=>?_)
  ·simp at hh;refine au1 (kX3 @hL @hap @maxLen.eq_1) ?_;intros;apply wr;exact aX (fun x=>if x=3 then 7 else x) (by rw [hI];exact ⟨i+1,by omega,rfl,trivial,rfl⟩) (kX2 (zAA (n:=(i:Int)+1) (by omega) (by omega)) @hap)
  simp at hh;have hi85:i=85:=by omega
  subst hi85;generalize hZ:kW++List.replicate 85 0=Z at hL hap2 ⊢;refine au1 @hL ?_;intros;apply wr;refine cY (hcode) (kX4 @hL @hcl @maxLen.eq_1 @hap2) ?_;intros;apply wr;refine gF11 @hil2 rfl @hil2 ?_;intros;apply wr;refine cX (hnew) ?_;intros;apply wr;refine gF10 @hk1 rfl ?_;intros;apply wr;refine zAI ?_;refine zAB ?_;simp
 have hap2:=img_c l hk2;rw [hmk,if_neg (by omega)]
 refine sX func24 ntmps24 ?_;intros;apply wr;refine cX (hr) ?_;intros;apply wr;refine gF10 @hk2 rfl ?_;intros;apply wr;refine cY (hcode) (kX3 @hcl @maxLen.eq_1 @hap2) ?_;intros;apply wr;refine gF11 @hil2 rfl @hil2 ?_;intros;apply wr;refine cX (hnew) ?_;intros;apply wr;have hk1:¬ kind % 3=1:=by omega
 refine gF10 @hk1 rfl ?_;intros;apply wr;refine zAI ?_;refine zAB ?_;simp
def aftM (m:MchD) (c:CpuD) (l:List Int):MchD:={m with cpu:=c,mem:=l,waiting:=false}
theorem zS0 (m:MchD):zBu m=aftM m (zAo (zAK m).cpu m.mem).1 (zAo (zAK m).cpu m.mem).2.1:=by
 unfold zBu aftM;have h:({zAK m with cpu:=m.cpu}:MchD)={m with waiting:=false}:=by
  unfold zAK;split
  ·rfl
  split<;>rfl
 have h2:=congrArg (fun x:MchD=>({x with cpu:=(zAo (zAK m).cpu m.mem).1,mem:=(zAo (zAK m).cpu m.mem).2.1}:MchD)) h
 exact h2
theorem zIt {nx:Nat} {ob:List (Nat × Option Ob)} (id j:Nat) (m A:MchD) (c2:CpuD) (M2:List Int) (e:EffD) (hM:OkM m) (hob:lookO ob id=some (mchO m (.own j))) (hj:lookO ob j=some (memO m.mem)) (hi:id<nx) (hjn:j<nx) (hne:id≠j)
  (hdo:∀ {nx:Nat} {ob:List (Nat × Option Ob)},lookO ob j=some (memO m.mem)->j<nx->InlC prog 169 [.st (zAK m).cpu.row,.own j] nx ob fun r nx' ob'=>r=.tup [.st c2.row,.st e.row]/\zFq nx ob j M2 nx' ob')
  (hk:(e.kind=0/\A=aftM m c2 M2)\/(e.kind=2/\A.count=m.count/\∀ {nx:Nat} {ob:List (Nat × Option Ob)},lookO ob id=some (mchO (aftM m c2 M2) (.own j))->lookO ob j=some (memO M2)->id<nx->j<nx->InlC prog 172 [.ptr id 49 0 0,iv e.port,uv e.val] nx ob fun r nx' ob'=>(r=.sl 0 true []\/r=.sl 4 false [])/\zDB nx ob id j A nx' ob')) :
  InlC prog 123 [.ptr id 49 0 0,uv 0] nx ob fun r nx' ob'=>(r=.sl 0 true []\/r=.sl 4 false [])/\zDB nx ob id j {A with count:=m.count+1} nx' ob':=by
 have n1:¬ j=id:=fun e=>hne e.symm
 have k1:¬ id=nx+25:=by omega
 have k2:¬ id=nx+25+1:=by omega
 have k3:¬ nx+25=id:=by omega
 have k4:¬ nx+25+1=id:=by omega
 have l1:¬ j=nx+25:=by omega
 have l2:¬ j=nx+25+1:=by omega
 have l3:¬ nx+25=j:=by omega
 have l4:¬ nx+25+1=j:=by omega
 have hC:=zFA hM;have hct:IntKind.u64.wrap (m.count+1)=m.count+1:=u64_in (by have:=hM.ct;omega) (by have:=hM.ct;omega)
 refine InlC.of func123 rfl (by kernel_rfl) rfl ?_
 simp only [ntmps123,St.startI,argT];refine au1 (kX2 @hob @hj) ?_;intros;apply wr;refine cn1 (zPw m hM) (kX2 @hob @hj) ?_;refine au1 (kX3 @hob @hj @n1) ?_;intros;apply wr;refine zCJ (.node 8 12 (.node 8 13 (.node 12 13 (.leaf [0,1,2,3,4,5,6,7,8,9,10,11,12,13,14,15] (bN [0,1,3,7,0,16,48,112,255,511,1023,1023,511,4607,14335,32767]) [(8,([[],[0],[0,1],[0,1,2],[],[4],[4,5],[4,5,6]],[])),(1,([],[])),(6,([[],[0],[0],[],[3],[0,1,3,4]],[])),(1,([],[]))]) (.leaf [0,1,2,3,4,5,6,7,8,9,10,11,13,12,14,15] (bN [0,1,3,7,0,16,48,112,255,511,1023,1023,511,4607,14335,32767]) [(8,([[],[0],[0,1],[0,1,2],[],[4],[4,5],[4,5,6]],[])),(1,([],[])),(6,([[],[0],[0],[],[3],[0,1,3,4]],[])),(1,([],[]))])) (.leaf [0,1,2,3,4,5,6,7,13,8,9,10,11,12,14,15] (bN [0,1,3,7,0,16,48,112,0,511,1023,2047,2047,1023,12287,32767]) [(9,([[],[0],[0,1],[0,1,2],[],[4],[4,5],[4,5,6],[]],[(3,8),(7,8)])),(1,([],[])),(5,([[],[0],[0],[],[0,1,3]],[])),(1,([],[]))])) (.node 12 13 (.node 8 13 (.leaf [0,1,2,3,4,5,6,7,12,8,9,10,11,13,14,15] (bN [0,1,3,7,0,16,48,112,0,511,1023,2047,2047,1023,12287,32767]) [(9,([[],[0],[0,1],[0,1,2],[],[4],[4,5],[4,5,6],[]],[(3,8),(7,8)])),(1,([],[])),(5,([[],[0],[0],[],[0,1,3]],[])),(1,([],[]))]) (.leaf [0,1,2,3,4,5,6,7,12,13,8,9,10,11,14,15] (bN [0,1,3,7,0,16,48,112,0,256,1023,2047,4095,4095,8191,32767]) [(10,([[],[0],[0,1],[0,1,2],[],[4],[4,5],[4,5,6],[],[8]],[(3,8),(3,9),(7,8),(7,9)])),(1,([],[])),(1,([],[])),(3,([[],[],[0]],[])),(1,([],[]))])) (.leaf [0,1,2,3,4,5,6,7,13,12,8,9,10,11,14,15] (bN [0,1,3,7,0,16,48,112,0,256,1023,2047,4095,4095,8191,32767]) [(10,([[],[0],[0,1],[0,1,2],[],[4],[4,5],[4,5,6],[],[8]],[(3,8),(3,9),(7,8),(7,9)])),(1,([],[])),(1,([],[])),(3,([[],[],[0]],[])),(1,([],[]))]))) (by kernel_rfl) (by kernel_rfl) ?_
 simp only [PT.run]
 repeat' (with_reducible apply And.intro)
 all_goals (simp only [zCO,zWP,List.map_nil,zWN,List.getD_cons_succ];refine af1 (kX11 @hob @hj @n1 @k1 @k2 @k3 @k4 @l1 @l2 @l3 @l4) ?_;intros;apply wr)
 iterate 2
  ·first|refine .inr ((hdo (by simp [lookO,n1,hj,l1,l2,l3,l4]) (by omega)).mono fun r nx' ob' hp=>?_)|refine (hdo (by simp [lookO,n1,hj,l1,l2,l3,l4]) (by omega)).mono fun r nx' ob' hp=>?_|refine ((hdo (by simp [lookO,n1,hj,l1,l2,l3,l4]) (by omega)).mono fun r nx' ob' hp=>?_).2
   simp only [aftI];obtain ⟨rfl,g1,g2,g3⟩:=hp;have y1:=g3 id (by omega) hne
   simp [lookO,k1,k2,k3,k4,l1,l2,l3,l4] at y1;have p1:¬ id=nx':=by omega
   have p2:¬ nx'=id:=by omega
   have p3:¬ id=nx'+1:=by omega
   have p4:¬ nx'+1=id:=by omega
   have q1:¬ j=nx':=by omega
   have q2:¬ j=nx'+1:=by omega
   simp;refine af1 (kX9 @y1 @p1 @p2 @p3 @p4 @k1 @k2 @k3 @k4) ?_;intros;apply wr;rcases hk with ⟨hk0,rfl⟩|⟨hk2,hcA,hout⟩
   ·refine zBO @hk0 rfl ?_;intros;apply wr;refine zBO @hk0 rfl ?_;intros;apply wr;refine zBO @hk0 rfl ?_;intros;apply wr;refine zEH @hk0 rfl (kX9 @y1 @p1 @p2 @p3 @p4 @k1 @k2 @k3 @k4) ?_;intros;apply wr;refine zAB ?_;simp [hct];refine ⟨by omega,by simp [lookO,aftM],by simp [lookO,n1,q1,q2,l1,l2,g2,aftM],fun i h1 h2 h3=>?_⟩
    have a1:¬ i=nx':=by omega
    have a2:¬ i=nx'+1:=by omega
    have a3:¬ i=nx+25:=by omega
    have a4:¬ i=nx+25+1:=by omega
    have ee:=g3 i (by omega) h3
    simp [lookO,a1,a2,a3,a4,h2] at ee;simp [lookO,a1,a2,a3,a4,h2,ee]
   refine zBO @hk2 rfl ?_;intros;apply wr;refine zCw @hk2 rfl (kX9 @y1 @p1 @p2 @p3 @p4 @k1 @k2 @k3 @k4) ?_;intros;apply wr;obtain ⟨na,rfl⟩:∃ na,na=nx':=⟨_,rfl⟩;obtain ⟨oa,rfl⟩:∃ oa,oa=ob':=⟨_,rfl⟩
   first|refine .inr ((hout (by simp [lookO,aftM]) (by simp [lookO,n1,q1,q2,l1,l2,g2]) (by omega) (by omega)).mono fun r nx' ob' hp=>?_)|refine (hout (by simp [lookO,aftM]) (by simp [lookO,n1,q1,q2,l1,l2,g2]) (by omega) (by omega)).mono fun r nx' ob' hp=>?_|refine ((hout (by simp [lookO,aftM]) (by simp [lookO,n1,q1,q2,l1,l2,g2]) (by omega) (by omega)).mono fun r nx' ob' hp=>?_).2
   simp only [aftI];obtain ⟨hr,b1,b2,b3,b4⟩:=hp;rcases hr with rfl|rfl
   ·simp;refine af1 (kX2 @b2 @hcA) ?_;intros;apply wr;refine zAB ?_;simp [hct];refine ⟨by omega,by simp [lookO],by simp [lookO,n1,b3],fun i h1 h2 h3=>?_⟩
    have a1:¬ i=na:=by omega
    have a2:¬ i=na+1:=by omega
    have a3:¬ i=nx+25:=by omega
    have a4:¬ i=nx+25+1:=by omega
    have ee:=g3 i (by omega) h3
    have e2:=b4 i (by omega) h2 h3
    simp [lookO,a1,a2,a3,a4,h2] at ee e2;simp [lookO,a1,a2,a3,a4,h2,ee,e2]
   simp;refine af1 (kX2 @b2 @hcA) ?_;intros;apply wr;refine zAB ?_;simp [hct];refine ⟨by omega,by simp [lookO],by simp [lookO,n1,b3],fun i h1 h2 h3=>?_⟩
   have a1:¬ i=na:=by omega
   have a2:¬ i=na+1:=by omega
   have a3:¬ i=nx+25:=by omega
   have a4:¬ i=nx+25+1:=by omega
   have ee:=g3 i (by omega) h3
   have e2:=b4 i (by omega) h2 h3
   simp [lookO,a1,a2,a3,a4,h2] at ee e2;simp [lookO,a1,a2,a3,a4,h2,ee,e2]
 iterate 2
  ·first|refine .inr ((hdo (by simp [lookO,n1,hj,l1,l2,l3,l4]) (by omega)).mono fun r nx' ob' hp=>?_)|refine (hdo (by simp [lookO,n1,hj,l1,l2,l3,l4]) (by omega)).mono fun r nx' ob' hp=>?_|refine ((hdo (by simp [lookO,n1,hj,l1,l2,l3,l4]) (by omega)).mono fun r nx' ob' hp=>?_).2
   simp only [aftI];obtain ⟨rfl,g1,g2,g3⟩:=hp;have y1:=g3 id (by omega) hne
   have y2:=g3 (nx+25) (by omega) l3
   simp [lookO,k1,k2,k3,k4,l1,l2,l3,l4] at y1;simp [lookO,k1,k2,k3,k4,l1,l2,l3,l4] at y2;have p1:¬ id=nx':=by omega
   have p2:¬ nx'=id:=by omega
   have p3:¬ id=nx'+1:=by omega
   have p4:¬ nx'+1=id:=by omega
   have q1:¬ j=nx':=by omega
   have q2:¬ j=nx'+1:=by omega
   have r1:¬ nx+25=nx':=by omega
   have r2:¬ nx'=nx+25:=by omega
   simp;refine af1 (kX12 @y1 @y2 @p1 @p2 @p3 @p4 @k1 @k2 @k3 @k4 @r1 @r2) ?_;intros;apply wr;rcases hk with ⟨hk0,rfl⟩|⟨hk2,hcA,hout⟩
   ·refine zBO @hk0 rfl ?_;intros;apply wr;refine zBO @hk0 rfl ?_;intros;apply wr;refine zBO @hk0 rfl ?_;intros;apply wr;refine zEH @hk0 rfl (kX12 @y1 @y2 @p1 @p2 @p3 @p4 @k1 @k2 @k3 @k4 @r1 @r2) ?_;intros;apply wr;refine zAB ?_;simp [hct];refine ⟨by omega,by simp [lookO,aftM],by simp [lookO,n1,q1,q2,l1,l2,g2,aftM],fun i h1 h2 h3=>?_⟩
    have a1:¬ i=nx':=by omega
    have a2:¬ i=nx'+1:=by omega
    have a3:¬ i=nx+25:=by omega
    have a4:¬ i=nx+25+1:=by omega
    have ee:=g3 i (by omega) h3
    simp [lookO,a1,a2,a3,a4,h2] at ee;simp [lookO,a1,a2,a3,a4,h2,ee]
   refine zBO @hk2 rfl ?_;intros;apply wr;refine zCw @hk2 rfl (kX12 @y1 @y2 @p1 @p2 @p3 @p4 @k1 @k2 @k3 @k4 @r1 @r2) ?_;intros;apply wr;obtain ⟨na,rfl⟩:∃ na,na=nx':=⟨_,rfl⟩;obtain ⟨oa,rfl⟩:∃ oa,oa=ob':=⟨_,rfl⟩
   first|refine .inr ((hout (by simp [lookO,aftM]) (by simp [lookO,n1,q1,q2,l1,l2,g2]) (by omega) (by omega)).mono fun r nx' ob' hp=>?_)|refine (hout (by simp [lookO,aftM]) (by simp [lookO,n1,q1,q2,l1,l2,g2]) (by omega) (by omega)).mono fun r nx' ob' hp=>?_|refine ((hout (by simp [lookO,aftM]) (by simp [lookO,n1,q1,q2,l1,l2,g2]) (by omega) (by omega)).mono fun r nx' ob' hp=>?_).2
   simp only [aftI];obtain ⟨hr,b1,b2,b3,b4⟩:=hp;rcases hr with rfl|rfl
   ·simp;refine af1 (kX2 @b2 @hcA) ?_;intros;apply wr;refine zAB ?_;simp [hct];refine ⟨by omega,by simp [lookO],by simp [lookO,n1,b3],fun i h1 h2 h3=>?_⟩
    have a1:¬ i=na:=by omega
    have a2:¬ i=na+1:=by omega
    have a3:¬ i=nx+25:=by omega
    have a4:¬ i=nx+25+1:=by omega
    have ee:=g3 i (by omega) h3
    have e2:=b4 i (by omega) h2 h3
    simp [lookO,a1,a2,a3,a4,h2] at ee e2;simp [lookO,a1,a2,a3,a4,h2,ee,e2]
   simp;refine af1 (kX2 @b2 @hcA) ?_;intros;apply wr;refine zAB ?_;simp [hct];refine ⟨by omega,by simp [lookO],by simp [lookO,n1,b3],fun i h1 h2 h3=>?_⟩
   have a1:¬ i=na:=by omega
   have a2:¬ i=na+1:=by omega
   have a3:¬ i=nx+25:=by omega
   have a4:¬ i=nx+25+1:=by omega
   have ee:=g3 i (by omega) h3
   have e2:=b4 i (by omega) h2 h3
   simp [lookO,a1,a2,a3,a4,h2] at ee e2;simp [lookO,a1,a2,a3,a4,h2,ee,e2]
 iterate 2
  ·first|refine .inr ((hdo (by simp [lookO,n1,hj,l1,l2,l3,l4]) (by omega)).mono fun r nx' ob' hp=>?_)|refine (hdo (by simp [lookO,n1,hj,l1,l2,l3,l4]) (by omega)).mono fun r nx' ob' hp=>?_|refine ((hdo (by simp [lookO,n1,hj,l1,l2,l3,l4]) (by omega)).mono fun r nx' ob' hp=>?_).2
   simp only [aftI];obtain ⟨rfl,g1,g2,g3⟩:=hp;have y1:=g3 id (by omega) hne
   have y2:=g3 (nx+25) (by omega) l3
   have y3:=g3 (nx+25+1) (by omega) l4
   simp [lookO,k1,k2,k3,k4,l1,l2,l3,l4] at y1;simp [lookO,k1,k2,k3,k4,l1,l2,l3,l4] at y2;simp [lookO,k1,k2,k3,k4,l1,l2,l3,l4] at y3;have p1:¬ id=nx':=by omega
   have p2:¬ nx'=id:=by omega
   have p3:¬ id=nx'+1:=by omega
   have p4:¬ nx'+1=id:=by omega
   have q1:¬ j=nx':=by omega
   have q2:¬ j=nx'+1:=by omega
   simp;refine af1 (kX11 @y1 @y2 @y3 @p1 @p2 @p3 @p4 @k1 @k2 @k3 @k4) ?_;intros;apply wr;rcases hk with ⟨hk0,rfl⟩|⟨hk2,hcA,hout⟩
   ·refine zBO @hk0 rfl ?_;intros;apply wr;refine zBO @hk0 rfl ?_;intros;apply wr;refine zBO @hk0 rfl ?_;intros;apply wr;refine zEH @hk0 rfl (kX11 @y1 @y2 @y3 @p1 @p2 @p3 @p4 @k1 @k2 @k3 @k4) ?_;intros;apply wr;refine zAB ?_;simp [hct];refine ⟨by omega,by simp [lookO,aftM],by simp [lookO,n1,q1,q2,l1,l2,g2,aftM],fun i h1 h2 h3=>?_⟩
    have a1:¬ i=nx':=by omega
    have a2:¬ i=nx'+1:=by omega
    have a3:¬ i=nx+25:=by omega
    have a4:¬ i=nx+25+1:=by omega
    have ee:=g3 i (by omega) h3
    simp [lookO,a1,a2,a3,a4,h2] at ee;simp [lookO,a1,a2,a3,a4,h2,ee]
   refine zBO @hk2 rfl ?_;intros;apply wr;refine zCw @hk2 rfl (kX11 @y1 @y2 @y3 @p1 @p2 @p3 @p4 @k1 @k2 @k3 @k4) ?_;intros;apply wr;obtain ⟨na,rfl⟩:∃ na,na=nx':=⟨_,rfl⟩;obtain ⟨oa,rfl⟩:∃ oa,oa=ob':=⟨_,rfl⟩
   first|refine .inr ((hout (by simp [lookO,aftM]) (by simp [lookO,n1,q1,q2,l1,l2,g2]) (by omega) (by omega)).mono fun r nx' ob' hp=>?_)|refine (hout (by simp [lookO,aftM]) (by simp [lookO,n1,q1,q2,l1,l2,g2]) (by omega) (by omega)).mono fun r nx' ob' hp=>?_|refine ((hout (by simp [lookO,aftM]) (by simp [lookO,n1,q1,q2,l1,l2,g2]) (by omega) (by omega)).mono fun r nx' ob' hp=>?_).2
   simp only [aftI];obtain ⟨hr,b1,b2,b3,b4⟩:=hp;rcases hr with rfl|rfl
   ·simp;refine af1 (kX2 @b2 @hcA) ?_;intros;apply wr;refine zAB ?_;simp [hct];refine ⟨by omega,by simp [lookO],by simp [lookO,n1,b3],fun i h1 h2 h3=>?_⟩
    have a1:¬ i=na:=by omega
    have a2:¬ i=na+1:=by omega
    have a3:¬ i=nx+25:=by omega
    have a4:¬ i=nx+25+1:=by omega
    have ee:=g3 i (by omega) h3
    have e2:=b4 i (by omega) h2 h3
    simp [lookO,a1,a2,a3,a4,h2] at ee e2;simp [lookO,a1,a2,a3,a4,h2,ee,e2]
   simp;refine af1 (kX2 @b2 @hcA) ?_;intros;apply wr;refine zAB ?_;simp [hct];refine ⟨by omega,by simp [lookO],by simp [lookO,n1,b3],fun i h1 h2 h3=>?_⟩
   have a1:¬ i=na:=by omega
   have a2:¬ i=na+1:=by omega
   have a3:¬ i=nx+25:=by omega
   have a4:¬ i=nx+25+1:=by omega
   have ee:=g3 i (by omega) h3
   have e2:=b4 i (by omega) h2 h3
   simp [lookO,a1,a2,a3,a4,h2] at ee e2;simp [lookO,a1,a2,a3,a4,h2,ee,e2]
theorem zTn {nx:Nat} {ob:List (Nat × Option Ob)} (id j:Nat) (m:MchD) (hM:OkM m) (hob:lookO ob id=some (mchO m (.own j))) (hj:lookO ob j=some (memO m.mem)) (hi:id<nx) (hjn:j<nx) (hne:id≠j) (hq:zKG m=true) (hsl:zSd m=true) :
  InlC prog 123 [.ptr id 49 0 0,uv 0] nx ob fun r nx' ob'=>(r=.sl 0 true []\/r=.sl 4 false [])/\zDB nx ob id j (goD m 0).1 nx' ob':=by
 have hsl1:zDU (zAK m).cpu=false:=by unfold zSd at hsl;simp only [zV5,zWW] at hsl;exact hsl.1
 have hsl2:sOp (decI (wAt (zAF (zAK m).cpu m.mem (zAK m).cpu.pc 4 1).2.1 ((zAF (zAK m).cpu m.mem (zAK m).cpu.pc 4 1).1 / 4))).op:=by
  unfold zSd at hsl;simp only [zV5] at hsl;have h2:=hsl.2;simp only [List.contains_cons,List.contains_nil,Bool.or_eq_true,beq_iff_eq,Bool.or_false] at h2;exact h2
 have hdo:∀ {nx:Nat} {ob:List (Nat × Option Ob)},lookO ob j=some (memO m.mem)->j<nx->InlC prog 169 [.st (zAK m).cpu.row,.own j] nx ob fun r nx' ob'=>r=.tup [.st (zAo (zAK m).cpu m.mem).1.row,.st (zAo (zAK m).cpu m.mem).2.2.row]/\zFq nx ob j (zAo (zAK m).cpu m.mem).2.1 nx' ob':=fun h1 h2=>rdo_ok j (zAK m).cpu m.mem (zFA hM) hM.w hsl1 hsl2 h1 h2
 have hgo:(goD m 0).1={(zBH (aftM m (zAo (zAK m).cpu m.mem).1 (zAo (zAK m).cpu m.mem).2.1) (zAo (zAK m).cpu m.mem).2.2 0 m.count).1 with count:=(zBH (aftM m (zAo (zAK m).cpu m.mem).1 (zAo (zAK m).cpu m.mem).2.1) (zAo (zAK m).cpu m.mem).2.2 0 m.count).1.count+1}:=by
  unfold goD;rw [zS0];rfl
 have hMA:=(zFz hM).1;rw [zS0] at hMA;unfold zKG effD at hq;generalize zAo (zAK m).cpu m.mem=E at *
 obtain ⟨c2,M2,e⟩:=E;simp only [Bool.or_eq_true,zV5,decide_eq_true_eq] at hdo hgo hMA hq;rcases hq with hk|⟨hk,hp⟩
 ·have hd:zBH (aftM m c2 M2) e 0 m.count=(aftM m c2 M2,[]):=by
   unfold zBH;rw [if_neg (by omega),if_neg (by omega),if_neg (by omega),if_neg (by omega)]
  rw [hd] at hgo;rw [hgo];exact zIt id j m (aftM m c2 M2) c2 M2 e hM hob hj hi hjn hne hdo (.inl ⟨hk,rfl⟩)
 have hd:zBH (aftM m c2 M2) e 0 m.count=zAJ (aftM m c2 M2) e.port e.val m.count:=by
  unfold zBH;rw [if_neg (by omega),if_pos hk]
 rw [hd] at hgo;rcases hp with (hp|hp)|⟨hp,hv⟩
 ·have hw:(zAJ (aftM m c2 M2) e.port e.val m.count).1={aftM m c2 M2 with tim:=armD e.val}:=by unfold zAJ;rw [hp];rfl
  rw [hw] at hgo;rw [hgo];refine zIt id j m {aftM m c2 M2 with tim:=armD e.val} c2 M2 e hM hob hj hi hjn hne hdo (.inr ⟨hk,rfl,fun h1 h2 h3 h4=>?_⟩)
  rw [hp];exact (zST id j (aftM m c2 M2) e.val h1 h2 h3 h4 hne).mono fun r nx' ob' h=>⟨.inl h.1,h.2⟩
 ·have hw:(zAJ (aftM m c2 M2) e.port e.val m.count).1={aftM m c2 M2 with nc:=(zAa (aftM m c2 M2).nc (aftM m c2 M2).mem 7 e.val (aftM m c2 M2).count).1}:=by unfold zAJ;rw [hp];rfl
  rw [hw] at hgo;rw [hgo];refine zIt id j m {aftM m c2 M2 with nc:=(zAa (aftM m c2 M2).nc (aftM m c2 M2).mem 7 e.val (aftM m c2 M2).count).1} c2 M2 e hM hob hj hi hjn hne hdo (.inr ⟨hk,rfl,fun h1 h2 h3 h4=>?_⟩)
  rw [hp];exact (zSU id j (aftM m c2 M2) e.val hMA h1 h2 h3 h4 hne).mono fun r nx' ob' h=>⟨.inr h.1,h.2⟩
 have hw:(zAJ (aftM m c2 M2) e.port e.val m.count).1={aftM m c2 M2 with nc:=(zAa (aftM m c2 M2).nc (aftM m c2 M2).mem 9 e.val (aftM m c2 M2).count).1}:=by unfold zAJ;rw [hp];rfl
 rw [hw] at hgo;rw [hgo];refine zIt id j m {aftM m c2 M2 with nc:=(zAa (aftM m c2 M2).nc (aftM m c2 M2).mem 9 e.val (aftM m c2 M2).count).1} c2 M2 e hM hob hj hi hjn hne hdo (.inr ⟨hk,rfl,fun h1 h2 h3 h4=>?_⟩)
 rw [hp];exact (zSV id j (aftM m c2 M2) e.val hMA h1 h2 h3 h4 hne hv).mono fun r nx' ob' h=>⟨.inr h.1,h.2⟩
theorem zVS (l:List Int) (hl:l.length<=60):zAD prog 64 [.st (newD (imgD 1 l)).row,nilE,lv 87] (.tup [.st (itD (newD (imgD 1 l)) 87).row,.sl 4 false [],iv 0,iv 0]):=by
 have hi:=zIa 1 l;have h1:=zTR (zTH 1 l) (by omega)
 have h2:=zMF (w:=imgD 1 l) (by omega)
 have hq:∀ j<87,zGz (itD (newD (imgD 1 l)) j)=true:=by
  intro j hj
  rw [zTQ l hl];exact List.all_eq_true.1 (k_q1 fun i=>(zCL l).getD i 0) j (List.mem_range.2 hj)
 have h0:(newD (imgD 1 l)).count=0:=rfl;generalize newD (imgD 1 l)=m at *
 have hit:∀ k≤87,OkM (itD m k)/\mayD (itD m k)=true/\(itD m k).count=k/\(itD m k).dk=m.dk:=fun k hk=>it_ok h1 h2 h0 k (by omega) fun j hj=>hq j (by omega)
 refine run_ok m 87 h2 ⟨h1.gv.1,by have:=h1.gv.2;omega⟩ h0 (by omega) (by have:=h1.n;omega) (fun k hk=>?_) (fun k hk=>(hit k hk).2.2.1) (fun k hk=>zSQ _ (hit k (by omega)).1) (fun k hk=>zP4 _ (hit k (by omega)).1) (zSW m (by have:=h1.n;omega)) (fun k hk {nx ob} id j g1 g2 g3 g4 g5=>?_)
 ·have q:=hq k hk;unfold zGz at q;simp only [zV5,zWW] at q;exact ⟨q.1,q.2.1,q.2.2.1⟩
 have q:=hq k hk;unfold zGz at q;simp only [zV5,zWW] at q;exact zTn id j (itD m k) (hit k (by omega)).1 g1 g2 g3 g4 g5 q.2.2.2.1 q.2.2.2.2
theorem zMC (kind:Int) (l:List Int) (hl:l.length<=60):zAD prog 24 [iv kind,.sl 1 false (ints .i64 l)] (.st (mkD (kind % 3) l).row):=zRr kind l hl (zVS l hl)
end Go.Proofs.YthjpcmecgjfilaaGreat
end
section
namespace Go.Proofs.YthjpcmecgjfilaaGreat

end Go.Proofs.YthjpcmecgjfilaaGreat
end
