/- A part of the proof of ReplicaFollows. -/
import Derived.Test.YthjpcmecgjfilaaGreatB04
import Derived.Test.YthjpcmecgjfilaaGreatB18
import Derived.Test.YthjpcmecgjfilaaGreatB20
import Derived.Test.YthjpcmecgjfilaaGreatB24
import Derived.Test.YthjpcmecgjfilaaGreatB32
set_option linter.unusedSimpArgs false
set_option linter.unusedVariables false
set_option maxHeartbeats 16000000
set_option maxRecDepth 100000
section
namespace Go.Proofs.YthjpcmecgjfilaaGreat
open Go.Ab Go.RowKit Tryz
abbrev memO (l:List Int):Ob:=⟨25,1,false,false,ints .u32 l⟩
theorem zJB {nx:Nat} {ob:List (Nat × Option Ob)} (j:Nat) (l:List Int) (a v:Int) (ha:W32 a) (hj:lookO ob j=some (memO l)) (hi:(a / 4).toNat<l.length) :
  InlC prog 198 [.own j,uv a,iv 4,uv v] nx ob fun r nx' ob'=>r=.tup []/\nx'=nx/\ob'=(j,some (memO (zBi l a 4 v)))::ob:=by
 have e1:=zOA ha;have e3:=zAM .u32 l;have e7:(0:Int)<=a / 4:=by have:=ha.1;omega
 have e8:a / 4<(l.length:Int):=by omega
 refine InlC.of func198 rfl (by kernel_rfl) rfl ?_
 simp only [ntmps198,St.startI,argT];refine au1 (kX2 @hj @e1) ?_;intros;apply wr;refine cT0 rfl ?_;have e2:=zBp (k:=.u32) (zFk hi);have g2:∀ h,(ints .u32 l)[(a / 4).toNat]'h=[uv (wAt l (a / 4))]:=fun h=>by rw [zWH h] at e2;simpa using e2
 refine au1 (kX6 @hj @e1 @e3 @e2 @g2 @ints_set) ?_;intros;apply wr;refine zAB ?_;simp [zBi,ints_set]
theorem zJA {nx:Nat} {ob:List (Nat × Option Ob)} (j:Nat) (l:List Int) (a v:Int) (ha:W32 a) (hl:OkW l) (hj:lookO ob j=some (memO l)) (hi:(a / 4).toNat<l.length) :
  InlC prog 198 [.own j,uv a,iv 1,uv v] nx ob fun r nx' ob'=>r=.tup []/\nx'=nx/\ob'=(j,some (memO (zBi l a 1 v)))::ob:=by
 have e1:=zOA ha;have e3:=zAM .u32 l;have e4:=zJG ha.1;have e5:IntKind.u32.wrap (8*(a % 4))=8*(a % 4):=u32_in (by omega) (by omega)
 have e7:(0:Int)<=a / 4:=by have:=ha.1;omega
 have e8:a / 4<(l.length:Int):=by omega
 have e9:min (8*(a % 4)).toNat 32=(8*(a % 4)).toNat:=by omega
 obtain ⟨w,hw'⟩:∃ w,w=wAt l (a / 4):=⟨_,rfl⟩;have e2:=zBp (k:=.u32) (zFk hi);rw [<- hw'] at e2;have hw2:=hw'.symm;have hs:=setB w v (a % 4) (by rw [hw'];exact zLi hl _) (by omega)
 have ha4:a % 4=0\/a % 4=1\/a % 4=2\/a % 4=3:=by omega
 have f1:IntKind.u32.wrap (255*2 ^ (8*(a % 4)).toNat)=255*2 ^ (8*(a % 4)).toNat:=by
  rcases ha4 with h|h|h|h<;>rw [h]<;>decide
 have f2:IntKind.u32.wrap (v % 256*2 ^ (8*(a % 4)).toNat)=v % 256*2 ^ (8*(a % 4)).toNat:=by
  rcases ha4 with h|h|h|h<;>rw [h]<;>exact u32_in (by simp;omega) (by simp;omega)
 refine InlC.of func198 rfl (by kernel_rfl) rfl ?_
 simp only [ntmps198,St.startI,argT];refine au1 (kX4 @hj @e1 @e4 @e5) ?_;intros;apply wr;refine cF0 rfl ?_;have g2:∀ h,(ints .u32 l)[(a / 4).toNat]'h=[uv w]:=fun h=>by rw [zWH h] at e2;simpa using e2
 refine au1 (kX13 @hj @e1 @e2 @e3 @e4 @e5 @e9 @f1 @f2 @hs @g2 @zBo @ints_set) ?_;intros;apply wr;simp [zBi,ints_set,hw2]
def zEZ (nx:Nat) (ob:List (Nat × Option Ob)) (j:Nat) (l:List Int) (nx':Nat) (ob':List (Nat × Option Ob)):Prop :=
 nx<=nx'/\lookO ob' j=some (memO l)/\∀ i,i<nx->i≠j->lookO ob' i=lookO ob i
theorem zFd {nx:Nat} {ob:List (Nat × Option Ob)} (j:Nat) (l:List Int) (hj:lookO ob j=some (memO l)) :
  InlC prog 93 [.own j] nx ob fun r nx' ob'=>r=iv (pagesD l)/\nx'=nx/\ob'=ob:=by
 have e3:=zAM .u32 l;refine InlC.of func93 rfl (by kernel_rfl) rfl ?_
 simp only [ntmps93,St.startI,argT];refine au1 (kX2 @hj @e3) ?_;intros;apply wr;exact wx1 trivial trivial (kX3 @hj @e3 @pagesD.eq_1)
theorem zDN {nx:Nat} {ob:List (Nat × Option Ob)} (j:Nat) (l:List Int) (a s:Int) (hj:lookO ob j=some (memO l)) (hs:s=1\/s=4) (ha:W32 a) :
  InlC prog 212 [.own j,uv a,iv s] nx ob fun r nx' ob'=>r=.bool (zAR l a s)/\nx'=nx/\ob'=ob:=by
 have hpg:=zAc l;have e1:IntKind.i64.wrap (128*pagesD l)=128*pagesD l:=zAA (by omega) (by omega)
 have e2:IntKind.u32.wrap (128*pagesD l)=128*pagesD l:=u32_in (by omega) (by omega)
 have e5:=zJG ha.1;rcases hs with rfl|rfl
 ·have e6:zAR l a 1=decide (a<128*pagesD l):=by
   have:(a+1<=pagesD l*128)=(a<128*pagesD l):=by apply propext;omega
   unfold zAR;simp [this]
  refine InlC.of func212 rfl (by kernel_rfl) rfl ?_
  simp only [ntmps212,St.startI,argT];refine au ?_;intros;apply wr;refine gF01 rfl (kX3 @e5 @u32c @u64c) ?_;intros;apply wr
  first|refine .inr ((zFd j l hj).mono fun r nx' ob' hp=>?_)|refine (zFd j l hj).mono fun r nx' ob' hp=>?_|refine ((zFd j l hj).mono fun r nx' ob' hp=>?_).2
  simp only [aftI];obtain ⟨rfl,rfl,rfl⟩:=hp;simp [e1,e2];refine au ?_;intros;apply wr;refine zAB ?_;simp [e6]
 by_cases h4:a % 4=0
 ·have e6:zAR l a 4=decide (a<128*pagesD l):=by
   unfold zAR;have:(a+4<=pagesD l*128)=(a<128*pagesD l):=by apply propext;omega
   simp [h4,this]
  refine InlC.of func212 rfl (by kernel_rfl) rfl ?_
  simp only [ntmps212,St.startI,argT];refine au ?_;intros;apply wr;refine gF01 rfl (kX4 @e5 @h4 @u32c @u64c) ?_;intros;apply wr
  first|refine .inr ((zFd j l hj).mono fun r nx' ob' hp=>?_)|refine (zFd j l hj).mono fun r nx' ob' hp=>?_|refine ((zFd j l hj).mono fun r nx' ob' hp=>?_).2
  simp only [aftI];obtain ⟨rfl,rfl,rfl⟩:=hp;simp [e1,e2];refine au ?_;intros;apply wr;refine zAB ?_;simp [e6]
 have e6:zAR l a 4=false:=by
  unfold zAR;simp [h4]
 have hb:(a % 4==0)=false:=by simp [h4]
 refine InlC.of func212 rfl (by kernel_rfl) rfl ?_
 simp only [ntmps212,St.startI,argT];refine au ?_;intros;apply wr;refine gF01 rfl (kX4 @e5 @hb @u32c @u64c) ?_;intros;apply wr;refine zAB ?_;simp [e6]
theorem zQF {nx:Nat} {ob:List (Nat × Option Ob)} (j:Nat) (l:List Int) (a s:Int) (hj:lookO ob j=some (memO l)) (hs:s=1\/s=4) (ha:W32 a) :
  InlC prog 167 [.own j,uv a,iv s] nx ob fun r nx' ob'=>r=.tup [uv (if zAR l a s=true then zBs l a s else 0),.bool (zAR l a s)]/\nx'=nx/\ob'=ob:=by
 have hW:InlC prog 212 [.own j,uv a,iv s] nx ob fun r nx' ob'=>r=.bool (zAR l a s)/\nx'=nx/\ob'=ob:=zDN j l a s hj hs ha
 cases hw:zAR l a s with
 | false =>
  rw [hw] at hW;refine InlC.of func167 rfl (by kernel_rfl) rfl ?_
  simp only [ntmps167,St.startI,argT];refine au ?_;intros;apply wr
  first|refine .inr ((hW).mono fun r nx' ob' hp=>?_)|refine (hW).mono fun r nx' ob' hp=>?_|refine ((hW).mono fun r nx' ob' hp=>?_).2
  simp only [aftI];obtain ⟨rfl,rfl,rfl⟩:=hp;simp;refine au ?_;intros;apply wr;refine gT00 rfl ?_;intros;apply wr;refine zAB ?_;simp
 | true =>
  rw [hw] at hW;have hi:=zCe hw ha.1;have e1:=zOA ha;obtain ⟨w,hw'⟩:∃ w,w=wAt l (a / 4):=⟨_,rfl⟩;have e2:=zBp (k:=.u32) (zFk hi);rw [<- hw'] at e2;have g2:∀ h,(ints .u32 l)[(a / 4).toNat]'h=[uv w]:=fun h=>by rw [zWH h] at e2;simpa using e2
  have hw2:=hw'.symm;have e3:=zAM .u32 l;have e4:=zJG ha.1;have e5:IntKind.u32.wrap (8*(a % 4))=8*(a % 4):=u32_in (by omega) (by omega)
  have e6:w.fdiv (2 ^ min (8*(a % 4)).toNat 32)=w / 2 ^ (8*(a % 4)).toNat:=by
   rw [Nat.min_eq_left (by omega),zWQ _ (Int.le_of_lt (Int.pow_pos (by decide)))]
  have e7:(0:Int)<=a / 4:=by have:=ha.1;omega
  have e8:a / 4<(l.length:Int):=by omega
  have e9:w / 2 ^ (8*(a % 4)).toNat % 256=byteAt w (a % 4):=rfl;rcases hs with rfl|rfl
  ·refine InlC.of func167 rfl (by kernel_rfl) rfl ?_
   simp only [ntmps167,St.startI,argT];refine au ?_;intros;apply wr
   first|refine .inr ((hW).mono fun r nx' ob' hp=>?_)|refine (hW).mono fun r nx' ob' hp=>?_|refine ((hW).mono fun r nx' ob' hp=>?_).2
   simp only [aftI];obtain ⟨rfl,rfl,rfl⟩:=hp;simp;refine au ?_;intros;apply wr;refine gF01 rfl (kX5 @hj @e1 @e2 @e3 @g2) ?_;intros;apply wr;refine gT01 rfl (kX5 @e4 @e5 @e6 @e9 @zBo) ?_;intros;apply wr;refine zAB ?_;simp [zBs,hw2]
  refine InlC.of func167 rfl (by kernel_rfl) rfl ?_
  simp only [ntmps167,St.startI,argT];refine au ?_;intros;apply wr
  first|refine .inr ((hW).mono fun r nx' ob' hp=>?_)|refine (hW).mono fun r nx' ob' hp=>?_|refine ((hW).mono fun r nx' ob' hp=>?_).2
  simp only [aftI];obtain ⟨rfl,rfl,rfl⟩:=hp;simp;refine au ?_;intros;apply wr;refine gF01 rfl (kX5 @hj @e1 @e2 @e3 @g2) ?_;intros;apply wr;refine gF00 rfl ?_;intros;apply wr;refine zAB ?_;simp [zBs,hw2]
theorem zKV {nx:Nat} {ob:List (Nat × Option Ob)} (j:Nat) (c:CpuD) (l:List Int) (va acc:Int) (hC:OkC c) (hv:W32 va) (ha:acc=1\/acc=3) (hp0:zDX c=false) (hj:lookO ob j=some (memO l)) (hjn:j<nx) :
  InlC prog 213 [.st c.row,.own j,uv va,iv 4,iv acc] nx ob fun r nx' ob'=>r=.tup [uv (zAE c l va 4 acc).1,iv (zAE c l va 4 acc).2.2]/\zEZ nx ob j (zAE c l va 4 acc).2.1 nx' ob':=by
 have n1:¬ j=nx:=by omega
 have n2:¬ nx=j:=by omega
 have hc:zAD prog 275 [iv acc] (iv (acc+3)):=by
  have:=zP2 acc;rcases ha with rfl|rfl<;>simpa using this
 have hk:zAD prog 273 [iv acc] (.bool true):=by
  have:=zQD acc;rcases ha with rfl|rfl<;>simpa using this
 have hpa:=zQJ c hC;have e4:=zJG hv.1;by_cases hm:va % 4=0
 ·rw [hp0] at hpa;cases hwi:zAR l va 4 with
  | true =>
   have hE:zAE c l va 4 acc=(va,l,0):=by unfold zAE;rw [if_neg (by omega),if_neg (by simp [hp0]),if_pos hwi]
   rw [hE];refine InlC.of func213 rfl (by kernel_rfl) rfl ?_
   simp only [ntmps213,St.startI,argT];refine au ?_;intros;apply wr;refine cX (hk) ?_;intros;apply wr;refine gF01 rfl (kX3 @u32c @e4 @hm) ?_;intros;apply wr;refine gF10 @hm rfl ?_;intros;apply wr;refine cX (hpa) ?_;intros;apply wr;refine gT00 rfl ?_;intros;apply wr
   first|refine .inr ((zDN j l va 4 (by simp [lookO,n1,hj]) (by omega) hv).mono fun r nx' ob' hp=>?_)|refine (zDN j l va 4 (by simp [lookO,n1,hj]) (by omega) hv).mono fun r nx' ob' hp=>?_|refine ((zDN j l va 4 (by simp [lookO,n1,hj]) (by omega) hv).mono fun r nx' ob' hp=>?_).2
   simp only [aftI];obtain ⟨rfl,rfl,rfl⟩:=hp;simp [hwi];refine au ?_;intros;apply wr;refine gF00 rfl ?_;intros;apply wr;refine zAB ?_;simp [zEZ,lookO,n1,hj];refine ⟨by omega,fun i h1 h2=>?_⟩
   first|(intro h3;omega)|(have r1:¬ i=nx:=by omega;simp [r1])
  | false =>
   have hE:zAE c l va 4 acc=(0,l,acc+3):=by unfold zAE;rw [if_neg (by omega),if_neg (by simp [hp0]),if_neg (by simp [hwi])]
   rw [hE];refine InlC.of func213 rfl (by kernel_rfl) rfl ?_
   simp only [ntmps213,St.startI,argT];refine au ?_;intros;apply wr;refine cX (hk) ?_;intros;apply wr;refine gF01 rfl (kX3 @u32c @e4 @hm) ?_;intros;apply wr;refine gF10 @hm rfl ?_;intros;apply wr;refine cX (hpa) ?_;intros;apply wr;refine gT00 rfl ?_;intros;apply wr
   first|refine .inr ((zDN j l va 4 (by simp [lookO,n1,hj]) (by omega) hv).mono fun r nx' ob' hp=>?_)|refine (zDN j l va 4 (by simp [lookO,n1,hj]) (by omega) hv).mono fun r nx' ob' hp=>?_|refine ((zDN j l va 4 (by simp [lookO,n1,hj]) (by omega) hv).mono fun r nx' ob' hp=>?_).2
   simp only [aftI];obtain ⟨rfl,rfl,rfl⟩:=hp;simp [hwi];refine au ?_;intros;apply wr;refine gT00 rfl ?_;intros;apply wr;refine cX (hc) ?_;intros;apply wr;refine zAB ?_;simp [zEZ,lookO,n1,hj];refine ⟨by omega,fun i h1 h2=>?_⟩
   first|(intro h3;omega)|(have r1:¬ i=nx:=by omega;simp [r1])
 have hE:zAE c l va 4 acc=(0,l,3):=by unfold zAE;rw [if_pos hm]
 rw [hE];refine InlC.of func213 rfl (by kernel_rfl) rfl ?_
 simp only [ntmps213,St.startI,argT];refine au ?_;intros;apply wr;refine cX (hk) ?_;intros;apply wr;refine gF01 rfl (kX2 @u32c @e4) ?_;intros;apply wr;refine gT10 @hm rfl ?_;intros;apply wr;refine zAB ?_;simp [zEZ,lookO,n1,hj];refine ⟨by omega,fun i h1 h2=>?_⟩
 first|(intro h3;omega)|(have r1:¬ i=nx:=by omega;simp [r1])
theorem zJN {C D E G:Prop} (c:C) (d:D) (e:E) (t:C->D->E->G:=by intro c d e;(refine af1 e ?_;intros;apply wr);repeat' ((first|(refine zAC rfl (fun h=>?_) (fun h=>?_)<;>(first|(simp [e] at h;done)|(simp [e] at h)|skip)<;>(first|(exfalso;omega)|skip))|((first|refine .inl ⟨1,_,d.1,?_⟩|refine ⟨1,_,d.1,?_⟩);simp [aftC,aftE,noX,noXc,noX1,e];first|refine And.intro zAO ?_|skip)|((first|refine .inl ⟨1,_,d.2.1,?_⟩|refine ⟨1,_,d.2.1,?_⟩);simp [aftC,aftE,noX,noXc,noX1,e];first|refine And.intro zAO ?_|skip)|refine cc1 c.1 e ?_|refine cc1 c.2.1 e ?_|refine cc1 c.2.2.1 e ?_|refine cc1 c.2.2.2.1 e ?_|refine cc1 c.2.2.2.2.1 e ?_|refine cc1 c.2.2.2.2.2.1 e ?_|(refine zAG (rid:=4) 5 [0,1,0,3,15] [(4,([[],[0],[],[0,1]],[(2,1),(2,3)])),(1,([],[]))] ?_)|(refine zAG (rid:=6) 5 [0,1,0,3,15] [(4,([[],[0],[],[0,1]],[(2,1),(2,3)])),(1,([],[]))] ?_)|(refine zAG (rid:=8) 10 [0,0,2,0,8,0,56,120,255,511] [(8,([[],[],[1],[],[3],[],[3,4,5],[3,4,5,6]],[])),(1,([],[])),(1,([],[]))] ?_)|(refine zAG (rid:=10) 11 [0,0,2,6,0,16,0,112,240,511,1023] [(9,([[],[],[1],[1,2],[],[4],[],[4,5,6],[4,5,6,7]],[])),(1,([],[])),(1,([],[]))] ?_)|(refine zAG (rid:=14) 10 [0,1,3,0,8,0,56,120,255,511] [(8,([[],[0],[0,1],[],[3],[],[3,4,5],[3,4,5,6]],[])),(1,([],[])),(1,([],[]))] ?_)|(refine zAG (rid:=22) 4 [0,0,1,7] [(3,([[],[],[0]],[(1,2)])),(1,([],[]))] ?_)|exact rt1 e|fail)<;>(refine af1 e ?_;intros;apply wr))):G:=t c d e
theorem zNF {C D E G:Prop} (c:C) (d:D) (e:E) (t:C->D->E->G:=by intro c d e;(refine af1 e ?_;intros;apply wr);repeat' ((first|(refine zAC rfl (fun h=>?_) (fun h=>?_)<;>(first|(simp [e] at h;done)|(simp [e] at h)|skip)<;>(first|(exfalso;omega)|skip))|((first|refine .inl ⟨1,_,d.1,?_⟩|refine ⟨1,_,d.1,?_⟩);simp [aftC,aftE,noX,noXc,noX1,e];first|refine And.intro zAO ?_|skip)|((first|refine .inl ⟨1,_,d.2.1,?_⟩|refine ⟨1,_,d.2.1,?_⟩);simp [aftC,aftE,noX,noXc,noX1,e];first|refine And.intro zAO ?_|skip)|refine cc1 c.1 e ?_|refine cc1 c.2.1 e ?_|refine cc1 c.2.2.1 e ?_|refine cc1 c.2.2.2.1 e ?_|refine cc1 c.2.2.2.2.1 e ?_|refine cc1 c.2.2.2.2.2.1 e ?_|(refine zAG (rid:=11) 10 [0,1,0,7,15,0,32,96,255,511] [(8,([[],[0],[],[0,1,2],[0,1,2,3],[],[5],[5,6]],[])),(1,([],[])),(1,([],[]))] ?_)|(refine zAG (rid:=3) 13 [0,1,0,4,0,28,60,0,128,0,896,1920,4095] [(12,([[],[0],[],[2],[],[2,3,4],[2,3,4,5],[],[7],[],[7,8,9],[7,8,9,10]],[])),(1,([],[]))] ?_)|exact rt1 e|fail)<;>(refine af1 e ?_;intros;apply wr))):G:=t c d e
abbrev SyOk (c:CpuD) (i:InstD):Prop:=zAD prog 215 [.st c.row,.st i.row] (.tup [.st (zAF c i).1.row,.st (zAF c i).2.row])
abbrev JuOk (c:CpuD) (i:InstD):Prop:=zAD prog 216 [.st c.row,.st i.row] (.st (zAF c i).1.row)
theorem zVi (c:CpuD) (i:InstD) (hc:OkC c) (hi:OkI i) (hop:i.op=57):SyOk c i:=by
 obtain ⟨a0,a1,b0,b1,c0,c1⟩:=hi;have g:=zAU c b0 b1;have ga:=zAU c a0 a1;have hE:zAF c i=(retD c,zEff):=by unfold zAF;simp [hop]
 unfold SyOk;rw [hE];refine sZ func215 ntmps215 ?_;exact zJN (qX1 (zN6 c hc)) trivial (kX6 @g @ga @hop @zA4 @CpuD.setP.eq_1 @zEff.eq_1)
theorem zVj (c:CpuD) (i:InstD) (hc:OkC c) (hi:OkI i) (hop:i.op=59)(k0:0<=i.imm) (k1:i.imm<=7):SyOk c i:=by
 obtain ⟨a0,a1,b0,b1,c0,c1⟩:=hi;have g:=zAU c b0 b1;have ga:=zAU c a0 a1;have hE:zAF c i=((zBG c i.imm (c.x i.a.toNat)).setP (uw (c.pc+4)),zEff):=by unfold zAF;simp [hop]
 unfold SyOk;rw [hE];refine sZ func215 ntmps215 ?_;exact zJN (qX1 (zQT c i.imm (c.x i.a.toNat) k0 k1)) trivial (kX8 @g @ga @hop @zA4 @CpuD.setP.eq_1 @zEff.eq_1 @zKm (zGq k0 k1))
theorem zVk (c:CpuD) (i:InstD) (hc:OkC c) (hi:OkI i) (hop:i.op=61)(k0:0<=i.imm) (k1:i.imm<=11):SyOk c i:=by
 obtain ⟨a0,a1,b0,b1,c0,c1⟩:=hi;have g:=zAU c b0 b1;have ga:=zAU c a0 a1;have hE:zAF c i=(c.setP (uw (c.pc+4)),⟨2,i.imm,0,c.x i.a.toNat⟩):=by unfold zAF;simp [hop]
 unfold SyOk;rw [hE];refine sZ func215 ntmps215 ?_;exact zJN trivial trivial (kX7 @g @ga @hop @zA4 @CpuD.setP.eq_1 @zEff.eq_1 (zGq k0 k1))
theorem zTo (c:CpuD) (i:InstD) (hc:OkC c) (hi:OkI i) (hh:i.op=40\/i.op=41\/i.op=42\/i.op=43\/i.op=44\/i.op=45):JuOk c i:=by
 obtain ⟨a0,a1,b0,b1,c0,c1⟩:=hi;have g:=zAU c b0 b1;have ga:=zAU c a0 a1;have hE:zAF c i=(c.setP (if zE7 i.op (c.x i.a.toNat) (c.x i.b.toNat)=true then uw (c.pc+uw (4*uw i.imm)) else uw (c.pc+4)),zEff):=by unfold zAF;rw [if_neg (by omega),if_pos (by omega)]
 have ht:=zQM i.op (c.x i.a.toNat) (c.x i.b.toNat);have d1:¬ i.op=48:=by omega
 have d2:¬ i.op=49:=by omega
 unfold JuOk;rw [hE];generalize zE7 i.op (c.x i.a.toNat) (c.x i.b.toNat)=t at *
 cases t
 ·refine sZ func216 ntmps216 ?_;exact zNF (qX1 (ht)) trivial (kX6 @g @ga @d1 @d2 @CpuD.setP.eq_1 @zEff.eq_1)
 refine sZ func216 ntmps216 ?_;exact zNF (qX1 (ht)) trivial (kX6 @g @ga @d1 @d2 @CpuD.setP.eq_1 @zEff.eq_1)
@[simp] theorem nn1 (n:Nat):(n=n+1)=False:=by simp
@[simp] theorem nn2 (n:Nat):(n+1=n)=False:=by simp
@[simp] theorem nn3 (n:Nat):(n=n+1+1)=False:=by apply eq_false;omega
@[simp] theorem nn4 (n:Nat):(n+1+1=n)=False:=by apply eq_false;omega
@[simp] theorem nn5 (n:Nat):(n=n+1+1+1)=False:=by apply eq_false;omega
@[simp] theorem nn6 (n:Nat):(n+1+1+1=n)=False:=by apply eq_false;omega
theorem zMt {nx:Nat} {ob:List (Nat × Option Ob)} (j:Nat) (c:CpuD) (l:List Int) (i:InstD) (hc:OkC c) (hl:OkW l) (hi:OkI i) (hop:i.op=35) (hp0:zDX c=false) (hj:lookO ob j=some (memO l)) (hjn:j<nx) :
  InlC prog 217 [.st c.row,.own j,.st i.row] nx ob fun r nx' ob'=>r=.st (zAP c l i).1.row/\zEZ nx ob j (zAP c l i).2 nx' ob':=by
 obtain ⟨a0,a1,b0,b1,c0,c1⟩:=hi;have g:=zAU c b0 b1;have ga:=zAU c a0 a1;obtain ⟨va,hva⟩:∃ va,va=uw (c.x i.b.toNat+uw i.imm):=⟨_,rfl⟩;have hv:W32 va:=by rw [hva];exact uw_w _
 have va':IntKind.u32.wrap (c.x i.b.toNat+IntKind.u32.wrap i.imm)=va:=hva.symm;have n1:¬ j=nx:=by omega
 have n2:¬ j=nx+1:=by omega
 have n3:¬ j=nx+1+1:=by omega
 have o1:¬ nx=j:=by omega
 have o2:¬ nx+1=j:=by omega
 have o3:¬ nx+1+1=j:=by omega
 obtain ⟨R,hR⟩:∃ R,R=zAE c l va 4 3:=⟨_,rfl⟩;have hin:=zC9 (c:=c) (l:=l) (va:=va) (s:=4) (acc:=3) (by omega) (by decide) hc hv
 have hn:=zBN c l va 4 3;have hw:=zCG (c:=c) (va:=va) (s:=4) (acc:=3) hl;have hE:zAP c l i=(if R.2.2≠0 then (zBE c R.2.2 va,R.2.1) else (c.setP (uw (c.pc+4)),zBi R.2.1 R.1 4 (c.x i.a.toNat))):=by
  rw [hR,hva];simp only [zAP,zAX,hop];rfl
 have hr:∀ {nx:Nat} {ob:List (Nat × Option Ob)},lookO ob j=some (memO l)->j<nx->InlC prog 213 [.st c.row,.own j,uv va,iv 4,iv 3] nx ob fun r nx' ob'=>r=.tup [uv R.1,iv R.2.2]/\zEZ nx ob j R.2.1 nx' ob':=fun h1 h2=>by
  rw [hR];exact zKV j c l va 3 hc hv (by omega) hp0 h1 h2
 rw [<- hR] at hin hn hw;obtain ⟨a,m,k⟩:=R;simp only at hin hn hw hr hE;refine InlC.of func217 rfl (by kernel_rfl) rfl ?_
 simp only [ntmps217,St.startI,argT];refine au1 (kX2 @g @hop) ?_;intros;apply wr;refine zAG 10 [0,1,0,7,15,0,32,96,255,511] [(8,([[],[0],[],[0,1,2],[0,1,2,3],[],[5],[5,6]],[])),(1,([],[])),(1,([],[]))] ?_;refine af1 (kX3 @g @hop @va') ?_;intros;apply wr;refine af1 (kX3 @g @hop @va') ?_;intros;apply wr;refine zC0 @hop rfl @hop ?_;intros;apply wr;refine zC0 @hop rfl @hop ?_;intros;apply wr
 first|refine .inr ((hr (by simp [lookO,n1,n2,n3,hj]) (by omega)).mono fun r nx' ob' hp=>?_)|refine (hr (by simp [lookO,n1,n2,n3,hj]) (by omega)).mono fun r nx' ob' hp=>?_|refine ((hr (by simp [lookO,n1,n2,n3,hj]) (by omega)).mono fun r nx' ob' hp=>?_).2
 simp only [aftI];obtain ⟨rfl,g1,g2,g3⟩:=hp;have y1:=g3 nx (by omega) (by omega)
 have y2:=g3 (nx+1) (by omega) (by omega)
 have y3:=g3 (nx+1+1) (by omega) (by omega)
 simp [lookO] at y1 y2 y3;simp;refine af ?_;intros;apply wr;by_cases hk:k=0
 ·obtain ⟨i1,i2⟩:=hin hk;have hx:=zCe i1 i2.1;rw [<- hn] at hx;have i3:zAR m a 4=true:=by rw [zBy hn];exact i1
  refine zAt @hk rfl ?_;intros;apply wr;refine gT01f rfl (kX4 @y1 @y2 @ga @hop) ?_;intros;apply wr;have e1:zAP c l i=(c.setP (uw (c.pc+4)),zBi m a 4 (c.x i.a.toNat)):=by rw [hE,if_neg (by simp [hk])]
  first|refine .inr ((zJB j m a (c.x i.a.toNat) i2 g2 hx).mono fun r nx' ob' hp=>?_)|refine (zJB j m a (c.x i.a.toNat) i2 g2 hx).mono fun r nx' ob' hp=>?_|refine ((zJB j m a (c.x i.a.toNat) i2 g2 hx).mono fun r nx' ob' hp=>?_).2
  simp only [aftI];obtain ⟨rfl,rfl,rfl⟩:=hp;simp;refine af1 (kX6 @y1 @y2 @y3 @o1 @o2 @o3) ?_;intros;apply wr;refine zAB ?_;simp [CpuD.setP,e1];refine ⟨by omega,by simp [lookO,n1,n2,n3,g2],fun i h1 h2=>?_⟩
  have r1:¬ i=nx:=by omega
  have r2:¬ i=nx+1:=by omega
  have r3:¬ i=nx+1+1:=by omega
  have e:=g3 i (by omega) h2
  simp [lookO,r1,r2,r3] at e;simp [lookO,r1,r2,r3,h2,e]
 have e1:zAP c l i=(zBE c k va,m):=by rw [hE,if_pos hk]
 refine zC0 @hk rfl @y1 ?_;intros;apply wr;refine cZf (zCU c k va hc) @y3 @y3 ?_;intros;apply wr;refine zAB ?_;simp [e1];refine ⟨by omega,by simp [lookO,n1,n2,n3,g2],fun i h1 h2=>?_⟩
 have r1:¬ i=nx:=by omega
 have r2:¬ i=nx+1:=by omega
 have r3:¬ i=nx+1+1:=by omega
 have e:=g3 i (by omega) h2
 simp [lookO,r1,r2,r3] at e;simp [lookO,r1,r2,r3,h2,e]
theorem zTr (c:CpuD) (i:InstD) (hc:OkC c) (hv:validD i=true) (h:i.op=57\/i.op=59\/i.op=61):SyOk c i:=by
 have hi:=zBD hv;have hm:=zKi hv;rcases h with h|h|h
 ·exact zVi c i hc hi h
 ·rw [h] at hm;exact zVj c i hc hi h (by have:=hm.1;simp [lowD,zAH] at this;omega) (by have:=hm.2;simp [zAe,zAH] at this;omega)
 rw [h] at hm;exact zVk c i hc hi h (by have:=hm.1;simp [lowD,zAH] at this;omega) (by have:=hm.2;simp [zAe,zAH] at this;omega)
theorem zTR (c:CpuD) (i:InstD) (h:i.op<56):(zAF c i).2=zEff:=by
 unfold zAF;by_cases e1:i.op=24
 ·rw [if_pos e1]
 rw [if_neg e1];by_cases e2:40<=i.op/\i.op<=45
 ·rw [if_pos e2]
 rw [if_neg e2];by_cases e3:i.op=48
 ·rw [if_pos e3]
 rw [if_neg e3];by_cases e4:i.op=49
 ·rw [if_pos e4]
 rw [if_neg e4]
 iterate 9 rw [if_neg (by omega)]
def sOp (op:Int):Prop:=op=1\/op=16\/op=18\/op=20\/op=24\/op=35\/op=42\/op=57\/op=59\/op=61
theorem rdo_ok {nx:Nat} {ob:List (Nat × Option Ob)} (j:Nat) (c:CpuD) (l:List Int) (hc:OkC c) (hl:OkW l) (hp0:zDX c=false) (ho:sOp (decI (wAt (zAE c l c.pc 4 1).2.1 ((zAE c l c.pc 4 1).1 / 4))).op) (hj:lookO ob j=some (memO l)) (hjn:j<nx) :
  InlC prog 169 [.st c.row,.own j] nx ob fun r nx' ob'=>r=.tup [.st (zAl c l).1.row,.st (zAl c l).2.2.row]/\zEZ nx ob j (zAl c l).2.1 nx' ob':=by
 have n1:¬ j=nx:=by omega
 have n2:¬ j=nx+1:=by omega
 have n3:¬ j=nx+1+1:=by omega
 have o1:¬ nx=j:=by omega
 have o2:¬ nx+1=j:=by omega
 have o3:¬ nx+1+1=j:=by omega
 obtain ⟨R,hR⟩:∃ R,R=zAE c l c.pc 4 1:=⟨_,rfl⟩;have hin:=zC9 (c:=c) (l:=l) (va:=c.pc) (s:=4) (acc:=1) (by omega) (by decide) hc hc.pc
 have hn:=zBN c l c.pc 4 1;have hw:=zCG (c:=c) (va:=c.pc) (s:=4) (acc:=1) hl;have hE:zAl c l=(if R.2.2≠0 then (zBE c R.2.2 c.pc,R.2.1,zEff) else zBk c R.2.1 (wAt R.2.1 (R.1 / 4))):=by rw [hR];rfl
 have hr:∀ {nx:Nat} {ob:List (Nat × Option Ob)},lookO ob j=some (memO l)->j<nx->InlC prog 213 [.st c.row,.own j,uv c.pc,iv 4,iv 1] nx ob fun r nx' ob'=>r=.tup [uv R.1,iv R.2.2]/\zEZ nx ob j R.2.1 nx' ob':=fun h1 h2=>by
  rw [hR];exact zKV j c l c.pc 1 hc hc.pc (by omega) hp0 h1 h2
 rw [<- hR] at hin hn hw ho;obtain ⟨a,m,k⟩:=R;simp only at hin hn hw hr hE ho;refine InlC.of func169 rfl (by kernel_rfl) rfl ?_
 simp only [ntmps169,St.startI,argT];refine au ?_;intros;apply wr
 first|refine .inr ((hr (by simp [lookO,n1,n2,n3,hj]) (by omega)).mono fun r nx' ob' hp=>?_)|refine (hr (by simp [lookO,n1,n2,n3,hj]) (by omega)).mono fun r nx' ob' hp=>?_|refine ((hr (by simp [lookO,n1,n2,n3,hj]) (by omega)).mono fun r nx' ob' hp=>?_).2
 simp only [aftI];obtain ⟨rfl,g1,g2,g3⟩:=hp;have y1:=g3 nx (by omega) (by omega)
 have y2:=g3 (nx+1) (by omega) (by omega)
 have y3:=g3 (nx+1+1) (by omega) (by omega)
 simp [lookO] at y1 y2 y3;simp;refine au ?_;intros;apply wr;by_cases hk:k=0
 ·obtain ⟨i1,i2⟩:=hin hk;have hx:=zCe i1 i2.1;rw [<- hn] at hx;have i3:zAR m a 4=true:=by rw [zBy hn];exact i1
  have hE1:zAl c l=zBk c m (wAt m (a / 4)):=by rw [hE,if_neg (by simp [hk])]
  have hld:zBs m a 4=wAt m (a / 4):=by simp [zBs]
  have hww:W32 (wAt m (a / 4)):=zLi hw _;generalize wAt m (a / 4)=w at hE1 hld hww ho;refine gF10 @hk rfl ?_;intros;apply wr
  first|refine .inr ((zQF j m a 4 g2 (by omega) i2).mono fun r nx' ob' hp=>?_)|refine (zQF j m a 4 g2 (by omega) i2).mono fun r nx' ob' hp=>?_|refine ((zQF j m a 4 g2 (by omega) i2).mono fun r nx' ob' hp=>?_).2
  simp only [aftI];obtain ⟨rfl,rfl,rfl⟩:=hp;simp [i3,hld];refine au ?_;intros;apply wr;have p1:¬ nx=nx'+6:=by omega
  have p2:¬ nx=nx'+5:=by omega
  have p3:¬ nx=nx'+4:=by omega
  have p4:¬ j=nx'+6:=by omega
  have q1:¬ nx'+6=nx:=by omega
  have q2:¬ nx'+5=nx:=by omega
  have q3:¬ nx'+4=nx:=by omega
  have q4:¬ nx'+6=j:=by omega
  cases hv:validD (decI w) with
  | false =>
   have e1:zAl c l=(zBE c 1 w,m,zEff):=by rw [hE1];unfold zBk;rw [if_pos hv]
   have hd:=zEE w hww;unfold decV at hd;rw [hv,if_neg (by simp)] at hd
   refine cX (hd) ?_;intros;apply wr;refine gT01 rfl (kX11 @y1 @y2 @y3 @p1 @p2 @p3 @p4 @q1 @q2 @q3 @q4) ?_;intros;apply wr;refine cZ (zCU c 1 w hc) (kX5 @y2 @y3 @p1 @p2 @p3) (kX5 @y2 @y3 @p1 @p2 @p3) ?_;intros;apply wr;refine zAB ?_;simp [e1,zEff];refine ⟨by omega,by simp [lookO,n1,n2,n3,p4,g2],fun i h1 h2=>?_⟩
   have r1:¬ i=nx:=by omega
   have r2:¬ i=nx+1:=by omega
   have r3:¬ i=nx+1+1:=by omega
   have r4:¬ i=nx'+6:=by omega
   have e:=g3 i (by omega) h2
   simp [lookO,r1,r2,r3,r4] at e;simp [lookO,r1,r2,r3,r4,h2,e]
  | true =>
   have hd:=zEE w hww;unfold decV at hd;rw [hv,if_pos rfl] at hd;generalize hi:decI w=i at hd hv hE1 ho;unfold sOp at ho;refine cX (hd) ?_;intros;apply wr;refine gF01 rfl (kX8 @p1 @p2 @p3 @p4 @q1 @q2 @q3 @q4) ?_;intros;apply wr;have hpr:=zSj i.op;have hk1:=zPM (hc.csr 0);cases hpv:zLU i.op with
   | true =>
    rw [hpv] at hpr;by_cases hm:c.csr 0 % 2=0
    ·have e1:zAl c l=(zBE c 2 w,m,zEff):=by rw [hE1];unfold zBk;rw [hi,if_neg (by simp [hv]),if_pos ⟨hpv,hm⟩]
     refine cZ (hpr) (kX3 @y1 @p1 @hk1) (kX5 @y1 @p1 @p2 @p3 @hk1) ?_;intros;apply wr;refine gT11 @hm rfl (kX4 @y1 @p1 @p2 @p3) ?_;intros;apply wr;refine cZ (zCU c 2 w hc) (kX5 @y2 @y3 @p1 @p2 @p3) (kX5 @y2 @y3 @p1 @p2 @p3) ?_;intros;apply wr;refine zAB ?_;simp [e1,zEff];refine ⟨by omega,by simp [lookO,n1,n2,n3,p4,g2],fun i h1 h2=>?_⟩
     have r1:¬ i=nx:=by omega
     have r2:¬ i=nx+1:=by omega
     have r3:¬ i=nx+1+1:=by omega
     have r4:¬ i=nx'+6:=by omega
     have e:=g3 i (by omega) h2
     simp [lookO,r1,r2,r3,r4] at e;simp [lookO,r1,r2,r3,r4,h2,e]
    have e2:zAl c l=if 32<=i.op/\i.op<=34 then ((zA6 c m i).1,(zA6 c m i).2,zEff) else if 35<=i.op/\i.op<=36 then ((zAP c m i).1,(zAP c m i).2,zEff) else ((zAF c i).1,m,(zAF c i).2):=by
     rw [hE1];unfold zBk;rw [hi,if_neg (by simp [hv]),if_neg (fun q=>hm q.2)]
    refine cZ (hpr) (kX3 @y1 @p1 @hk1) (kX5 @y1 @p1 @p2 @p3 @hk1) ?_;intros;apply wr;refine gF11 @hm rfl @p1 ?_;intros;apply wr;by_cases h56:56<=i.op
    ·have e0:zAl c l=((zAF c i).1,m,(zAF c i).2):=by rw [e2,if_neg (by omega),if_neg (by omega)]
     have hs:=zTr c i hc hv (by omega)
     unfold SyOk at hs;generalize zAF c i=Z at hs e0;refine gT11 @h56 rfl (kX2 @y1 @p1) ?_;intros;apply wr;refine cZ (hs) (kX5 @y2 @y3 @p1 @p2 @p3) (kX5 @y2 @y3 @p1 @p2 @p3) ?_;intros;apply wr;refine zAB ?_;simp [e0];refine ⟨by omega,by simp [lookO,n1,n2,n3,p4,g2],fun i h1 h2=>?_⟩
     have r1:¬ i=nx:=by omega
     have r2:¬ i=nx+1:=by omega
     have r3:¬ i=nx+1+1:=by omega
     have r4:¬ i=nx'+6:=by omega
     have e:=g3 i (by omega) h2
     simp [lookO,r1,r2,r3,r4] at e;simp [lookO,r1,r2,r3,r4,h2,e]
    refine gF11 @h56 rfl @p1 ?_;intros;apply wr;by_cases h40:40<=i.op
    ·have e0:zAl c l=((zAF c i).1,m,zEff):=by rw [e2,if_neg (by omega),if_neg (by omega),zTR c i (by omega)]
     have hs:=zTo c i hc (zBD hv) (by omega)
     unfold JuOk at hs;generalize zAF c i=Z at hs e0;refine gT11 @h40 rfl (kX2 @y1 @p1) ?_;intros;apply wr;refine cZ (hs) (kX5 @y2 @y3 @p1 @p2 @p3) (kX5 @y2 @y3 @p1 @p2 @p3) ?_;intros;apply wr;refine zAB ?_;simp [e0,zEff];refine ⟨by omega,by simp [lookO,n1,n2,n3,p4,g2],fun i h1 h2=>?_⟩
     have r1:¬ i=nx:=by omega
     have r2:¬ i=nx+1:=by omega
     have r3:¬ i=nx+1+1:=by omega
     have r4:¬ i=nx'+6:=by omega
     have e:=g3 i (by omega) h2
     simp [lookO,r1,r2,r3,r4] at e;simp [lookO,r1,r2,r3,r4,h2,e]
    refine gF11 @h40 rfl @p1 ?_;intros;apply wr;by_cases h32:32<=i.op
    ·have h35:i.op=35:=by omega
     have e0:zAl c l=((zAP c m i).1,(zAP c m i).2,zEff):=by rw [e2,if_neg (by omega),if_pos (by omega)]
     have ht:∀ {nx:Nat} {ob:List (Nat × Option Ob)},lookO ob j=some (memO m)->j<nx->InlC prog 217 [.st c.row,.own j,.st i.row] nx ob fun r nx' ob'=>r=.st (zAP c m i).1.row/\zEZ nx ob j (zAP c m i).2 nx' ob':=fun h1 h2=>zMt j c m i hc hw (zBD hv) h35 hp0 h1 h2
     generalize zAP c m i=Z at ht e0;refine gT11 @h32 rfl (kX2 @y1 @p1) ?_;intros;apply wr;obtain ⟨na,rfl⟩:∃ na,na=nx':=⟨_,rfl⟩;obtain ⟨oa,rfl⟩:∃ oa,oa=ob':=⟨_,rfl⟩
     first|refine .inr ((ht (by simp [lookO,p4,g2]) (by omega)).mono fun r nx' ob' hp=>?_)|refine (ht (by simp [lookO,p4,g2]) (by omega)).mono fun r nx' ob' hp=>?_|refine ((ht (by simp [lookO,p4,g2]) (by omega)).mono fun r nx' ob' hp=>?_).2
     simp only [aftI];obtain ⟨rfl,k1,k2,k3⟩:=hp;have z2:=k3 (nx+1) (by omega) (by omega)
     have z3:=k3 (nx+1+1) (by omega) (by omega)
     simp [lookO,p1,p2,p3,y2] at z2;simp [lookO,p1,p2,p3,y3] at z3;simp [z2,z3];refine au1 (kX2 @z2 @z3) ?_;intros;apply wr;refine zAB ?_;simp [e0,zEff];refine ⟨by omega,by simp [lookO,n2,n3,k2],fun v h1 h2=>?_⟩
     have r1:¬ v=nx:=by omega
     have r2:¬ v=nx+1:=by omega
     have r3:¬ v=nx+1+1:=by omega
     have r4:¬ v=na+6:=by omega
     have e:=g3 v (by omega) h2
     have e':=k3 v (by omega) h2
     simp [lookO,r1,r2,r3,r4] at e e';simp [lookO,r1,r2,r3,r4,h2,e,e']
    refine gF11 @h32 rfl @p1 ?_;intros;apply wr;obtain ⟨a0,a1,b0,b1,c0,c1⟩:=zBD hv;by_cases h24:i.op=24
    ·have e0:zAl c l=((c.setR i.a (uw (uw i.imm*65536))).setP (uw (c.pc+4)),m,zEff):=by
      rw [e2,if_neg (by omega),if_neg (by omega)];unfold zAF;simp [h24]
     refine gT11 @h24 rfl (kX2 @y1 @p1) ?_;intros;apply wr;refine cZ (zFe c i.a (uw (uw i.imm*65536)) a0 a1) (kX6 @y1 @y2 @y3 @p1 @p2 @p3) (kX6 @y1 @y2 @y3 @p1 @p2 @p3) ?_;intros;apply wr;refine zAB ?_;simp [e0,zEff,CpuD.setP,zA4];refine ⟨by omega,by simp [lookO,n1,n2,n3,p4,g2],fun i h1 h2=>?_⟩
     have r1:¬ i=nx:=by omega
     have r2:¬ i=nx+1:=by omega
     have r3:¬ i=nx+1+1:=by omega
     have r4:¬ i=nx'+6:=by omega
     have e:=g3 i (by omega) h2
     simp [lookO,r1,r2,r3,r4] at e;simp [lookO,r1,r2,r3,r4,h2,e]
    refine gF11 @h24 rfl @p1 ?_;intros;apply wr;have hop:i.op=1\/i.op=16\/i.op=18\/i.op=20:=by omega
    have g:=zAU c b0 b1;have gc:=zAU c c0 c1;have e0:zAl c l=((c.setR i.a ((aluD i.op (c.x i.b.toNat) (if 16<=i.op then uw i.imm else c.x i.c.toNat)).getD 0)).setP (uw (c.pc+4)),m,zEff):=by
     rw [e2,if_neg (by omega),if_neg (by omega)];unfold zAF
     iterate 13 rw [if_neg (by omega)]
    by_cases h13:i.op<=13
    ·rw [if_neg (by omega)] at e0
     refine gT11 @h13 rfl (kX3 @gc @y1 @p1) ?_;intros;apply wr;refine zAG 14 [0,1,0,4,0,28,60,0,255,511,1023,1023,2047,8191] [(8,([[],[0],[],[2],[],[2,3,4],[2,3,4,5],[]],[])),(1,([],[])),(1,([],[])),(3,([[],[],[0]],[])),(1,([],[]))] ?_;refine af1 (kX3 @g @y1 @p1) ?_;intros;apply wr;refine cYf (zI3 i.op (c.x i.b.toNat) (c.x i.c.toNat) (hc.x _) (hc.x _) hop) (kX2 @y1 @p1) ?_;intros;apply wr;refine cZf (zFe c i.a ((aluD i.op (c.x i.b.toNat) (c.x i.c.toNat)).getD 0) a0 a1) (kX6 @y1 @y2 @y3 @p1 @p2 @p3) (kX6 @y1 @y2 @y3 @p1 @p2 @p3) ?_;intros;apply wr;refine zAB ?_;simp [e0,zEff,CpuD.setP,zA4];refine ⟨by omega,by simp [lookO,n1,n2,n3,p4,g2],fun i h1 h2=>?_⟩
     have r1:¬ i=nx:=by omega
     have r2:¬ i=nx+1:=by omega
     have r3:¬ i=nx+1+1:=by omega
     have r4:¬ i=nx'+6:=by omega
     have e:=g3 i (by omega) h2
     simp [lookO,r1,r2,r3,r4] at e;simp [lookO,r1,r2,r3,r4,h2,e]
    rw [if_pos (by omega)] at e0
    refine zEM @h13 rfl @p1 ?_;intros;apply wr;refine zAG 14 [0,1,0,4,0,28,60,0,255,511,1023,1023,2047,8191] [(8,([[],[0],[],[2],[],[2,3,4],[2,3,4,5],[]],[])),(1,([],[])),(1,([],[])),(3,([[],[],[0]],[])),(1,([],[]))] ?_;refine af1 (kX3 @g @y1 @p1) ?_;intros;apply wr;refine cYf (zI3 i.op (c.x i.b.toNat) (uw i.imm) (hc.x _) (uw_w _) hop) (kX2 @y1 @p1) ?_;intros;apply wr;refine cZf (zFe c i.a ((aluD i.op (c.x i.b.toNat) (uw i.imm)).getD 0) a0 a1) (kX6 @y1 @y2 @y3 @p1 @p2 @p3) (kX6 @y1 @y2 @y3 @p1 @p2 @p3) ?_;intros;apply wr;refine zAB ?_;simp [e0,zEff,CpuD.setP,zA4];refine ⟨by omega,by simp [lookO,n1,n2,n3,p4,g2],fun i h1 h2=>?_⟩
    have r1:¬ i=nx:=by omega
    have r2:¬ i=nx+1:=by omega
    have r3:¬ i=nx+1+1:=by omega
    have r4:¬ i=nx'+6:=by omega
    have e:=g3 i (by omega) h2
    simp [lookO,r1,r2,r3,r4] at e;simp [lookO,r1,r2,r3,r4,h2,e]
   | false =>
    rw [hpv] at hpr;have e2:zAl c l=if 32<=i.op/\i.op<=34 then ((zA6 c m i).1,(zA6 c m i).2,zEff) else if 35<=i.op/\i.op<=36 then ((zAP c m i).1,(zAP c m i).2,zEff) else ((zAF c i).1,m,(zAF c i).2):=by
     rw [hE1];unfold zBk;rw [hi,if_neg (by simp [hv]),if_neg (fun q=>by rw [hpv] at q;simp at q)]
    refine cZf (hpr) (kX3 @y1 @p1 @hk1) (kX5 @y1 @p1 @p2 @p3 @hk1) ?_;intros;apply wr;refine gF01f rfl @p1 ?_;intros;apply wr;by_cases h56:56<=i.op
    ·have e0:zAl c l=((zAF c i).1,m,(zAF c i).2):=by rw [e2,if_neg (by omega),if_neg (by omega)]
     have hs:=zTr c i hc hv (by omega)
     unfold SyOk at hs;generalize zAF c i=Z at hs e0;refine zC0 @h56 rfl (kX2 @y1 @p1) ?_;intros;apply wr;refine cZf (hs) (kX5 @y2 @y3 @p1 @p2 @p3) (kX5 @y2 @y3 @p1 @p2 @p3) ?_;intros;apply wr;refine zAB ?_;simp [e0];refine ⟨by omega,by simp [lookO,n1,n2,n3,p4,g2],fun i h1 h2=>?_⟩
     have r1:¬ i=nx:=by omega
     have r2:¬ i=nx+1:=by omega
     have r3:¬ i=nx+1+1:=by omega
     have r4:¬ i=nx'+6:=by omega
     have e:=g3 i (by omega) h2
     simp [lookO,r1,r2,r3,r4] at e;simp [lookO,r1,r2,r3,r4,h2,e]
    refine zEM @h56 rfl @p1 ?_;intros;apply wr;by_cases h40:40<=i.op
    ·have e0:zAl c l=((zAF c i).1,m,zEff):=by rw [e2,if_neg (by omega),if_neg (by omega),zTR c i (by omega)]
     have hs:=zTo c i hc (zBD hv) (by omega)
     unfold JuOk at hs;generalize zAF c i=Z at hs e0;refine zC0 @h40 rfl (kX2 @y1 @p1) ?_;intros;apply wr;refine cZf (hs) (kX5 @y2 @y3 @p1 @p2 @p3) (kX5 @y2 @y3 @p1 @p2 @p3) ?_;intros;apply wr;refine zAB ?_;simp [e0,zEff];refine ⟨by omega,by simp [lookO,n1,n2,n3,p4,g2],fun i h1 h2=>?_⟩
     have r1:¬ i=nx:=by omega
     have r2:¬ i=nx+1:=by omega
     have r3:¬ i=nx+1+1:=by omega
     have r4:¬ i=nx'+6:=by omega
     have e:=g3 i (by omega) h2
     simp [lookO,r1,r2,r3,r4] at e;simp [lookO,r1,r2,r3,r4,h2,e]
    refine zEM @h40 rfl @p1 ?_;intros;apply wr;by_cases h32:32<=i.op
    ·have h35:i.op=35:=by omega
     have e0:zAl c l=((zAP c m i).1,(zAP c m i).2,zEff):=by rw [e2,if_neg (by omega),if_pos (by omega)]
     have ht:∀ {nx:Nat} {ob:List (Nat × Option Ob)},lookO ob j=some (memO m)->j<nx->InlC prog 217 [.st c.row,.own j,.st i.row] nx ob fun r nx' ob'=>r=.st (zAP c m i).1.row/\zEZ nx ob j (zAP c m i).2 nx' ob':=fun h1 h2=>zMt j c m i hc hw (zBD hv) h35 hp0 h1 h2
     generalize zAP c m i=Z at ht e0;refine zC0 @h32 rfl (kX2 @y1 @p1) ?_;intros;apply wr;obtain ⟨na,rfl⟩:∃ na,na=nx':=⟨_,rfl⟩;obtain ⟨oa,rfl⟩:∃ oa,oa=ob':=⟨_,rfl⟩
     first|refine .inr ((ht (by simp [lookO,p4,g2]) (by omega)).mono fun r nx' ob' hp=>?_)|refine (ht (by simp [lookO,p4,g2]) (by omega)).mono fun r nx' ob' hp=>?_|refine ((ht (by simp [lookO,p4,g2]) (by omega)).mono fun r nx' ob' hp=>?_).2
     simp only [aftI];obtain ⟨rfl,k1,k2,k3⟩:=hp;have z2:=k3 (nx+1) (by omega) (by omega)
     have z3:=k3 (nx+1+1) (by omega) (by omega)
     simp [lookO,p1,p2,p3,y2] at z2;simp [lookO,p1,p2,p3,y3] at z3;simp [z2,z3];refine af1 (kX2 @z2 @z3) ?_;intros;apply wr;refine zAB ?_;simp [e0,zEff];refine ⟨by omega,by simp [lookO,n2,n3,k2],fun v h1 h2=>?_⟩
     have r1:¬ v=nx:=by omega
     have r2:¬ v=nx+1:=by omega
     have r3:¬ v=nx+1+1:=by omega
     have r4:¬ v=na+6:=by omega
     have e:=g3 v (by omega) h2
     have e':=k3 v (by omega) h2
     simp [lookO,r1,r2,r3,r4] at e e';simp [lookO,r1,r2,r3,r4,h2,e,e']
    refine zEM @h32 rfl @p1 ?_;intros;apply wr;obtain ⟨a0,a1,b0,b1,c0,c1⟩:=zBD hv;by_cases h24:i.op=24
    ·have e0:zAl c l=((c.setR i.a (uw (uw i.imm*65536))).setP (uw (c.pc+4)),m,zEff):=by
      rw [e2,if_neg (by omega),if_neg (by omega)];unfold zAF;simp [h24]
     refine zC0 @h24 rfl (kX2 @y1 @p1) ?_;intros;apply wr;refine cZf (zFe c i.a (uw (uw i.imm*65536)) a0 a1) (kX6 @y1 @y2 @y3 @p1 @p2 @p3) (kX6 @y1 @y2 @y3 @p1 @p2 @p3) ?_;intros;apply wr;refine zAB ?_;simp [e0,zEff,CpuD.setP,zA4];refine ⟨by omega,by simp [lookO,n1,n2,n3,p4,g2],fun i h1 h2=>?_⟩
     have r1:¬ i=nx:=by omega
     have r2:¬ i=nx+1:=by omega
     have r3:¬ i=nx+1+1:=by omega
     have r4:¬ i=nx'+6:=by omega
     have e:=g3 i (by omega) h2
     simp [lookO,r1,r2,r3,r4] at e;simp [lookO,r1,r2,r3,r4,h2,e]
    refine zEM @h24 rfl @p1 ?_;intros;apply wr;have hop:i.op=1\/i.op=16\/i.op=18\/i.op=20:=by omega
    have g:=zAU c b0 b1;have gc:=zAU c c0 c1;have e0:zAl c l=((c.setR i.a ((aluD i.op (c.x i.b.toNat) (if 16<=i.op then uw i.imm else c.x i.c.toNat)).getD 0)).setP (uw (c.pc+4)),m,zEff):=by
     rw [e2,if_neg (by omega),if_neg (by omega)];unfold zAF
     iterate 13 rw [if_neg (by omega)]
    by_cases h13:i.op<=13
    ·rw [if_neg (by omega)] at e0
     refine zC0 @h13 rfl (kX3 @gc @y1 @p1) ?_;intros;apply wr;refine zAG 14 [0,1,0,4,0,28,60,0,255,511,1023,1023,2047,8191] [(8,([[],[0],[],[2],[],[2,3,4],[2,3,4,5],[]],[])),(1,([],[])),(1,([],[])),(3,([[],[],[0]],[])),(1,([],[]))] ?_;refine af1 (kX3 @g @y1 @p1) ?_;intros;apply wr;refine cYf (zI3 i.op (c.x i.b.toNat) (c.x i.c.toNat) (hc.x _) (hc.x _) hop) (kX2 @y1 @p1) ?_;intros;apply wr;refine cZf (zFe c i.a ((aluD i.op (c.x i.b.toNat) (c.x i.c.toNat)).getD 0) a0 a1) (kX6 @y1 @y2 @y3 @p1 @p2 @p3) (kX6 @y1 @y2 @y3 @p1 @p2 @p3) ?_;intros;apply wr;refine zAB ?_;simp [e0,zEff,CpuD.setP,zA4];refine ⟨by omega,by simp [lookO,n1,n2,n3,p4,g2],fun i h1 h2=>?_⟩
     have r1:¬ i=nx:=by omega
     have r2:¬ i=nx+1:=by omega
     have r3:¬ i=nx+1+1:=by omega
     have r4:¬ i=nx'+6:=by omega
     have e:=g3 i (by omega) h2
     simp [lookO,r1,r2,r3,r4] at e;simp [lookO,r1,r2,r3,r4,h2,e]
    rw [if_pos (by omega)] at e0
    refine zEM @h13 rfl @p1 ?_;intros;apply wr;refine zAG 14 [0,1,0,4,0,28,60,0,255,511,1023,1023,2047,8191] [(8,([[],[0],[],[2],[],[2,3,4],[2,3,4,5],[]],[])),(1,([],[])),(1,([],[])),(3,([[],[],[0]],[])),(1,([],[]))] ?_;refine af1 (kX3 @g @y1 @p1) ?_;intros;apply wr;refine cYf (zI3 i.op (c.x i.b.toNat) (uw i.imm) (hc.x _) (uw_w _) hop) (kX2 @y1 @p1) ?_;intros;apply wr;refine cZf (zFe c i.a ((aluD i.op (c.x i.b.toNat) (uw i.imm)).getD 0) a0 a1) (kX6 @y1 @y2 @y3 @p1 @p2 @p3) (kX6 @y1 @y2 @y3 @p1 @p2 @p3) ?_;intros;apply wr;refine zAB ?_;simp [e0,zEff,CpuD.setP,zA4];refine ⟨by omega,by simp [lookO,n1,n2,n3,p4,g2],fun i h1 h2=>?_⟩
    have r1:¬ i=nx:=by omega
    have r2:¬ i=nx+1:=by omega
    have r3:¬ i=nx+1+1:=by omega
    have r4:¬ i=nx'+6:=by omega
    have e:=g3 i (by omega) h2
    simp [lookO,r1,r2,r3,r4] at e;simp [lookO,r1,r2,r3,r4,h2,e]
 have e1:zAl c l=(zBE c k c.pc,m,zEff):=by rw [hE,if_pos hk]
 refine zC0 @hk rfl @y1 ?_;intros;apply wr;refine cZf (zCU c k c.pc hc) (kX2 @y2 @y3) (kX2 @y2 @y3) ?_;intros;apply wr;refine zAB ?_;simp [e1,zEff];refine ⟨by omega,by simp [lookO,n1,n2,n3,g2],fun i h1 h2=>?_⟩
 have r1:¬ i=nx:=by omega
 have r2:¬ i=nx+1:=by omega
 have r3:¬ i=nx+1+1:=by omega
 have e:=g3 i (by omega) h2
 simp [lookO,r1,r2,r3] at e;simp [lookO,r1,r2,r3,h2,e]
theorem zIe {l:List Int} (hl:OkW l) (f:Int) (s:Str):∀ n,OkW (zFS l f s n)
 | 0=>hl
 | n+1=>zM2 (zIe hl f s n) _ _ ⟨by omega,by have:=(s.getD n 0).toNat_lt;omega⟩
theorem zEF {nx:Nat} {ob:List (Nat × Option Ob)} (j:Nat) (l:List Int) (f:Int) (s:Str) (hl:OkW l) (h0:0<=f) (h1:f<pagesD l) (hs:s.length<=128) (hj:lookO ob j=some (memO l)) :
  InlC prog 155 [.own j,iv f,.str s] nx ob fun r nx' ob'=>r=.tup []/\nx'=nx/\lookO ob' j=some (memO (zFS l f s s.length))/\∀ i,i≠j->lookO ob' i=lookO ob i:=by
 have hp:=zAc l;have hpl:=zB6 (l:=l) (by omega)
 have w1:IntKind.i64.wrap (f*128)=f*128:=zAA (by omega) (by omega)
 refine InlC.of func155 rfl (by kernel_rfl) rfl ?_
 simp only [ntmps155,St.startI,argT];refine au1 @hj ?_;intros;apply wr;refine zAW (s.length+1) ?_;refine zA2 (fun k st=>∃ (i:Nat) (T:List (Nat × V)) (o:List (Nat × Option Ob)),i+k=s.length/\st=⟨28,T,nx,o,nx⟩/\(lkT T 6=.int .i64 i/\lkT T 0=.own j/\lkT T 1=iv f/\lkT T 2=.str s)/\lookO o j=some (memO (zFS l f s i))/\∀ q,q≠j->lookO o q=lookO ob q) ?_ _ _ ⟨0,_,_,by simp,rfl,by simp [lkT],hj,fun q hq=>rfl⟩
 rintro k st ⟨i,T,o,hk,rfl,⟨t6,t0,t1,t2⟩,ho,hq⟩ Kl hKl
 refine zBS [(6,.int .i64 i),(0,.own j),(1,iv f),(2,.str s)] (by simp [t6,t0,t1,t2]) ?_
 simp;have hl2:=zJx l f s i;refine au ?_;intros;apply wr;by_cases hi:i<s.length
 ·have c1:(i:Int)<s.length:=by omega
  have c2:(i:Int)<128:=by omega
  obtain ⟨x,hg⟩:∃ x,s[i]? =some x:=⟨_,zWH hi⟩;have hgd:s.getD i 0=x:=by rw [zWF,hg];rfl
  have hb:=x.toNat_lt;have w2:IntKind.i64.wrap (f*128+i)=f*128+i:=zAA (by omega) (by omega)
  have w3:IntKind.u32.wrap (f*128+i)=f*128+i:=u32_in (by omega) (by omega)
  have w4:IntKind.u32.wrap (x.toNat:Int)=x.toNat:=u32_in (by omega) (by omega)
  have w5:IntKind.i64.wrap ((i:Int)+1)=((i+1:Nat):Int):=by rw [zAA (by omega) (by omega)];omega
  refine gT11 (kX2 @hi @c2) rfl (kX5 @hg @w1 @w2 @w3 @w4) ?_;intros;apply wr
  first|refine .inr ((zJA j (zFS l f s i) (f*128+i) x.toNat ⟨by omega,by omega⟩ (zIe hl f s i) ho (by rw [hl2];omega)).mono fun r nx' ob' hp=>?_)|refine (zJA j (zFS l f s i) (f*128+i) x.toNat ⟨by omega,by omega⟩ (zIe hl f s i) ho (by rw [hl2];omega)).mono fun r nx' ob' hp=>?_|refine ((zJA j (zFS l f s i) (f*128+i) x.toNat ⟨by omega,by omega⟩ (zIe hl f s i) ho (by rw [hl2];omega)).mono fun r nx' ob' hp=>?_).2
  simp only [aftI];obtain ⟨rfl,rfl,rfl⟩:=hp;simp;refine au1 @w5 ?_;intros;apply wr;refine hKl (k-1) _ (by omega) ⟨i+1,_,_,by omega,rfl,by simp [lkT],by simp [lookO,zFS,hg],fun q h=>by simp [lookO,h,hq q h]⟩
 have:i=s.length:=by omega
 subst this;refine gF01 rfl @ho ?_;intros;apply wr;exact hq
end Go.Proofs.YthjpcmecgjfilaaGreat
end
