/- A part of the proof of ReplicaBare+ReplicaWindow. -/
import Derived.Test.YtoondlebmacanaaGreatB42
import Derived.Test.YtoondlebmacanaaGreatB43
set_option linter.unusedSimpArgs false
set_option linter.unusedVariables false
set_option maxHeartbeats 16000000
set_option maxRecDepth 100000
section
namespace Go.Proofs.YtoondlebmacanaaGreat
open Go.Ab Go.RowKit
@[simp] theorem nn1 (n:Nat):(n=n+1)=False:=by simp
@[simp] theorem nn2 (n:Nat):(n+1=n)=False:=by simp
@[simp] theorem nn3 (n:Nat):(n=n+1+1)=False:=by apply eq_false;omega
@[simp] theorem nn4 (n:Nat):(n+1+1=n)=False:=by apply eq_false;omega
@[simp] theorem nn5 (n:Nat):(n=n+1+1+1)=False:=by apply eq_false;omega
@[simp] theorem nn6 (n:Nat):(n+1+1+1=n)=False:=by apply eq_false;omega
theorem zTE {nx:Nat} {ob:List (Nat × Option Ob)} (j:Nat) (c:CpuD) (l:List Int) (i:InstD) (hc:OkC c) (hl:OkW l) (hi:OkI i) (hop:i.op=35) (hj:lookO ob j=some (memO l)) (hjn:j<nx) :
  InlC Tryz.prog 194 [.st c.row,.own j,.st i.row] nx ob fun r nx' ob'=>r=.st (zAZ c l i).1.row∧zBm nx ob j (zAZ c l i).2 nx' ob':=by
 obtain ⟨a0,a1,b0,b1,c0,c1⟩:=hi;have g:=zAQ c b0 b1;have ga:=zAQ c a0 a1;obtain ⟨va,hva⟩:∃ va,va=uw (c.x i.b.toNat+uw i.imm):=⟨_,rfl⟩;have hv:W32 va:=by rw [hva];exact uw_w _
 have va':IntKind.u32.wrap (c.x i.b.toNat+IntKind.u32.wrap i.imm)=va:=hva.symm;have n1:¬ j=nx:=by omega
 have n2:¬ j=nx+1:=by omega
 have n3:¬ j=nx+1+1:=by omega
 have o1:¬ nx=j:=by omega
 have o2:¬ nx+1=j:=by omega
 have o3:¬ nx+1+1=j:=by omega
 obtain ⟨R,hR⟩:∃ R,R=zAF c l va 4 3:=⟨_,rfl⟩;have hin:=zBq (c:=c) (l:=l) (va:=va) (s:=4) (acc:=3) (by omega) (by decide) hc hv
 have hn:=zA2 c l va 4 3;have hw:=zBb (c:=c) (va:=va) (s:=4) (acc:=3) hl;have hE:zAZ c l i=(if R.2.2≠0 then (zA4 c R.2.2 va,R.2.1) else (c.setP (uw (c.pc+4)),zBt R.2.1 R.1 4 (c.x i.a.toNat))):=by
  rw [hR,hva];simp only [zAZ,zAa,hop];rfl
 have hr:∀ {nx:Nat} {ob:List (Nat × Option Ob)},lookO ob j=some (memO l)→j<nx→InlC Tryz.prog 190 [.st c.row,.own j,uv va,iv 4,iv 3] nx ob fun r nx' ob'=>r=.tup [uv R.1,iv R.2.2]∧zBm nx ob j R.2.1 nx' ob':=fun h1 h2=>by
  rw [hR];exact zDL j c l va 4 3 hc hv (by omega) (by omega) h1 h2
 rw [← hR] at hin hn hw;obtain ⟨a,m,k⟩:=R;simp only at hin hn hw hr hE;refine InlC.of Tryz.func194 rfl (by kernel_rfl) rfl ?_
 simp only [Tryz.ntmps194,St.startI,argT];refine au1 (kX2 @g @hop) ?_;intros;apply wr;refine zAG 10 [0,1,0,7,15,0,32,96,255,511] [(8,([[],[0],[],[0,1,2],[0,1,2,3],[],[5],[5,6]],[])),(1,([],[])),(1,([],[]))] ?_;refine af1 (kX3 @g @hop @va') ?_;intros;apply wr;refine af1 (kX3 @g @hop @va') ?_;intros;apply wr;refine zBv @hop rfl @hop ?_;intros;apply wr;refine zBv @hop rfl @hop ?_;intros;apply wr
 first|refine .inr ((hr (by simp [lookO,n1,n2,n3,hj]) (by omega)).mono fun r nx' ob' hp=>?_)|refine (hr (by simp [lookO,n1,n2,n3,hj]) (by omega)).mono fun r nx' ob' hp=>?_|refine ((hr (by simp [lookO,n1,n2,n3,hj]) (by omega)).mono fun r nx' ob' hp=>?_).2
 simp only [aftI];obtain ⟨rfl,g1,g2,g3⟩:=hp;have y1:=g3 nx (by omega) (by omega)
 have y2:=g3 (nx+1) (by omega) (by omega)
 have y3:=g3 (nx+1+1) (by omega) (by omega)
 simp [lookO] at y1 y2 y3;simp;refine af ?_;intros;apply wr;by_cases hk:k=0
 ·obtain ⟨i1,i2⟩:=hin hk;have hx:=zBM i1 i2.1;rw [← hn] at hx;have i3:zAT m a 4=true:=by rw [zBF hn];exact i1
  refine zAi @hk rfl ?_;intros;apply wr;refine zO2 rfl (kX4 @y1 @y2 @ga @hop) ?_;intros;apply wr;have e1:zAZ c l i=(c.setP (uw (c.pc+4)),zBt m a 4 (c.x i.a.toNat)):=by rw [hE,if_neg (by simp [hk])]
  first|refine .inr ((zIj j m a (c.x i.a.toNat) i2 g2 hx).mono fun r nx' ob' hp=>?_)|refine (zIj j m a (c.x i.a.toNat) i2 g2 hx).mono fun r nx' ob' hp=>?_|refine ((zIj j m a (c.x i.a.toNat) i2 g2 hx).mono fun r nx' ob' hp=>?_).2
  simp only [aftI];obtain ⟨rfl,rfl,rfl⟩:=hp;simp;refine af1 (kX6 @y1 @y2 @y3 @o1 @o2 @o3) ?_;intros;apply wr;refine zAA ?_;simp [CpuD.setP,e1];refine ⟨by omega,by simp [lookO,n1,n2,n3,g2],fun i h1 h2=>?_⟩
  have r1:¬ i=nx:=by omega
  have r2:¬ i=nx+1:=by omega
  have r3:¬ i=nx+1+1:=by omega
  have e:=g3 i (by omega) h2
  simp [lookO,r1,r2,r3] at e;simp [lookO,r1,r2,r3,h2,e]
 have e1:zAZ c l i=(zA4 c k va,m):=by rw [hE,if_pos hk]
 refine zBv @hk rfl @y1 ?_;intros;apply wr;refine cZf (zBf c k va hc) @y3 @y3 ?_;intros;apply wr;refine zAA ?_;simp [e1];refine ⟨by omega,by simp [lookO,n1,n2,n3,g2],fun i h1 h2=>?_⟩
 have r1:¬ i=nx:=by omega
 have r2:¬ i=nx+1:=by omega
 have r3:¬ i=nx+1+1:=by omega
 have e:=g3 i (by omega) h2
 simp [lookO,r1,r2,r3] at e;simp [lookO,r1,r2,r3,h2,e]
theorem zTF {nx:Nat} {ob:List (Nat × Option Ob)} (j:Nat) (c:CpuD) (l:List Int) (i:InstD) (hc:OkC c) (hl:OkW l) (hi:OkI i) (hop:i.op=36) (hj:lookO ob j=some (memO l)) (hjn:j<nx) :
  InlC Tryz.prog 194 [.st c.row,.own j,.st i.row] nx ob fun r nx' ob'=>r=.st (zAZ c l i).1.row∧zBm nx ob j (zAZ c l i).2 nx' ob':=by
 obtain ⟨a0,a1,b0,b1,c0,c1⟩:=hi;have g:=zAQ c b0 b1;have ga:=zAQ c a0 a1;obtain ⟨va,hva⟩:∃ va,va=uw (c.x i.b.toNat+uw i.imm):=⟨_,rfl⟩;have hv:W32 va:=by rw [hva];exact uw_w _
 have va':IntKind.u32.wrap (c.x i.b.toNat+IntKind.u32.wrap i.imm)=va:=hva.symm;have n1:¬ j=nx:=by omega
 have n2:¬ j=nx+1:=by omega
 have n3:¬ j=nx+1+1:=by omega
 have o1:¬ nx=j:=by omega
 have o2:¬ nx+1=j:=by omega
 have o3:¬ nx+1+1=j:=by omega
 obtain ⟨R,hR⟩:∃ R,R=zAF c l va 1 3:=⟨_,rfl⟩;have hin:=zBq (c:=c) (l:=l) (va:=va) (s:=1) (acc:=3) (by omega) (by decide) hc hv
 have hn:=zA2 c l va 1 3;have hw:=zBb (c:=c) (va:=va) (s:=1) (acc:=3) hl;have hE:zAZ c l i=(if R.2.2≠0 then (zA4 c R.2.2 va,R.2.1) else (c.setP (uw (c.pc+4)),zBt R.2.1 R.1 1 (c.x i.a.toNat))):=by
  rw [hR,hva];simp only [zAZ,zAa,hop];rfl
 have hr:∀ {nx:Nat} {ob:List (Nat × Option Ob)},lookO ob j=some (memO l)→j<nx→InlC Tryz.prog 190 [.st c.row,.own j,uv va,iv 1,iv 3] nx ob fun r nx' ob'=>r=.tup [uv R.1,iv R.2.2]∧zBm nx ob j R.2.1 nx' ob':=fun h1 h2=>by
  rw [hR];exact zDL j c l va 1 3 hc hv (by omega) (by omega) h1 h2
 rw [← hR] at hin hn hw;obtain ⟨a,m,k⟩:=R;simp only at hin hn hw hr hE;refine InlC.of Tryz.func194 rfl (by kernel_rfl) rfl ?_
 simp only [Tryz.ntmps194,St.startI,argT];refine au1 (kX2 @g @hop) ?_;intros;apply wr;refine zAG 10 [0,1,0,7,15,0,32,96,255,511] [(8,([[],[0],[],[0,1,2],[0,1,2,3],[],[5],[5,6]],[])),(1,([],[])),(1,([],[]))] ?_;refine af1 (kX3 @g @hop @va') ?_;intros;apply wr;refine af1 (kX3 @g @hop @va') ?_;intros;apply wr;refine zDE @hop rfl @hop ?_;intros;apply wr;refine zBv @hop rfl @hop ?_;intros;apply wr
 first|refine .inr ((hr (by simp [lookO,n1,n2,n3,hj]) (by omega)).mono fun r nx' ob' hp=>?_)|refine (hr (by simp [lookO,n1,n2,n3,hj]) (by omega)).mono fun r nx' ob' hp=>?_|refine ((hr (by simp [lookO,n1,n2,n3,hj]) (by omega)).mono fun r nx' ob' hp=>?_).2
 simp only [aftI];obtain ⟨rfl,g1,g2,g3⟩:=hp;have y1:=g3 nx (by omega) (by omega)
 have y2:=g3 (nx+1) (by omega) (by omega)
 have y3:=g3 (nx+1+1) (by omega) (by omega)
 simp [lookO] at y1 y2 y3;simp;refine af ?_;intros;apply wr;by_cases hk:k=0
 ·obtain ⟨i1,i2⟩:=hin hk;have hx:=zBM i1 i2.1;rw [← hn] at hx;have i3:zAT m a 1=true:=by rw [zBF hn];exact i1
  refine zAi @hk rfl ?_;intros;apply wr;refine zO2 rfl (kX4 @y1 @y2 @ga @hop) ?_;intros;apply wr;have e1:zAZ c l i=(c.setP (uw (c.pc+4)),zBt m a 1 (c.x i.a.toNat)):=by rw [hE,if_neg (by simp [hk])]
  first|refine .inr ((zER j m a (c.x i.a.toNat) i2 hw g2 hx).mono fun r nx' ob' hp=>?_)|refine (zER j m a (c.x i.a.toNat) i2 hw g2 hx).mono fun r nx' ob' hp=>?_|refine ((zER j m a (c.x i.a.toNat) i2 hw g2 hx).mono fun r nx' ob' hp=>?_).2
  simp only [aftI];obtain ⟨rfl,rfl,rfl⟩:=hp;simp;refine af1 (kX6 @y1 @y2 @y3 @o1 @o2 @o3) ?_;intros;apply wr;refine zAA ?_;simp [CpuD.setP,e1];refine ⟨by omega,by simp [lookO,n1,n2,n3,g2],fun i h1 h2=>?_⟩
  have r1:¬ i=nx:=by omega
  have r2:¬ i=nx+1:=by omega
  have r3:¬ i=nx+1+1:=by omega
  have e:=g3 i (by omega) h2
  simp [lookO,r1,r2,r3] at e;simp [lookO,r1,r2,r3,h2,e]
 have e1:zAZ c l i=(zA4 c k va,m):=by rw [hE,if_pos hk]
 refine zBv @hk rfl @y1 ?_;intros;apply wr;refine cZf (zBf c k va hc) @y3 @y3 ?_;intros;apply wr;refine zAA ?_;simp [e1];refine ⟨by omega,by simp [lookO,n1,n2,n3,g2],fun i h1 h2=>?_⟩
 have r1:¬ i=nx:=by omega
 have r2:¬ i=nx+1:=by omega
 have r3:¬ i=nx+1+1:=by omega
 have e:=g3 i (by omega) h2
 simp [lookO,r1,r2,r3] at e;simp [lookO,r1,r2,r3,h2,e]
theorem zS8 {nx:Nat} {ob:List (Nat × Option Ob)} (j:Nat) (c:CpuD) (l:List Int) (i:InstD) (hc:OkC c) (hl:OkW l) (hi:OkI i) (hop:i.op=32) (hj:lookO ob j=some (memO l)) (hjn:j<nx) :
  InlC Tryz.prog 194 [.st c.row,.own j,.st i.row] nx ob fun r nx' ob'=>r=.st (zAc c l i).1.row∧zBm nx ob j (zAc c l i).2 nx' ob':=by
 obtain ⟨a0,a1,b0,b1,c0,c1⟩:=hi;have g:=zAQ c b0 b1;have ga:=zAQ c a0 a1;obtain ⟨va,hva⟩:∃ va,va=uw (c.x i.b.toNat+uw i.imm):=⟨_,rfl⟩;have hv:W32 va:=by rw [hva];exact uw_w _
 have va':IntKind.u32.wrap (c.x i.b.toNat+IntKind.u32.wrap i.imm)=va:=hva.symm;have n1:¬ j=nx:=by omega
 have n2:¬ j=nx+1:=by omega
 have n3:¬ j=nx+1+1:=by omega
 have o1:¬ nx=j:=by omega
 have o2:¬ nx+1=j:=by omega
 have o3:¬ nx+1+1=j:=by omega
 obtain ⟨R,hR⟩:∃ R,R=zAF c l va 4 2:=⟨_,rfl⟩;have hin:=zBq (c:=c) (l:=l) (va:=va) (s:=4) (acc:=2) (by omega) (by decide) hc hv
 have hn:=zA2 c l va 4 2;have hw:=zBb (c:=c) (va:=va) (s:=4) (acc:=2) hl;have hE:zAc c l i=(if R.2.2≠0 then (zA4 c R.2.2 va,R.2.1) else (((c.setR i.a (zBY R.2.1 R.1 4)).setP (uw (c.pc+4))),R.2.1)):=by
  rw [hR,hva];simp only [zAc,zAa,hop];rfl
 have hr:∀ {nx:Nat} {ob:List (Nat × Option Ob)},lookO ob j=some (memO l)→j<nx→InlC Tryz.prog 190 [.st c.row,.own j,uv va,iv 4,iv 2] nx ob fun r nx' ob'=>r=.tup [uv R.1,iv R.2.2]∧zBm nx ob j R.2.1 nx' ob':=fun h1 h2=>by
  rw [hR];exact zDL j c l va 4 2 hc hv (by omega) (by omega) h1 h2
 rw [← hR] at hin hn hw;obtain ⟨a,m,k⟩:=R;simp only at hin hn hw hr hE;refine InlC.of Tryz.func194 rfl (by kernel_rfl) rfl ?_
 simp only [Tryz.ntmps194,St.startI,argT];refine au1 (kX2 @g @hop) ?_;intros;apply wr;refine zAG 10 [0,1,0,7,15,0,32,96,255,511] [(8,([[],[0],[],[0,1,2],[0,1,2,3],[],[5],[5,6]],[])),(1,([],[])),(1,([],[]))] ?_;refine af1 (kX3 @g @hop @va') ?_;intros;apply wr;refine af1 (kX3 @g @hop @va') ?_;intros;apply wr;refine zBv @hop rfl @hop ?_;intros;apply wr;refine zDE @hop rfl @hop ?_;intros;apply wr
 first|refine .inr ((hr (by simp [lookO,n1,n2,n3,hj]) (by omega)).mono fun r nx' ob' hp=>?_)|refine (hr (by simp [lookO,n1,n2,n3,hj]) (by omega)).mono fun r nx' ob' hp=>?_|refine ((hr (by simp [lookO,n1,n2,n3,hj]) (by omega)).mono fun r nx' ob' hp=>?_).2
 simp only [aftI];obtain ⟨rfl,g1,g2,g3⟩:=hp;have y1:=g3 nx (by omega) (by omega)
 have y2:=g3 (nx+1) (by omega) (by omega)
 have y3:=g3 (nx+1+1) (by omega) (by omega)
 simp [lookO] at y1 y2 y3;simp;refine af ?_;intros;apply wr;by_cases hk:k=0
 ·obtain ⟨i1,i2⟩:=hin hk;have hx:=zBM i1 i2.1;rw [← hn] at hx;have i3:zAT m a 4=true:=by rw [zBF hn];exact i1
  refine zAi @hk rfl ?_;intros;apply wr;refine zIG rfl (kX4 @y1 @y2 @ga @hop) ?_;intros;apply wr;have e1:zAc c l i=((c.setR i.a (zBY m a 4)).setP (uw (c.pc+4)),m):=by rw [hE,if_neg (by simp [hk])]
  first|refine .inr ((zDi j m a 4 g2 (by omega) i2).mono fun r nx' ob' hp=>?_)|refine (zDi j m a 4 g2 (by omega) i2).mono fun r nx' ob' hp=>?_|refine ((zDi j m a 4 g2 (by omega) i2).mono fun r nx' ob' hp=>?_).2
  simp only [aftI];obtain ⟨rfl,rfl,rfl⟩:=hp;simp [i3];refine af1 (kX6 @y1 @y2 @y3 @o1 @o2 @o3) ?_;intros;apply wr;refine zDE @hop rfl (kX4 @y1 @y2 @y3 @hop) ?_;intros;apply wr;refine cZf (zCI c i.a (zBY m a 4) a0 a1) (kX3 @y1 @y2 @y3) (kX3 @y1 @y2 @y3) ?_;intros;apply wr;refine zAA ?_;simp [CpuD.setP,e1,zAm];refine ⟨by omega,by simp [lookO,n1,n2,n3,g2],fun i h1 h2=>?_⟩
  have r1:¬ i=nx:=by omega
  have r2:¬ i=nx+1:=by omega
  have r3:¬ i=nx+1+1:=by omega
  have e:=g3 i (by omega) h2
  simp [lookO,r1,r2,r3] at e;simp [lookO,r1,r2,r3,h2,e]
 have e1:zAc c l i=(zA4 c k va,m):=by rw [hE,if_pos hk]
 refine zBv @hk rfl @y1 ?_;intros;apply wr;refine cZf (zBf c k va hc) @y3 @y3 ?_;intros;apply wr;refine zAA ?_;simp [e1];refine ⟨by omega,by simp [lookO,n1,n2,n3,g2],fun i h1 h2=>?_⟩
 have r1:¬ i=nx:=by omega
 have r2:¬ i=nx+1:=by omega
 have r3:¬ i=nx+1+1:=by omega
 have e:=g3 i (by omega) h2
 simp [lookO,r1,r2,r3] at e;simp [lookO,r1,r2,r3,h2,e]
theorem zTA {nx:Nat} {ob:List (Nat × Option Ob)} (j:Nat) (c:CpuD) (l:List Int) (i:InstD) (hc:OkC c) (hl:OkW l) (hi:OkI i) (hop:i.op=34) (hj:lookO ob j=some (memO l)) (hjn:j<nx) :
  InlC Tryz.prog 194 [.st c.row,.own j,.st i.row] nx ob fun r nx' ob'=>r=.st (zAc c l i).1.row∧zBm nx ob j (zAc c l i).2 nx' ob':=by
 obtain ⟨a0,a1,b0,b1,c0,c1⟩:=hi;have g:=zAQ c b0 b1;have ga:=zAQ c a0 a1;obtain ⟨va,hva⟩:∃ va,va=uw (c.x i.b.toNat+uw i.imm):=⟨_,rfl⟩;have hv:W32 va:=by rw [hva];exact uw_w _
 have va':IntKind.u32.wrap (c.x i.b.toNat+IntKind.u32.wrap i.imm)=va:=hva.symm;have n1:¬ j=nx:=by omega
 have n2:¬ j=nx+1:=by omega
 have n3:¬ j=nx+1+1:=by omega
 have o1:¬ nx=j:=by omega
 have o2:¬ nx+1=j:=by omega
 have o3:¬ nx+1+1=j:=by omega
 obtain ⟨R,hR⟩:∃ R,R=zAF c l va 1 2:=⟨_,rfl⟩;have hin:=zBq (c:=c) (l:=l) (va:=va) (s:=1) (acc:=2) (by omega) (by decide) hc hv
 have hn:=zA2 c l va 1 2;have hw:=zBb (c:=c) (va:=va) (s:=1) (acc:=2) hl;have hE:zAc c l i=(if R.2.2≠0 then (zA4 c R.2.2 va,R.2.1) else (((c.setR i.a (zBY R.2.1 R.1 1)).setP (uw (c.pc+4))),R.2.1)):=by
  rw [hR,hva];simp only [zAc,zAa,hop];rfl
 have hr:∀ {nx:Nat} {ob:List (Nat × Option Ob)},lookO ob j=some (memO l)→j<nx→InlC Tryz.prog 190 [.st c.row,.own j,uv va,iv 1,iv 2] nx ob fun r nx' ob'=>r=.tup [uv R.1,iv R.2.2]∧zBm nx ob j R.2.1 nx' ob':=fun h1 h2=>by
  rw [hR];exact zDL j c l va 1 2 hc hv (by omega) (by omega) h1 h2
 rw [← hR] at hin hn hw;obtain ⟨a,m,k⟩:=R;simp only at hin hn hw hr hE;refine InlC.of Tryz.func194 rfl (by kernel_rfl) rfl ?_
 simp only [Tryz.ntmps194,St.startI,argT];refine au1 (kX2 @g @hop) ?_;intros;apply wr;refine zAG 10 [0,1,0,7,15,0,32,96,255,511] [(8,([[],[0],[],[0,1,2],[0,1,2,3],[],[5],[5,6]],[])),(1,([],[])),(1,([],[]))] ?_;refine af1 (kX3 @g @hop @va') ?_;intros;apply wr;refine af1 (kX3 @g @hop @va') ?_;intros;apply wr;refine zDE @hop rfl @hop ?_;intros;apply wr;refine zDE @hop rfl @hop ?_;intros;apply wr
 first|refine .inr ((hr (by simp [lookO,n1,n2,n3,hj]) (by omega)).mono fun r nx' ob' hp=>?_)|refine (hr (by simp [lookO,n1,n2,n3,hj]) (by omega)).mono fun r nx' ob' hp=>?_|refine ((hr (by simp [lookO,n1,n2,n3,hj]) (by omega)).mono fun r nx' ob' hp=>?_).2
 simp only [aftI];obtain ⟨rfl,g1,g2,g3⟩:=hp;have y1:=g3 nx (by omega) (by omega)
 have y2:=g3 (nx+1) (by omega) (by omega)
 have y3:=g3 (nx+1+1) (by omega) (by omega)
 simp [lookO] at y1 y2 y3;simp;refine af ?_;intros;apply wr;by_cases hk:k=0
 ·obtain ⟨i1,i2⟩:=hin hk;have hx:=zBM i1 i2.1;rw [← hn] at hx;have i3:zAT m a 1=true:=by rw [zBF hn];exact i1
  refine zAi @hk rfl ?_;intros;apply wr;refine zIG rfl (kX4 @y1 @y2 @ga @hop) ?_;intros;apply wr;have e1:zAc c l i=((c.setR i.a (zBY m a 1)).setP (uw (c.pc+4)),m):=by rw [hE,if_neg (by simp [hk])]
  first|refine .inr ((zDi j m a 1 g2 (by omega) i2).mono fun r nx' ob' hp=>?_)|refine (zDi j m a 1 g2 (by omega) i2).mono fun r nx' ob' hp=>?_|refine ((zDi j m a 1 g2 (by omega) i2).mono fun r nx' ob' hp=>?_).2
  simp only [aftI];obtain ⟨rfl,rfl,rfl⟩:=hp;simp [i3];refine af1 (kX6 @y1 @y2 @y3 @o1 @o2 @o3) ?_;intros;apply wr;refine zDE @hop rfl (kX4 @y1 @y2 @y3 @hop) ?_;intros;apply wr;refine cZf (zCI c i.a (zBY m a 1) a0 a1) (kX3 @y1 @y2 @y3) (kX3 @y1 @y2 @y3) ?_;intros;apply wr;refine zAA ?_;simp [CpuD.setP,e1,zAm];refine ⟨by omega,by simp [lookO,n1,n2,n3,g2],fun i h1 h2=>?_⟩
  have r1:¬ i=nx:=by omega
  have r2:¬ i=nx+1:=by omega
  have r3:¬ i=nx+1+1:=by omega
  have e:=g3 i (by omega) h2
  simp [lookO,r1,r2,r3] at e;simp [lookO,r1,r2,r3,h2,e]
 have e1:zAc c l i=(zA4 c k va,m):=by rw [hE,if_pos hk]
 refine zBv @hk rfl @y1 ?_;intros;apply wr;refine cZf (zBf c k va hc) @y3 @y3 ?_;intros;apply wr;refine zAA ?_;simp [e1];refine ⟨by omega,by simp [lookO,n1,n2,n3,g2],fun i h1 h2=>?_⟩
 have r1:¬ i=nx:=by omega
 have r2:¬ i=nx+1:=by omega
 have r3:¬ i=nx+1+1:=by omega
 have e:=g3 i (by omega) h2
 simp [lookO,r1,r2,r3] at e;simp [lookO,r1,r2,r3,h2,e]
theorem zS9 {nx:Nat} {ob:List (Nat × Option Ob)} (j:Nat) (c:CpuD) (l:List Int) (i:InstD) (hc:OkC c) (hl:OkW l) (hi:OkI i) (hop:i.op=33) (hj:lookO ob j=some (memO l)) (hjn:j<nx) :
  InlC Tryz.prog 194 [.st c.row,.own j,.st i.row] nx ob fun r nx' ob'=>r=.st (zAc c l i).1.row∧zBm nx ob j (zAc c l i).2 nx' ob':=by
 obtain ⟨a0,a1,b0,b1,c0,c1⟩:=hi;have g:=zAQ c b0 b1;have ga:=zAQ c a0 a1;obtain ⟨va,hva⟩:∃ va,va=uw (c.x i.b.toNat+uw i.imm):=⟨_,rfl⟩;have hv:W32 va:=by rw [hva];exact uw_w _
 have va':IntKind.u32.wrap (c.x i.b.toNat+IntKind.u32.wrap i.imm)=va:=hva.symm;have n1:¬ j=nx:=by omega
 have n2:¬ j=nx+1:=by omega
 have n3:¬ j=nx+1+1:=by omega
 have o1:¬ nx=j:=by omega
 have o2:¬ nx+1=j:=by omega
 have o3:¬ nx+1+1=j:=by omega
 obtain ⟨R,hR⟩:∃ R,R=zAF c l va 1 2:=⟨_,rfl⟩;have hin:=zBq (c:=c) (l:=l) (va:=va) (s:=1) (acc:=2) (by omega) (by decide) hc hv
 have hn:=zA2 c l va 1 2;have hw:=zBb (c:=c) (va:=va) (s:=1) (acc:=2) hl;have hE:zAc c l i=(if R.2.2≠0 then (zA4 c R.2.2 va,R.2.1) else (((c.setR i.a (zEX (zBY R.2.1 R.1 1))).setP (uw (c.pc+4))),R.2.1)):=by
  rw [hR,hva];simp only [zAc,zAa,hop];rfl
 have hr:∀ {nx:Nat} {ob:List (Nat × Option Ob)},lookO ob j=some (memO l)→j<nx→InlC Tryz.prog 190 [.st c.row,.own j,uv va,iv 1,iv 2] nx ob fun r nx' ob'=>r=.tup [uv R.1,iv R.2.2]∧zBm nx ob j R.2.1 nx' ob':=fun h1 h2=>by
  rw [hR];exact zDL j c l va 1 2 hc hv (by omega) (by omega) h1 h2
 rw [← hR] at hin hn hw;obtain ⟨a,m,k⟩:=R;simp only at hin hn hw hr hE;refine InlC.of Tryz.func194 rfl (by kernel_rfl) rfl ?_
 simp only [Tryz.ntmps194,St.startI,argT];refine au1 (kX2 @g @hop) ?_;intros;apply wr;refine zAG 10 [0,1,0,7,15,0,32,96,255,511] [(8,([[],[0],[],[0,1,2],[0,1,2,3],[],[5],[5,6]],[])),(1,([],[])),(1,([],[]))] ?_;refine af1 (kX3 @g @hop @va') ?_;intros;apply wr;refine af1 (kX3 @g @hop @va') ?_;intros;apply wr;refine zDE @hop rfl @hop ?_;intros;apply wr;refine zDE @hop rfl @hop ?_;intros;apply wr
 first|refine .inr ((hr (by simp [lookO,n1,n2,n3,hj]) (by omega)).mono fun r nx' ob' hp=>?_)|refine (hr (by simp [lookO,n1,n2,n3,hj]) (by omega)).mono fun r nx' ob' hp=>?_|refine ((hr (by simp [lookO,n1,n2,n3,hj]) (by omega)).mono fun r nx' ob' hp=>?_).2
 simp only [aftI];obtain ⟨rfl,g1,g2,g3⟩:=hp;have y1:=g3 nx (by omega) (by omega)
 have y2:=g3 (nx+1) (by omega) (by omega)
 have y3:=g3 (nx+1+1) (by omega) (by omega)
 simp [lookO] at y1 y2 y3;simp;refine af ?_;intros;apply wr;by_cases hk:k=0
 ·obtain ⟨i1,i2⟩:=hin hk;have hx:=zBM i1 i2.1;rw [← hn] at hx;have i3:zAT m a 1=true:=by rw [zBF hn];exact i1
  refine zAi @hk rfl ?_;intros;apply wr;refine zIG rfl (kX4 @y1 @y2 @ga @hop) ?_;intros;apply wr;have e1:zAc c l i=((c.setR i.a (zEX (zBY m a 1))).setP (uw (c.pc+4)),m):=by rw [hE,if_neg (by simp [hk])]
  first|refine .inr ((zDi j m a 1 g2 (by omega) i2).mono fun r nx' ob' hp=>?_)|refine (zDi j m a 1 g2 (by omega) i2).mono fun r nx' ob' hp=>?_|refine ((zDi j m a 1 g2 (by omega) i2).mono fun r nx' ob' hp=>?_).2
  simp only [aftI];obtain ⟨rfl,rfl,rfl⟩:=hp;simp [i3];refine af1 (kX6 @y1 @y2 @y3 @o1 @o2 @o3) ?_;intros;apply wr;refine zDl @hop rfl ?_;intros;apply wr;refine cYf (zS4 (zBY m a 1) (zEF _ _).1 (zEF _ _).2) (kX4 @y1 @y2 @y3 @hop) ?_;intros;apply wr;refine cZf (zCI c i.a (zEX (zBY m a 1)) a0 a1) (kX3 @y1 @y2 @y3) (kX3 @y1 @y2 @y3) ?_;intros;apply wr;refine zAA ?_;simp [CpuD.setP,e1,zAm];refine ⟨by omega,by simp [lookO,n1,n2,n3,g2],fun i h1 h2=>?_⟩
  have r1:¬ i=nx:=by omega
  have r2:¬ i=nx+1:=by omega
  have r3:¬ i=nx+1+1:=by omega
  have e:=g3 i (by omega) h2
  simp [lookO,r1,r2,r3] at e;simp [lookO,r1,r2,r3,h2,e]
 have e1:zAc c l i=(zA4 c k va,m):=by rw [hE,if_pos hk]
 refine zBv @hk rfl @y1 ?_;intros;apply wr;refine cZf (zBf c k va hc) @y3 @y3 ?_;intros;apply wr;refine zAA ?_;simp [e1];refine ⟨by omega,by simp [lookO,n1,n2,n3,g2],fun i h1 h2=>?_⟩
 have r1:¬ i=nx:=by omega
 have r2:¬ i=nx+1:=by omega
 have r3:¬ i=nx+1+1:=by omega
 have e:=g3 i (by omega) h2
 simp [lookO,r1,r2,r3] at e;simp [lookO,r1,r2,r3,h2,e]
theorem zUA (c:CpuD) (i:InstD) (hc:OkC c) (hv:validD i=true) (h56:56≤i.op):SyOk c i:=by
 have hi:=zBd hv;have hm:=zKJ hv;rcases zDZ (zCK hv) with h|h|h|h|h|h|h|h|h|h|h|h|h|h|h
 ·omega
 ·omega
 ·omega
 ·omega
 ·omega
 ·omega
 ·exact zVu c i hc hi h
 ·exact zVv c i hc hi h
 ·rw [h] at hm;exact zVw c i hc hi h (by have:=hm.1;simp [lowD,zAK] at this;omega) (by have:=hm.2;simp [zAl,zAK] at this;omega)
 ·rw [h] at hm;exact zVx c i hc hi h (by have:=hm.1;simp [lowD,zAK] at this;omega) (by have:=hm.2;simp [zAl,zAK] at this;omega)
 ·rw [h] at hm;exact zVy c i hc hi h (by have:=hm.1;simp [lowD,zAK] at this;omega) (by have:=hm.2;simp [zAl,zAK] at this;omega)
 ·rw [h] at hm;exact zVz c i hc hi h (by have:=hm.1;simp [lowD,zAK] at this;omega) (by have:=hm.2;simp [zAl,zAK] at this;omega)
 ·exact zV0 c i hc hi h
 ·exact zV1 c i hc hi h
 exact zV2 c i hc hi h
theorem zTu (c:CpuD) (i:InstD) (hc:OkC c) (hv:validD i=true) (h0:40≤i.op) (h1:i.op<56):JuOk c i:=by
 have hi:=zBd hv;rcases zDZ (zCK hv) with h|h|h|h|h|h|h|h|h|h|h|h|h|h|h
 ·omega
 ·omega
 ·omega
 ·exact rxB_ok c i hc hi h
 ·exact zVs c i hc hi h
 ·exact zVt c i hc hi h
 all_goals omega
theorem zTq (c:CpuD) (i:InstD) (h:i.op<56):(zAE c i).2=zEff:=by
 unfold zAE;by_cases e1:i.op=24
 ·rw [if_pos e1]
 rw [if_neg e1];by_cases e2:40≤i.op∧i.op≤45
 ·rw [if_pos e2]
 rw [if_neg e2];by_cases e3:i.op=48
 ·rw [if_pos e3]
 rw [if_neg e3];by_cases e4:i.op=49
 ·rw [if_pos e4]
 rw [if_neg e4]
 iterate 9 rw [if_neg (by omega)]
noncomputable def memD (c:CpuD) (l:List Int) (i:InstD):CpuD × List Int:=if i.op≤34 then zAc c l i else zAZ c l i
theorem zUB {nx:Nat} {ob:List (Nat × Option Ob)} (j:Nat) (c:CpuD) (l:List Int) (i:InstD) (hc:OkC c) (hl:OkW l) (hv:validD i=true) (h0:32≤i.op) (h1:i.op<40) (hj:lookO ob j=some (memO l)) (hjn:j<nx) :
  InlC Tryz.prog 194 [.st c.row,.own j,.st i.row] nx ob fun r nx' ob'=>r=.st (memD c l i).1.row∧zBm nx ob j (memD c l i).2 nx' ob':=by
 have hi:=zBd hv;have h36:i.op≤36:=by rcases zDZ (zCK hv) with h|h|h|h|h|h|h|h|h|h|h|h|h|h|h<;>omega
 have hc5:i.op=32∨i.op=33∨i.op=34∨i.op=35∨i.op=36:=by omega
 unfold memD;rcases hc5 with h|h|h|h|h
 ·rw [if_pos (by omega)];exact zS8 j c l i hc hl hi h hj hjn
 ·rw [if_pos (by omega)];exact zS9 j c l i hc hl hi h hj hjn
 ·rw [if_pos (by omega)];exact zTA j c l i hc hl hi h hj hjn
 ·rw [if_neg (by omega)];exact zTE j c l i hc hl hi h hj hjn
 rw [if_neg (by omega)];exact zTF j c l i hc hl hi h hj hjn
theorem op_56 {i:InstD} (hv:validD i=true):i.op<32→i.op=24∨(1≤i.op∧i.op≤13)∨(16≤i.op∧i.op≤23):=fun h=>by
 rcases zDZ (zCK hv) with h|h|h|h|h|h|h|h|h|h|h|h|h|h|h<;>omega
theorem rdo_ok {nx:Nat} {ob:List (Nat × Option Ob)} (j:Nat) (c:CpuD) (l:List Int) (hc:OkC c) (hl:OkW l) (hj:lookO ob j=some (memO l)) (hjn:j<nx) :
  InlC Tryz.prog 143 [.st c.row,.own j] nx ob fun r nx' ob'=>r=.tup [.st (zAr c l).1.row,.st (zAr c l).2.2.row]∧zBm nx ob j (zAr c l).2.1 nx' ob':=by
 have n1:¬ j=nx:=by omega
 have n2:¬ j=nx+1:=by omega
 have n3:¬ j=nx+1+1:=by omega
 have o1:¬ nx=j:=by omega
 have o2:¬ nx+1=j:=by omega
 have o3:¬ nx+1+1=j:=by omega
 obtain ⟨R,hR⟩:∃ R,R=zAF c l c.pc 4 1:=⟨_,rfl⟩;have hin:=zBq (c:=c) (l:=l) (va:=c.pc) (s:=4) (acc:=1) (by omega) (by decide) hc hc.pc
 have hn:=zA2 c l c.pc 4 1;have hw:=zBb (c:=c) (va:=c.pc) (s:=4) (acc:=1) hl;have hE:zAr c l=(if R.2.2≠0 then (zA4 c R.2.2 c.pc,R.2.1,zEff) else zBl c R.2.1 (wAt R.2.1 (R.1 / 4))):=by rw [hR];rfl
 have hr:∀ {nx:Nat} {ob:List (Nat × Option Ob)},lookO ob j=some (memO l)→j<nx→InlC Tryz.prog 190 [.st c.row,.own j,uv c.pc,iv 4,iv 1] nx ob fun r nx' ob'=>r=.tup [uv R.1,iv R.2.2]∧zBm nx ob j R.2.1 nx' ob':=fun h1 h2=>by
  rw [hR];exact zDL j c l c.pc 4 1 hc hc.pc (by omega) (by omega) h1 h2
 rw [← hR] at hin hn hw;obtain ⟨a,m,k⟩:=R;simp only at hin hn hw hr hE;refine InlC.of Tryz.func143 rfl (by kernel_rfl) rfl ?_
 simp only [Tryz.ntmps143,St.startI,argT];refine au ?_;intros;apply wr
 first|refine .inr ((hr (by simp [lookO,n1,n2,n3,hj]) (by omega)).mono fun r nx' ob' hp=>?_)|refine (hr (by simp [lookO,n1,n2,n3,hj]) (by omega)).mono fun r nx' ob' hp=>?_|refine ((hr (by simp [lookO,n1,n2,n3,hj]) (by omega)).mono fun r nx' ob' hp=>?_).2
 simp only [aftI];obtain ⟨rfl,g1,g2,g3⟩:=hp;have y1:=g3 nx (by omega) (by omega)
 have y2:=g3 (nx+1) (by omega) (by omega)
 have y3:=g3 (nx+1+1) (by omega) (by omega)
 simp [lookO] at y1 y2 y3;simp;refine au ?_;intros;apply wr;by_cases hk:k=0
 ·obtain ⟨i1,i2⟩:=hin hk;have hx:=zBM i1 i2.1;rw [← hn] at hx;have i3:zAT m a 4=true:=by rw [zBF hn];exact i1
  have hE1:zAr c l=zBl c m (wAt m (a / 4)):=by rw [hE,if_neg (by simp [hk])]
  have hld:zBY m a 4=wAt m (a / 4):=by simp [zBY]
  have hww:W32 (wAt m (a / 4)):=zLO hw _;generalize wAt m (a / 4)=w at hE1 hld hww;refine gF10 @hk rfl ?_;intros;apply wr
  first|refine .inr ((zDi j m a 4 g2 (by omega) i2).mono fun r nx' ob' hp=>?_)|refine (zDi j m a 4 g2 (by omega) i2).mono fun r nx' ob' hp=>?_|refine ((zDi j m a 4 g2 (by omega) i2).mono fun r nx' ob' hp=>?_).2
  simp only [aftI];obtain ⟨rfl,rfl,rfl⟩:=hp;simp [i3,hld];refine au ?_;intros;apply wr;have p1:¬ nx=nx'+6:=by omega
  have p2:¬ nx=nx'+5:=by omega
  have p3:¬ nx=nx'+4:=by omega
  have p4:¬ j=nx'+6:=by omega
  have q1:¬ nx'+6=nx:=by omega
  have q2:¬ nx'+5=nx:=by omega
  have q3:¬ nx'+4=nx:=by omega
  have q4:¬ nx'+6=j:=by omega
  cases hv:validD (decI w) with
  | false =>
   have e1:zAr c l=(zA4 c 1 w,m,zEff):=by rw [hE1];unfold zBl;rw [if_pos hv]
   have hd:=zEO w hww;unfold decV at hd;rw [hv,if_neg (by simp)] at hd
   refine cX (hd) ?_;intros;apply wr;refine gT01 rfl (kX11 @y1 @y2 @y3 @p1 @p2 @p3 @p4 @q1 @q2 @q3 @q4) ?_;intros;apply wr;refine cZ (zBf c 1 w hc) (kX5 @y2 @y3 @p1 @p2 @p3) (kX5 @y2 @y3 @p1 @p2 @p3) ?_;intros;apply wr;refine zAA ?_;simp [e1,zEff];refine ⟨by omega,by simp [lookO,n1,n2,n3,p4,g2],fun i h1 h2=>?_⟩
   have r1:¬ i=nx:=by omega
   have r2:¬ i=nx+1:=by omega
   have r3:¬ i=nx+1+1:=by omega
   have r4:¬ i=nx'+6:=by omega
   have e:=g3 i (by omega) h2
   simp [lookO,r1,r2,r3,r4] at e;simp [lookO,r1,r2,r3,r4,h2,e]
  | true =>
   have hd:=zEO w hww;unfold decV at hd;rw [hv,if_pos rfl] at hd;generalize hi:decI w=i at hd hv hE1;refine cX (hd) ?_;intros;apply wr;refine gF01 rfl (kX8 @p1 @p2 @p3 @p4 @q1 @q2 @q3 @q4) ?_;intros;apply wr;have hpr:=zTD i.op;have hk1:=zPD (hc.csr 0);cases hpv:zK3 i.op with
   | true =>
    rw [hpv] at hpr;by_cases hm:c.csr 0 % 2=0
    ·have e1:zAr c l=(zA4 c 2 w,m,zEff):=by rw [hE1];unfold zBl;rw [hi,if_neg (by simp [hv]),if_pos ⟨hpv,hm⟩]
     refine cZ (hpr) (kX3 @y1 @p1 @hk1) (kX5 @y1 @p1 @p2 @p3 @hk1) ?_;intros;apply wr;refine gT11 @hm rfl (kX4 @y1 @p1 @p2 @p3) ?_;intros;apply wr;refine cZ (zBf c 2 w hc) (kX5 @y2 @y3 @p1 @p2 @p3) (kX5 @y2 @y3 @p1 @p2 @p3) ?_;intros;apply wr;refine zAA ?_;simp [e1,zEff];refine ⟨by omega,by simp [lookO,n1,n2,n3,p4,g2],fun i h1 h2=>?_⟩
     have r1:¬ i=nx:=by omega
     have r2:¬ i=nx+1:=by omega
     have r3:¬ i=nx+1+1:=by omega
     have r4:¬ i=nx'+6:=by omega
     have e:=g3 i (by omega) h2
     simp [lookO,r1,r2,r3,r4] at e;simp [lookO,r1,r2,r3,r4,h2,e]
    have e2:zAr c l=if 32≤i.op∧i.op≤34 then ((zAc c m i).1,(zAc c m i).2,zEff) else if 35≤i.op∧i.op≤36 then ((zAZ c m i).1,(zAZ c m i).2,zEff) else ((zAE c i).1,m,(zAE c i).2):=by
     rw [hE1];unfold zBl;rw [hi,if_neg (by simp [hv]),if_neg (fun q=>hm q.2)]
    refine cZ (hpr) (kX3 @y1 @p1 @hk1) (kX5 @y1 @p1 @p2 @p3 @hk1) ?_;intros;apply wr;refine gF11 @hm rfl @p1 ?_;intros;apply wr;by_cases h56:56≤i.op
    ·have e0:zAr c l=((zAE c i).1,m,(zAE c i).2):=by rw [e2,if_neg (by omega),if_neg (by omega)]
     have hs:=zUA c i hc hv h56;unfold SyOk at hs;generalize zAE c i=Z at hs e0;refine gT11 @h56 rfl (kX2 @y1 @p1) ?_;intros;apply wr;refine cZ (hs) (kX5 @y2 @y3 @p1 @p2 @p3) (kX5 @y2 @y3 @p1 @p2 @p3) ?_;intros;apply wr;refine zAA ?_;simp [e0];refine ⟨by omega,by simp [lookO,n1,n2,n3,p4,g2],fun i h1 h2=>?_⟩
     have r1:¬ i=nx:=by omega
     have r2:¬ i=nx+1:=by omega
     have r3:¬ i=nx+1+1:=by omega
     have r4:¬ i=nx'+6:=by omega
     have e:=g3 i (by omega) h2
     simp [lookO,r1,r2,r3,r4] at e;simp [lookO,r1,r2,r3,r4,h2,e]
    refine gF11 @h56 rfl @p1 ?_;intros;apply wr;by_cases h40:40≤i.op
    ·have e0:zAr c l=((zAE c i).1,m,zEff):=by rw [e2,if_neg (by omega),if_neg (by omega),zTq c i (by omega)]
     have hs:=zTu c i hc hv h40 (by omega)
     unfold JuOk at hs;generalize zAE c i=Z at hs e0;refine gT11 @h40 rfl (kX2 @y1 @p1) ?_;intros;apply wr;refine cZ (hs) (kX5 @y2 @y3 @p1 @p2 @p3) (kX5 @y2 @y3 @p1 @p2 @p3) ?_;intros;apply wr;refine zAA ?_;simp [e0,zEff];refine ⟨by omega,by simp [lookO,n1,n2,n3,p4,g2],fun i h1 h2=>?_⟩
     have r1:¬ i=nx:=by omega
     have r2:¬ i=nx+1:=by omega
     have r3:¬ i=nx+1+1:=by omega
     have r4:¬ i=nx'+6:=by omega
     have e:=g3 i (by omega) h2
     simp [lookO,r1,r2,r3,r4] at e;simp [lookO,r1,r2,r3,r4,h2,e]
    refine gF11 @h40 rfl @p1 ?_;intros;apply wr;by_cases h32:32≤i.op
    ·have h36:i.op≤36:=by rcases zDZ (zCK hv) with h|h|h|h|h|h|h|h|h|h|h|h|h|h|h<;>omega
     have e0:zAr c l=((memD c m i).1,(memD c m i).2,zEff):=by
      unfold memD;by_cases h34:i.op≤34
      ·rw [e2,if_pos ⟨h32,h34⟩,if_pos h34]
      rw [e2,if_neg (by omega),if_pos (by omega),if_neg h34]
     have ht:∀ {nx:Nat} {ob:List (Nat × Option Ob)},lookO ob j=some (memO m)→j<nx→InlC Tryz.prog 194 [.st c.row,.own j,.st i.row] nx ob fun r nx' ob'=>r=.st (memD c m i).1.row∧zBm nx ob j (memD c m i).2 nx' ob':=fun h1 h2=>zUB j c m i hc hw hv h32 (by omega) h1 h2
     generalize memD c m i=Z at ht e0;refine gT11 @h32 rfl (kX2 @y1 @p1) ?_;intros;apply wr;obtain ⟨na,rfl⟩:∃ na,na=nx':=⟨_,rfl⟩;obtain ⟨oa,rfl⟩:∃ oa,oa=ob':=⟨_,rfl⟩
     first|refine .inr ((ht (by simp [lookO,p4,g2]) (by omega)).mono fun r nx' ob' hp=>?_)|refine (ht (by simp [lookO,p4,g2]) (by omega)).mono fun r nx' ob' hp=>?_|refine ((ht (by simp [lookO,p4,g2]) (by omega)).mono fun r nx' ob' hp=>?_).2
     simp only [aftI];obtain ⟨rfl,k1,k2,k3⟩:=hp;have z2:=k3 (nx+1) (by omega) (by omega)
     have z3:=k3 (nx+1+1) (by omega) (by omega)
     simp [lookO,p1,p2,p3,y2] at z2;simp [lookO,p1,p2,p3,y3] at z3;simp [z2,z3];refine au1 (kX2 @z2 @z3) ?_;intros;apply wr;refine zAA ?_;simp [e0,zEff];refine ⟨by omega,by simp [lookO,n2,n3,k2],fun v h1 h2=>?_⟩
     have r1:¬ v=nx:=by omega
     have r2:¬ v=nx+1:=by omega
     have r3:¬ v=nx+1+1:=by omega
     have r4:¬ v=na+6:=by omega
     have e:=g3 v (by omega) h2
     have e':=k3 v (by omega) h2
     simp [lookO,r1,r2,r3,r4] at e e';simp [lookO,r1,r2,r3,r4,h2,e,e']
    refine gF11 @h32 rfl @p1 ?_;intros;apply wr;obtain ⟨a0,a1,b0,b1,c0,c1⟩:=zBd hv;by_cases h24:i.op=24
    ·have e0:zAr c l=((c.setR i.a (uw (uw i.imm*65536))).setP (uw (c.pc+4)),m,zEff):=by
      rw [e2,if_neg (by omega),if_neg (by omega)];unfold zAE;simp [h24]
     refine gT11 @h24 rfl (kX2 @y1 @p1) ?_;intros;apply wr;refine cZ (zCI c i.a (uw (uw i.imm*65536)) a0 a1) (kX6 @y1 @y2 @y3 @p1 @p2 @p3) (kX6 @y1 @y2 @y3 @p1 @p2 @p3) ?_;intros;apply wr;refine zAA ?_;simp [e0,zEff,CpuD.setP,zAm];refine ⟨by omega,by simp [lookO,n1,n2,n3,p4,g2],fun i h1 h2=>?_⟩
     have r1:¬ i=nx:=by omega
     have r2:¬ i=nx+1:=by omega
     have r3:¬ i=nx+1+1:=by omega
     have r4:¬ i=nx'+6:=by omega
     have e:=g3 i (by omega) h2
     simp [lookO,r1,r2,r3,r4] at e;simp [lookO,r1,r2,r3,r4,h2,e]
    refine gF11 @h24 rfl @p1 ?_;intros;apply wr;have hal:=op_56 hv (by omega)
    have hop:(1≤i.op∧i.op≤13)∨(16≤i.op∧i.op≤23):=by omega
    have g:=zAQ c b0 b1;have gc:=zAQ c c0 c1;have e0:zAr c l=((c.setR i.a ((aluD i.op (c.x i.b.toNat) (if 16≤i.op then uw i.imm else c.x i.c.toNat)).getD 0)).setP (uw (c.pc+4)),m,zEff):=by
     rw [e2,if_neg (by omega),if_neg (by omega)];unfold zAE
     iterate 13 rw [if_neg (by omega)]
    by_cases h13:i.op≤13
    ·rw [if_neg (by omega)] at e0
     refine gT11 @h13 rfl (kX3 @gc @y1 @p1) ?_;intros;apply wr;refine zAG 14 [0,1,0,4,0,28,60,0,255,511,1023,1023,2047,8191] [(8,([[],[0],[],[2],[],[2,3,4],[2,3,4,5],[]],[])),(1,([],[])),(1,([],[])),(3,([[],[],[0]],[])),(1,([],[]))] ?_;refine af1 (kX3 @g @y1 @p1) ?_;intros;apply wr;refine cYf (zIg i.op (c.x i.b.toNat) (c.x i.c.toNat) (hc.x _) (hc.x _) hop) (kX2 @y1 @p1) ?_;intros;apply wr;refine cZf (zCI c i.a ((aluD i.op (c.x i.b.toNat) (c.x i.c.toNat)).getD 0) a0 a1) (kX6 @y1 @y2 @y3 @p1 @p2 @p3) (kX6 @y1 @y2 @y3 @p1 @p2 @p3) ?_;intros;apply wr;refine zAA ?_;simp [e0,zEff,CpuD.setP,zAm];refine ⟨by omega,by simp [lookO,n1,n2,n3,p4,g2],fun i h1 h2=>?_⟩
     have r1:¬ i=nx:=by omega
     have r2:¬ i=nx+1:=by omega
     have r3:¬ i=nx+1+1:=by omega
     have r4:¬ i=nx'+6:=by omega
     have e:=g3 i (by omega) h2
     simp [lookO,r1,r2,r3,r4] at e;simp [lookO,r1,r2,r3,r4,h2,e]
    rw [if_pos (by omega)] at e0
    refine zDE @h13 rfl @p1 ?_;intros;apply wr;refine zAG 14 [0,1,0,4,0,28,60,0,255,511,1023,1023,2047,8191] [(8,([[],[0],[],[2],[],[2,3,4],[2,3,4,5],[]],[])),(1,([],[])),(1,([],[])),(3,([[],[],[0]],[])),(1,([],[]))] ?_;refine af1 (kX3 @g @y1 @p1) ?_;intros;apply wr;refine cYf (zIg i.op (c.x i.b.toNat) (uw i.imm) (hc.x _) (uw_w _) hop) (kX2 @y1 @p1) ?_;intros;apply wr;refine cZf (zCI c i.a ((aluD i.op (c.x i.b.toNat) (uw i.imm)).getD 0) a0 a1) (kX6 @y1 @y2 @y3 @p1 @p2 @p3) (kX6 @y1 @y2 @y3 @p1 @p2 @p3) ?_;intros;apply wr;refine zAA ?_;simp [e0,zEff,CpuD.setP,zAm];refine ⟨by omega,by simp [lookO,n1,n2,n3,p4,g2],fun i h1 h2=>?_⟩
    have r1:¬ i=nx:=by omega
    have r2:¬ i=nx+1:=by omega
    have r3:¬ i=nx+1+1:=by omega
    have r4:¬ i=nx'+6:=by omega
    have e:=g3 i (by omega) h2
    simp [lookO,r1,r2,r3,r4] at e;simp [lookO,r1,r2,r3,r4,h2,e]
   | false =>
    rw [hpv] at hpr;have e2:zAr c l=if 32≤i.op∧i.op≤34 then ((zAc c m i).1,(zAc c m i).2,zEff) else if 35≤i.op∧i.op≤36 then ((zAZ c m i).1,(zAZ c m i).2,zEff) else ((zAE c i).1,m,(zAE c i).2):=by
     rw [hE1];unfold zBl;rw [hi,if_neg (by simp [hv]),if_neg (fun q=>by rw [hpv] at q;simp at q)]
    refine cZf (hpr) (kX3 @y1 @p1 @hk1) (kX5 @y1 @p1 @p2 @p3 @hk1) ?_;intros;apply wr;refine zIG rfl @p1 ?_;intros;apply wr;by_cases h56:56≤i.op
    ·have e0:zAr c l=((zAE c i).1,m,(zAE c i).2):=by rw [e2,if_neg (by omega),if_neg (by omega)]
     have hs:=zUA c i hc hv h56;unfold SyOk at hs;generalize zAE c i=Z at hs e0;refine zBv @h56 rfl (kX2 @y1 @p1) ?_;intros;apply wr;refine cZf (hs) (kX5 @y2 @y3 @p1 @p2 @p3) (kX5 @y2 @y3 @p1 @p2 @p3) ?_;intros;apply wr;refine zAA ?_;simp [e0];refine ⟨by omega,by simp [lookO,n1,n2,n3,p4,g2],fun i h1 h2=>?_⟩
     have r1:¬ i=nx:=by omega
     have r2:¬ i=nx+1:=by omega
     have r3:¬ i=nx+1+1:=by omega
     have r4:¬ i=nx'+6:=by omega
     have e:=g3 i (by omega) h2
     simp [lookO,r1,r2,r3,r4] at e;simp [lookO,r1,r2,r3,r4,h2,e]
    refine zDE @h56 rfl @p1 ?_;intros;apply wr;by_cases h40:40≤i.op
    ·have e0:zAr c l=((zAE c i).1,m,zEff):=by rw [e2,if_neg (by omega),if_neg (by omega),zTq c i (by omega)]
     have hs:=zTu c i hc hv h40 (by omega)
     unfold JuOk at hs;generalize zAE c i=Z at hs e0;refine zBv @h40 rfl (kX2 @y1 @p1) ?_;intros;apply wr;refine cZf (hs) (kX5 @y2 @y3 @p1 @p2 @p3) (kX5 @y2 @y3 @p1 @p2 @p3) ?_;intros;apply wr;refine zAA ?_;simp [e0,zEff];refine ⟨by omega,by simp [lookO,n1,n2,n3,p4,g2],fun i h1 h2=>?_⟩
     have r1:¬ i=nx:=by omega
     have r2:¬ i=nx+1:=by omega
     have r3:¬ i=nx+1+1:=by omega
     have r4:¬ i=nx'+6:=by omega
     have e:=g3 i (by omega) h2
     simp [lookO,r1,r2,r3,r4] at e;simp [lookO,r1,r2,r3,r4,h2,e]
    refine zDE @h40 rfl @p1 ?_;intros;apply wr;by_cases h32:32≤i.op
    ·have h36:i.op≤36:=by rcases zDZ (zCK hv) with h|h|h|h|h|h|h|h|h|h|h|h|h|h|h<;>omega
     have e0:zAr c l=((memD c m i).1,(memD c m i).2,zEff):=by
      unfold memD;by_cases h34:i.op≤34
      ·rw [e2,if_pos ⟨h32,h34⟩,if_pos h34]
      rw [e2,if_neg (by omega),if_pos (by omega),if_neg h34]
     have ht:∀ {nx:Nat} {ob:List (Nat × Option Ob)},lookO ob j=some (memO m)→j<nx→InlC Tryz.prog 194 [.st c.row,.own j,.st i.row] nx ob fun r nx' ob'=>r=.st (memD c m i).1.row∧zBm nx ob j (memD c m i).2 nx' ob':=fun h1 h2=>zUB j c m i hc hw hv h32 (by omega) h1 h2
     generalize memD c m i=Z at ht e0;refine zBv @h32 rfl (kX2 @y1 @p1) ?_;intros;apply wr;obtain ⟨na,rfl⟩:∃ na,na=nx':=⟨_,rfl⟩;obtain ⟨oa,rfl⟩:∃ oa,oa=ob':=⟨_,rfl⟩
     first|refine .inr ((ht (by simp [lookO,p4,g2]) (by omega)).mono fun r nx' ob' hp=>?_)|refine (ht (by simp [lookO,p4,g2]) (by omega)).mono fun r nx' ob' hp=>?_|refine ((ht (by simp [lookO,p4,g2]) (by omega)).mono fun r nx' ob' hp=>?_).2
     simp only [aftI];obtain ⟨rfl,k1,k2,k3⟩:=hp;have z2:=k3 (nx+1) (by omega) (by omega)
     have z3:=k3 (nx+1+1) (by omega) (by omega)
     simp [lookO,p1,p2,p3,y2] at z2;simp [lookO,p1,p2,p3,y3] at z3;simp [z2,z3];refine af1 (kX2 @z2 @z3) ?_;intros;apply wr;refine zAA ?_;simp [e0,zEff];refine ⟨by omega,by simp [lookO,n2,n3,k2],fun v h1 h2=>?_⟩
     have r1:¬ v=nx:=by omega
     have r2:¬ v=nx+1:=by omega
     have r3:¬ v=nx+1+1:=by omega
     have r4:¬ v=na+6:=by omega
     have e:=g3 v (by omega) h2
     have e':=k3 v (by omega) h2
     simp [lookO,r1,r2,r3,r4] at e e';simp [lookO,r1,r2,r3,r4,h2,e,e']
    refine zDE @h32 rfl @p1 ?_;intros;apply wr;obtain ⟨a0,a1,b0,b1,c0,c1⟩:=zBd hv;by_cases h24:i.op=24
    ·have e0:zAr c l=((c.setR i.a (uw (uw i.imm*65536))).setP (uw (c.pc+4)),m,zEff):=by
      rw [e2,if_neg (by omega),if_neg (by omega)];unfold zAE;simp [h24]
     refine zBv @h24 rfl (kX2 @y1 @p1) ?_;intros;apply wr;refine cZf (zCI c i.a (uw (uw i.imm*65536)) a0 a1) (kX6 @y1 @y2 @y3 @p1 @p2 @p3) (kX6 @y1 @y2 @y3 @p1 @p2 @p3) ?_;intros;apply wr;refine zAA ?_;simp [e0,zEff,CpuD.setP,zAm];refine ⟨by omega,by simp [lookO,n1,n2,n3,p4,g2],fun i h1 h2=>?_⟩
     have r1:¬ i=nx:=by omega
     have r2:¬ i=nx+1:=by omega
     have r3:¬ i=nx+1+1:=by omega
     have r4:¬ i=nx'+6:=by omega
     have e:=g3 i (by omega) h2
     simp [lookO,r1,r2,r3,r4] at e;simp [lookO,r1,r2,r3,r4,h2,e]
    refine zDE @h24 rfl @p1 ?_;intros;apply wr;have hal:=op_56 hv (by omega)
    have hop:(1≤i.op∧i.op≤13)∨(16≤i.op∧i.op≤23):=by omega
    have g:=zAQ c b0 b1;have gc:=zAQ c c0 c1;have e0:zAr c l=((c.setR i.a ((aluD i.op (c.x i.b.toNat) (if 16≤i.op then uw i.imm else c.x i.c.toNat)).getD 0)).setP (uw (c.pc+4)),m,zEff):=by
     rw [e2,if_neg (by omega),if_neg (by omega)];unfold zAE
     iterate 13 rw [if_neg (by omega)]
    by_cases h13:i.op≤13
    ·rw [if_neg (by omega)] at e0
     refine zBv @h13 rfl (kX3 @gc @y1 @p1) ?_;intros;apply wr;refine zAG 14 [0,1,0,4,0,28,60,0,255,511,1023,1023,2047,8191] [(8,([[],[0],[],[2],[],[2,3,4],[2,3,4,5],[]],[])),(1,([],[])),(1,([],[])),(3,([[],[],[0]],[])),(1,([],[]))] ?_;refine af1 (kX3 @g @y1 @p1) ?_;intros;apply wr;refine cYf (zIg i.op (c.x i.b.toNat) (c.x i.c.toNat) (hc.x _) (hc.x _) hop) (kX2 @y1 @p1) ?_;intros;apply wr;refine cZf (zCI c i.a ((aluD i.op (c.x i.b.toNat) (c.x i.c.toNat)).getD 0) a0 a1) (kX6 @y1 @y2 @y3 @p1 @p2 @p3) (kX6 @y1 @y2 @y3 @p1 @p2 @p3) ?_;intros;apply wr;refine zAA ?_;simp [e0,zEff,CpuD.setP,zAm];refine ⟨by omega,by simp [lookO,n1,n2,n3,p4,g2],fun i h1 h2=>?_⟩
     have r1:¬ i=nx:=by omega
     have r2:¬ i=nx+1:=by omega
     have r3:¬ i=nx+1+1:=by omega
     have r4:¬ i=nx'+6:=by omega
     have e:=g3 i (by omega) h2
     simp [lookO,r1,r2,r3,r4] at e;simp [lookO,r1,r2,r3,r4,h2,e]
    rw [if_pos (by omega)] at e0
    refine zDE @h13 rfl @p1 ?_;intros;apply wr;refine zAG 14 [0,1,0,4,0,28,60,0,255,511,1023,1023,2047,8191] [(8,([[],[0],[],[2],[],[2,3,4],[2,3,4,5],[]],[])),(1,([],[])),(1,([],[])),(3,([[],[],[0]],[])),(1,([],[]))] ?_;refine af1 (kX3 @g @y1 @p1) ?_;intros;apply wr;refine cYf (zIg i.op (c.x i.b.toNat) (uw i.imm) (hc.x _) (uw_w _) hop) (kX2 @y1 @p1) ?_;intros;apply wr;refine cZf (zCI c i.a ((aluD i.op (c.x i.b.toNat) (uw i.imm)).getD 0) a0 a1) (kX6 @y1 @y2 @y3 @p1 @p2 @p3) (kX6 @y1 @y2 @y3 @p1 @p2 @p3) ?_;intros;apply wr;refine zAA ?_;simp [e0,zEff,CpuD.setP,zAm];refine ⟨by omega,by simp [lookO,n1,n2,n3,p4,g2],fun i h1 h2=>?_⟩
    have r1:¬ i=nx:=by omega
    have r2:¬ i=nx+1:=by omega
    have r3:¬ i=nx+1+1:=by omega
    have r4:¬ i=nx'+6:=by omega
    have e:=g3 i (by omega) h2
    simp [lookO,r1,r2,r3,r4] at e;simp [lookO,r1,r2,r3,r4,h2,e]
 have e1:zAr c l=(zA4 c k c.pc,m,zEff):=by rw [hE,if_pos hk]
 refine zBv @hk rfl @y1 ?_;intros;apply wr;refine cZf (zBf c k c.pc hc) (kX2 @y2 @y3) (kX2 @y2 @y3) ?_;intros;apply wr;refine zAA ?_;simp [e1,zEff];refine ⟨by omega,by simp [lookO,n1,n2,n3,g2],fun i h1 h2=>?_⟩
 have r1:¬ i=nx:=by omega
 have r2:¬ i=nx+1:=by omega
 have r3:¬ i=nx+1+1:=by omega
 have e:=g3 i (by omega) h2
 simp [lookO,r1,r2,r3] at e;simp [lookO,r1,r2,r3,h2,e]
end Go.Proofs.YtoondlebmacanaaGreat
end
