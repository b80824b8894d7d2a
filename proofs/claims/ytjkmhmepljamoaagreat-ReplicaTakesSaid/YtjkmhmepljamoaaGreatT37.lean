/- A part of the proof of ReplicaTakes. -/
import Derived.Test.YtjkmhmepljamoaaGreatT04
import Derived.Test.YtjkmhmepljamoaaGreatT18
import Derived.Test.YtjkmhmepljamoaaGreatT29
import Derived.Test.YtjkmhmepljamoaaGreatT31
import Derived.Test.YtjkmhmepljamoaaGreatT36
set_option linter.all false
set_option maxHeartbeats 16000000
set_option maxRecDepth 100000
section
namespace Go.Proofs.YtjkmhmepljamoaaGreat
open Go.Ab Go.RowKit Tryz
theorem rdo_ok{nx:Nat}{ob:List (Nat×Option Ob)}(j:Nat)(c:CpuD)(l:List Int)(hc:OkC c)(hl:OkW l)(hj:lookO ob j=some (EF l))(hjn:j<nx):
  Bt prog 158 [.st c.row,.own j] nx ob fun r nx' ob'=>r=.tup [.st (Aw c l).1.row,.st (Aw c l).2.2.row]/\CY nx ob j (Aw c l).2.1 nx' ob':=by
 have n1:¬j=nx:=by omega
 have n2:¬j=nx+1:=by omega
 have n3:¬j=nx+1+1:=by omega
 have o1:¬nx=j:=by omega
 have o2:¬nx+1=j:=by omega
 have o3:¬nx+1+1=j:=by omega
 obtain⟨R,hR⟩:∃R,R=AE c l c.pc 4 1:=⟨_,rfl⟩;have hin:=C2 (c:=c) (l:=l) (va:=c.pc) (s:=4) (acc:=1) (by omega) (by decide) hc hc.pc;have hn:=BI c l c.pc 4 1;have hw:=CE (c:=c) (va:=c.pc) (s:=4) (acc:=1) hl;have hE:Aw c l=(if R.2.2≠0 then(BN c R.2.2 c.pc,R.2.1,Ax)else CW c R.2.1 (wAt R.2.1 (R.1/4))):=by rw[hR];rfl
 have hr:∀{nx:Nat}{ob:List (Nat×Option Ob)},lookO ob j=some (EF l)->j<nx->Bt prog 202 [.st c.row,.own j,uv c.pc,iv 4,iv 1] nx ob fun r nx' ob'=>r=.tup [uv R.1,iv R.2.2]/\CY nx ob j R.2.1 nx' ob':=fun h1 h2=>by
  rw[hR];exact EZ j c l c.pc 4 1 hc hc.pc (by omega) (by omega) h1 h2
 rw[<- hR]at hin hn hw;obtain⟨a,m,k⟩:=R;simp only at hin hn hw hr hE;refine sIX func158 ntmps158 ?_;intros;apply wr;refine cO ?_;refine(hr (by simp[lookO,n1,n2,n3,hj]) (by omega)).mono fun r nx' ob' hp=>?_;simp only[BS];obtain⟨rfl,g1,g2,g3⟩:=hp;have y1:=g3 nx (by omega) (by omega);have y2:=g3 (nx+1) (by omega) (by omega);have y3:=g3 (nx+1+1) (by omega) (by omega);simp[lookO]at y1 y2 y3;simp;refine au ?_;intros;apply wr;by_cases hk:k=0
 ·obtain⟨i1,i2⟩:=hin hk;have hx:=Bf i1 i2.1;rw[<- hn]at hx;have i3:AS m a 4=true:=by rw[BR hn];exact i1
  have hE1:Aw c l=CW c m (wAt m (a/4)):=by rw[hE,if_neg (by simp[hk])]
  have hld:By m a 4=wAt m (a/4):=by simp[By]
  have hww:W32 (wAt m (a/4)):=Oi hw _;generalize wAt m (a/4)=w at hE1 hld hww;refine B1 @hk ?_;intros;apply wr;refine cO ?_;refine(QB j m a 4 g2 (by omega) i2).mono fun r nx' ob' hp=>?_;simp only[BS];obtain⟨rfl,rfl,rfl⟩:=hp;simp[i3,hld];refine au ?_;intros;apply wr;have p1:¬nx=nx'+6:=by omega
  have p2:¬nx=nx'+5:=by omega
  have p3:¬nx=nx'+4:=by omega
  have p4:¬j=nx'+6:=by omega
  have q1:¬nx'+6=nx:=by omega
  have q2:¬nx'+5=nx:=by omega
  have q3:¬nx'+4=nx:=by omega
  have q4:¬nx'+6=j:=by omega
  cases hv:validD (DW w)with
  | false =>
   have e1:Aw c l=(BN c 1 w,m,Ax):=by rw[hE1];unfold CW;rw[if_pos hv]
   have hd:=Fg w hww;unfold Zj at hd;rw[hv,if_neg (by simp)]at hd;refine cX (hd) ?_;refine II (Rl @y1 @y2 @y3 @p1 @p2 @p3 @p4 @q1 @q2 @q3 @q4) ?_;refine cZ (CL c 1 w hc) (kX5 @y2 @y3 @p1 @p2 @p3) (kX5 @y2 @y3 @p1 @p2 @p3) ?_;intros;apply wr;refine ar ?_;simp[e1,Ax];refine⟨by omega,by simp[lookO,n1,n2,n3,p4,g2],fun i h1 h2=>?_⟩;have r1:¬i=nx:=by omega
   have r2:¬i=nx+1:=by omega
   have r3:¬i=nx+1+1:=by omega
   have r4:¬i=nx'+6:=by omega
   have e:=g3 i (by omega) h2;simp[lookO,r1,r2,r3,r4]at e;simp[lookO,r1,r2,r3,r4,h2,e]
  | true =>
   have hd:=Fg w hww;unfold Zj at hd;rw[hv,if_pos rfl]at hd;generalize hi:DW w=i at hd hv hE1;refine cX (hd) ?_;refine EE (kX8 @p1 @p2 @p3 @p4 @q1 @q2 @q3 @q4) ?_;intros;apply wr;have hpr:=Xh i.op;have hk1:=TR (hc.csr 0);cases hpv:OT i.op with
   | true =>
    rw[hpv]at hpr;by_cases hm:c.csr 0%2=0
    ·have e1:Aw c l=(BN c 2 w,m,Ax):=by rw[hE1];unfold CW;rw[hi,if_neg (by simp[hv]),if_pos ⟨hpv,hm⟩]
     refine cZ (hpr) (kX3 @y1 @p1 @hk1) (kX5 @y1 @p1 @p2 @p3 @hk1) ?_;refine DT @hm (kX4 @y1 @p1 @p2 @p3) ?_;refine cZ (CL c 2 w hc) (kX5 @y2 @y3 @p1 @p2 @p3) (kX5 @y2 @y3 @p1 @p2 @p3) ?_;intros;apply wr;refine ar ?_;simp[e1,Ax];refine⟨by omega,by simp[lookO,n1,n2,n3,p4,g2],fun i h1 h2=>?_⟩;have r1:¬i=nx:=by omega
     have r2:¬i=nx+1:=by omega
     have r3:¬i=nx+1+1:=by omega
     have r4:¬i=nx'+6:=by omega
     have e:=g3 i (by omega) h2;simp[lookO,r1,r2,r3,r4]at e;simp[lookO,r1,r2,r3,r4,h2,e]
    have e2:Aw c l=if 32<=i.op/\i.op<=34 then((Ac c m i).1,(Ac c m i).2,Ax)else if 35<=i.op/\i.op<=36 then((AX c m i).1,(AX c m i).2,Ax)else((AD c i).1,m,(AD c i).2):=by
     rw[hE1];unfold CW;rw[hi,if_neg (by simp[hv]),if_neg (fun q=>hm q.2)]
    refine cZ (hpr) (kX3 @y1 @p1 @hk1) (kX5 @y1 @p1 @p2 @p3 @hk1) ?_;refine EL @hm @p1 ?_;intros;apply wr;by_cases h56:56<=i.op
    ·have e0:Aw c l=((AD c i).1,m,(AD c i).2):=by rw[e2,if_neg (by omega),if_neg (by omega)]
     have hs:=ZI c i hc hv h56;unfold J5 at hs;generalize AD c i=Z at hs e0;refine DT @h56 (kX2 @y1 @p1) ?_;refine cZ (hs) (kX5 @y2 @y3 @p1 @p2 @p3) (kX5 @y2 @y3 @p1 @p2 @p3) ?_;intros;apply wr;refine ar ?_;simp[e0];refine⟨by omega,by simp[lookO,n1,n2,n3,p4,g2],fun i h1 h2=>?_⟩;have r1:¬i=nx:=by omega
     have r2:¬i=nx+1:=by omega
     have r3:¬i=nx+1+1:=by omega
     have r4:¬i=nx'+6:=by omega
     have e:=g3 i (by omega) h2;simp[lookO,r1,r2,r3,r4]at e;simp[lookO,r1,r2,r3,r4,h2,e]
    refine EL @h56 @p1 ?_;intros;apply wr;by_cases h40:40<=i.op
    ·have e0:Aw c l=((AD c i).1,m,Ax):=by rw[e2,if_neg (by omega),if_neg (by omega),Yb c i (by omega)]
     have hs:=Yg c i hc hv h40 (by omega);unfold V5 at hs;generalize AD c i=Z at hs e0;refine DT @h40 (kX2 @y1 @p1) ?_;refine cZ (hs) (kX5 @y2 @y3 @p1 @p2 @p3) (kX5 @y2 @y3 @p1 @p2 @p3) ?_;intros;apply wr;refine ar ?_;simp[e0,Ax];refine⟨by omega,by simp[lookO,n1,n2,n3,p4,g2],fun i h1 h2=>?_⟩;have r1:¬i=nx:=by omega
     have r2:¬i=nx+1:=by omega
     have r3:¬i=nx+1+1:=by omega
     have r4:¬i=nx'+6:=by omega
     have e:=g3 i (by omega) h2;simp[lookO,r1,r2,r3,r4]at e;simp[lookO,r1,r2,r3,r4,h2,e]
    refine EL @h40 @p1 ?_;intros;apply wr;by_cases h32:32<=i.op
    ·have h36:i.op<=36:=by rcases Ek (DC hv)with h|h|h|h|h|h|h|h|h|h|h|h|h|h|h<;>omega
     have e0:Aw c l=((OF c m i).1,(OF c m i).2,Ax):=by
      unfold OF;by_cases h34:i.op<=34
      ·rw[e2,if_pos ⟨h32,h34⟩,if_pos h34]
      rw[e2,if_neg (by omega),if_pos (by omega),if_neg h34]
     have ht:∀{nx:Nat}{ob:List (Nat×Option Ob)},lookO ob j=some (EF m)->j<nx->Bt prog 206 [.st c.row,.own j,.st i.row] nx ob fun r nx' ob'=>r=.st (OF c m i).1.row/\CY nx ob j (OF c m i).2 nx' ob':=fun h1 h2=>ZJ j c m i hc hw hv h32 (by omega) h1 h2;generalize OF c m i=Z at ht e0;refine DT @h32 (kX2 @y1 @p1) ?_;intros;apply wr;obtain⟨na,rfl⟩:∃na,na=nx':=⟨_,rfl⟩;obtain⟨oa,rfl⟩:∃oa,oa=ob':=⟨_,rfl⟩;refine cO ?_;refine(ht (by simp[lookO,p4,g2]) (by omega)).mono fun r nx' ob' hp=>?_;simp only[BS];obtain⟨rfl,k1,k2,k3⟩:=hp;have z2:=k3 (nx+1) (by omega) (by omega);have z3:=k3 (nx+1+1) (by omega) (by omega);simp[lookO,p1,p2,p3,y2]at z2;simp[lookO,p1,p2,p3,y3]at z3;simp[z2,z3];refine au1 (kX2 @z2 @z3) ?_;intros;apply wr;refine ar ?_;simp[e0,Ax];refine⟨by omega,by simp[lookO,n2,n3,k2],fun v h1 h2=>?_⟩;have r1:¬v=nx:=by omega
     have r2:¬v=nx+1:=by omega
     have r3:¬v=nx+1+1:=by omega
     have r4:¬v=na+6:=by omega
     have e:=g3 v (by omega) h2;have e':=k3 v (by omega) h2;simp[lookO,r1,r2,r3,r4]at e e';simp[lookO,r1,r2,r3,r4,h2,e,e']
    refine EL @h32 @p1 ?_;intros;apply wr;obtain⟨a0,a1,b0,b1,c0,c1⟩:=CG hv;by_cases h24:i.op=24
    ·have e0:Aw c l=((c.setR i.a (uw (uw i.imm*65536))).setP (uw (c.pc+4)),m,Ax):=by
      rw[e2,if_neg (by omega),if_neg (by omega)];unfold AD;simp[h24]
     refine DT @h24 (kX2 @y1 @p1) ?_;refine cZ (Cz c i.a (uw (uw i.imm*65536)) a0 a1) (kX6 @y1 @y2 @y3 @p1 @p2 @p3) (kX6 @y1 @y2 @y3 @p1 @p2 @p3) ?_;intros;apply wr;refine ar ?_;simp[e0,Ax,CpuD.setP,Al];refine⟨by omega,by simp[lookO,n1,n2,n3,p4,g2],fun i h1 h2=>?_⟩;have r1:¬i=nx:=by omega
     have r2:¬i=nx+1:=by omega
     have r3:¬i=nx+1+1:=by omega
     have r4:¬i=nx'+6:=by omega
     have e:=g3 i (by omega) h2;simp[lookO,r1,r2,r3,r4]at e;simp[lookO,r1,r2,r3,r4,h2,e]
    refine EL @h24 @p1 ?_;intros;apply wr;have hal:=op_56 hv (by omega);have hop:(1<=i.op/\i.op<=13)\/(16<=i.op/\i.op<=23):=by omega
    have g:=AN c b0 b1;have gc:=AN c c0 c1;have e0:Aw c l=((c.setR i.a ((Rj i.op (c.x i.b.toNat) (if 16<=i.op then uw i.imm else c.x i.c.toNat)).getD 0)).setP (uw (c.pc+4)),m,Ax):=by
     rw[e2,if_neg (by omega),if_neg (by omega)];unfold AD
     iterate 13 rw[if_neg (by omega)]
    by_cases h13:i.op<=13
    ·rw[if_neg (by omega)]at e0;refine DT @h13 (kX3 @gc @y1 @p1) ?_;intros;apply wr;refine AG 14 [0,1,0,4,0,28,60,0,255,511,1023,1023,2047,8191] [(8,([[],[0],[],[2],[],[2,3,4],[2,3,4,5],[]],[])),(1,([],[])),(1,([],[])),(3,([[],[],[0]],[])),(1,([],[]))] ?_;refine af1 (kX3 @g @y1 @p1) ?_;refine cYf (LS i.op (c.x i.b.toNat) (c.x i.c.toNat) (hc.x _) (hc.x _) hop) (kX2 @y1 @p1) ?_;refine cZf (Cz c i.a ((Rj i.op (c.x i.b.toNat) (c.x i.c.toNat)).getD 0) a0 a1) (kX6 @y1 @y2 @y3 @p1 @p2 @p3) (kX6 @y1 @y2 @y3 @p1 @p2 @p3) ?_;intros;apply wr;refine ar ?_;simp[e0,Ax,CpuD.setP,Al];refine⟨by omega,by simp[lookO,n1,n2,n3,p4,g2],fun i h1 h2=>?_⟩;have r1:¬i=nx:=by omega
     have r2:¬i=nx+1:=by omega
     have r3:¬i=nx+1+1:=by omega
     have r4:¬i=nx'+6:=by omega
     have e:=g3 i (by omega) h2;simp[lookO,r1,r2,r3,r4]at e;simp[lookO,r1,r2,r3,r4,h2,e]
    rw[if_pos (by omega)]at e0;refine EA @h13 @p1 ?_;intros;apply wr;refine AG 14 [0,1,0,4,0,28,60,0,255,511,1023,1023,2047,8191] [(8,([[],[0],[],[2],[],[2,3,4],[2,3,4,5],[]],[])),(1,([],[])),(1,([],[])),(3,([[],[],[0]],[])),(1,([],[]))] ?_;refine af1 (kX3 @g @y1 @p1) ?_;refine cYf (LS i.op (c.x i.b.toNat) (uw i.imm) (hc.x _) (E8 _) hop) (kX2 @y1 @p1) ?_;refine cZf (Cz c i.a ((Rj i.op (c.x i.b.toNat) (uw i.imm)).getD 0) a0 a1) (kX6 @y1 @y2 @y3 @p1 @p2 @p3) (kX6 @y1 @y2 @y3 @p1 @p2 @p3) ?_;intros;apply wr;refine ar ?_;simp[e0,Ax,CpuD.setP,Al];refine⟨by omega,by simp[lookO,n1,n2,n3,p4,g2],fun i h1 h2=>?_⟩;have r1:¬i=nx:=by omega
    have r2:¬i=nx+1:=by omega
    have r3:¬i=nx+1+1:=by omega
    have r4:¬i=nx'+6:=by omega
    have e:=g3 i (by omega) h2;simp[lookO,r1,r2,r3,r4]at e;simp[lookO,r1,r2,r3,r4,h2,e]
   | false =>
    rw[hpv]at hpr;have e2:Aw c l=if 32<=i.op/\i.op<=34 then((Ac c m i).1,(Ac c m i).2,Ax)else if 35<=i.op/\i.op<=36 then((AX c m i).1,(AX c m i).2,Ax)else((AD c i).1,m,(AD c i).2):=by
     rw[hE1];unfold CW;rw[hi,if_neg (by simp[hv]),if_neg (fun q=>by rw[hpv]at q;simp at q)]
    refine cZf (hpr) (kX3 @y1 @p1 @hk1) (kX5 @y1 @p1 @p2 @p3 @hk1) ?_;refine Kp @p1 ?_;intros;apply wr;by_cases h56:56<=i.op
    ·have e0:Aw c l=((AD c i).1,m,(AD c i).2):=by rw[e2,if_neg (by omega),if_neg (by omega)]
     have hs:=ZI c i hc hv h56;unfold J5 at hs;generalize AD c i=Z at hs e0;refine Ce @h56 (kX2 @y1 @p1) ?_;refine cZf (hs) (kX5 @y2 @y3 @p1 @p2 @p3) (kX5 @y2 @y3 @p1 @p2 @p3) ?_;intros;apply wr;refine ar ?_;simp[e0];refine⟨by omega,by simp[lookO,n1,n2,n3,p4,g2],fun i h1 h2=>?_⟩;have r1:¬i=nx:=by omega
     have r2:¬i=nx+1:=by omega
     have r3:¬i=nx+1+1:=by omega
     have r4:¬i=nx'+6:=by omega
     have e:=g3 i (by omega) h2;simp[lookO,r1,r2,r3,r4]at e;simp[lookO,r1,r2,r3,r4,h2,e]
    refine EA @h56 @p1 ?_;intros;apply wr;by_cases h40:40<=i.op
    ·have e0:Aw c l=((AD c i).1,m,Ax):=by rw[e2,if_neg (by omega),if_neg (by omega),Yb c i (by omega)]
     have hs:=Yg c i hc hv h40 (by omega);unfold V5 at hs;generalize AD c i=Z at hs e0;refine Ce @h40 (kX2 @y1 @p1) ?_;refine cZf (hs) (kX5 @y2 @y3 @p1 @p2 @p3) (kX5 @y2 @y3 @p1 @p2 @p3) ?_;intros;apply wr;refine ar ?_;simp[e0,Ax];refine⟨by omega,by simp[lookO,n1,n2,n3,p4,g2],fun i h1 h2=>?_⟩;have r1:¬i=nx:=by omega
     have r2:¬i=nx+1:=by omega
     have r3:¬i=nx+1+1:=by omega
     have r4:¬i=nx'+6:=by omega
     have e:=g3 i (by omega) h2;simp[lookO,r1,r2,r3,r4]at e;simp[lookO,r1,r2,r3,r4,h2,e]
    refine EA @h40 @p1 ?_;intros;apply wr;by_cases h32:32<=i.op
    ·have h36:i.op<=36:=by rcases Ek (DC hv)with h|h|h|h|h|h|h|h|h|h|h|h|h|h|h<;>omega
     have e0:Aw c l=((OF c m i).1,(OF c m i).2,Ax):=by
      unfold OF;by_cases h34:i.op<=34
      ·rw[e2,if_pos ⟨h32,h34⟩,if_pos h34]
      rw[e2,if_neg (by omega),if_pos (by omega),if_neg h34]
     have ht:∀{nx:Nat}{ob:List (Nat×Option Ob)},lookO ob j=some (EF m)->j<nx->Bt prog 206 [.st c.row,.own j,.st i.row] nx ob fun r nx' ob'=>r=.st (OF c m i).1.row/\CY nx ob j (OF c m i).2 nx' ob':=fun h1 h2=>ZJ j c m i hc hw hv h32 (by omega) h1 h2;generalize OF c m i=Z at ht e0;refine Ce @h32 (kX2 @y1 @p1) ?_;intros;apply wr;obtain⟨na,rfl⟩:∃na,na=nx':=⟨_,rfl⟩;obtain⟨oa,rfl⟩:∃oa,oa=ob':=⟨_,rfl⟩;refine cO ?_;refine(ht (by simp[lookO,p4,g2]) (by omega)).mono fun r nx' ob' hp=>?_;simp only[BS];obtain⟨rfl,k1,k2,k3⟩:=hp;have z2:=k3 (nx+1) (by omega) (by omega);have z3:=k3 (nx+1+1) (by omega) (by omega);simp[lookO,p1,p2,p3,y2]at z2;simp[lookO,p1,p2,p3,y3]at z3;simp[z2,z3];refine af1 (kX2 @z2 @z3) ?_;intros;apply wr;refine ar ?_;simp[e0,Ax];refine⟨by omega,by simp[lookO,n2,n3,k2],fun v h1 h2=>?_⟩;have r1:¬v=nx:=by omega
     have r2:¬v=nx+1:=by omega
     have r3:¬v=nx+1+1:=by omega
     have r4:¬v=na+6:=by omega
     have e:=g3 v (by omega) h2;have e':=k3 v (by omega) h2;simp[lookO,r1,r2,r3,r4]at e e';simp[lookO,r1,r2,r3,r4,h2,e,e']
    refine EA @h32 @p1 ?_;intros;apply wr;obtain⟨a0,a1,b0,b1,c0,c1⟩:=CG hv;by_cases h24:i.op=24
    ·have e0:Aw c l=((c.setR i.a (uw (uw i.imm*65536))).setP (uw (c.pc+4)),m,Ax):=by
      rw[e2,if_neg (by omega),if_neg (by omega)];unfold AD;simp[h24]
     refine Ce @h24 (kX2 @y1 @p1) ?_;refine cZf (Cz c i.a (uw (uw i.imm*65536)) a0 a1) (kX6 @y1 @y2 @y3 @p1 @p2 @p3) (kX6 @y1 @y2 @y3 @p1 @p2 @p3) ?_;intros;apply wr;refine ar ?_;simp[e0,Ax,CpuD.setP,Al];refine⟨by omega,by simp[lookO,n1,n2,n3,p4,g2],fun i h1 h2=>?_⟩;have r1:¬i=nx:=by omega
     have r2:¬i=nx+1:=by omega
     have r3:¬i=nx+1+1:=by omega
     have r4:¬i=nx'+6:=by omega
     have e:=g3 i (by omega) h2;simp[lookO,r1,r2,r3,r4]at e;simp[lookO,r1,r2,r3,r4,h2,e]
    refine EA @h24 @p1 ?_;intros;apply wr;have hal:=op_56 hv (by omega);have hop:(1<=i.op/\i.op<=13)\/(16<=i.op/\i.op<=23):=by omega
    have g:=AN c b0 b1;have gc:=AN c c0 c1;have e0:Aw c l=((c.setR i.a ((Rj i.op (c.x i.b.toNat) (if 16<=i.op then uw i.imm else c.x i.c.toNat)).getD 0)).setP (uw (c.pc+4)),m,Ax):=by
     rw[e2,if_neg (by omega),if_neg (by omega)];unfold AD
     iterate 13 rw[if_neg (by omega)]
    by_cases h13:i.op<=13
    ·rw[if_neg (by omega)]at e0;refine Ce @h13 (kX3 @gc @y1 @p1) ?_;intros;apply wr;refine AG 14 [0,1,0,4,0,28,60,0,255,511,1023,1023,2047,8191] [(8,([[],[0],[],[2],[],[2,3,4],[2,3,4,5],[]],[])),(1,([],[])),(1,([],[])),(3,([[],[],[0]],[])),(1,([],[]))] ?_;refine af1 (kX3 @g @y1 @p1) ?_;refine cYf (LS i.op (c.x i.b.toNat) (c.x i.c.toNat) (hc.x _) (hc.x _) hop) (kX2 @y1 @p1) ?_;refine cZf (Cz c i.a ((Rj i.op (c.x i.b.toNat) (c.x i.c.toNat)).getD 0) a0 a1) (kX6 @y1 @y2 @y3 @p1 @p2 @p3) (kX6 @y1 @y2 @y3 @p1 @p2 @p3) ?_;intros;apply wr;refine ar ?_;simp[e0,Ax,CpuD.setP,Al];refine⟨by omega,by simp[lookO,n1,n2,n3,p4,g2],fun i h1 h2=>?_⟩;have r1:¬i=nx:=by omega
     have r2:¬i=nx+1:=by omega
     have r3:¬i=nx+1+1:=by omega
     have r4:¬i=nx'+6:=by omega
     have e:=g3 i (by omega) h2;simp[lookO,r1,r2,r3,r4]at e;simp[lookO,r1,r2,r3,r4,h2,e]
    rw[if_pos (by omega)]at e0;refine EA @h13 @p1 ?_;intros;apply wr;refine AG 14 [0,1,0,4,0,28,60,0,255,511,1023,1023,2047,8191] [(8,([[],[0],[],[2],[],[2,3,4],[2,3,4,5],[]],[])),(1,([],[])),(1,([],[])),(3,([[],[],[0]],[])),(1,([],[]))] ?_;refine af1 (kX3 @g @y1 @p1) ?_;refine cYf (LS i.op (c.x i.b.toNat) (uw i.imm) (hc.x _) (E8 _) hop) (kX2 @y1 @p1) ?_;refine cZf (Cz c i.a ((Rj i.op (c.x i.b.toNat) (uw i.imm)).getD 0) a0 a1) (kX6 @y1 @y2 @y3 @p1 @p2 @p3) (kX6 @y1 @y2 @y3 @p1 @p2 @p3) ?_;intros;apply wr;refine ar ?_;simp[e0,Ax,CpuD.setP,Al];refine⟨by omega,by simp[lookO,n1,n2,n3,p4,g2],fun i h1 h2=>?_⟩;have r1:¬i=nx:=by omega
    have r2:¬i=nx+1:=by omega
    have r3:¬i=nx+1+1:=by omega
    have r4:¬i=nx'+6:=by omega
    have e:=g3 i (by omega) h2;simp[lookO,r1,r2,r3,r4]at e;simp[lookO,r1,r2,r3,r4,h2,e]
 have e1:Aw c l=(BN c k c.pc,m,Ax):=by rw[hE,if_pos hk]
 refine Ce @hk @y1 ?_;refine cZf (CL c k c.pc hc) (kX2 @y2 @y3) (kX2 @y2 @y3) ?_;intros;apply wr;refine ar ?_;simp[e1,Ax];refine⟨by omega,by simp[lookO,n1,n2,n3,g2],fun i h1 h2=>?_⟩;have r1:¬i=nx:=by omega
 have r2:¬i=nx+1:=by omega
 have r3:¬i=nx+1+1:=by omega
 have e:=g3 i (by omega) h2;simp[lookO,r1,r2,r3]at e;simp[lookO,r1,r2,r3,h2,e]
theorem O5(t:TimD):AC prog 261 [.st t.row] (.bool t.fired):=by
 refine sZ func261 ntmps261 ?_;exact wx trivial trivial
theorem OW(s:Str):AC prog 262 [.st [.str s]] (.bool (!decide (s=[]))):=by
 have e:decide (0<(s.length:Int))=!decide (s=[]):=by cases s<;>simp<;>omega
 refine sZ func262 ntmps262 ?_;exact wx1 trivial trivial @e
theorem OY(d:DskD):AC prog 263 [.st d.row] (.bool (CQ d)):=by
 refine sZ func263 ntmps263 ?_;exact wx1 trivial trivial @CQ.eq_1
theorem O3(n:NicD):AC prog 264 [.st n.row] (.bool n.received):=by
 refine sZ func264 ntmps264 ?_;exact wx trivial trivial
theorem Ui(t:TimD):AC prog 209 [.st t.row] (uv (R9 t)):=by
 refine sZ func209 ntmps209 ?_;exact wx1 trivial trivial (kX2 @R9.eq_1 @b2w.eq_1)
theorem UW(d:DskD)(p:Int):AC prog 210 [.st d.row,iv p] (uv (Nj d p)):=by
 refine sZ func210 ntmps210 ?_;exact wx1 trivial trivial @Nj.eq_1
theorem U9(n:NicD)(p:Int):AC prog 211 [.st n.row,iv p] (uv (OH n p)):=by
 refine sZ func211 ntmps211 ?_;exact wx1 trivial trivial (kX3 @OH.eq_1 @b2w.eq_1 @D4)
theorem cD(v:Int):AC prog 213 [uv v] (.st (Vn v).row):=by
 refine sZ func213 ntmps213 ?_;exact wx1 trivial trivial @Vn.eq_1
def Ey(g:Int)(n:Nat):Int:=(List.range n).foldl (fun n i=>n+g/2^i%2) 0
@[simp] theorem countU_0(g:Int):Ey g 0=0:=rfl
theorem PE(g:Int)(n:Nat):Ey g (n+1)=Ey g n+g/2^n%2:=by simp[Ey,List.range_succ,List.foldl_append]
theorem PD(g:Int):∀n:Nat,0<=Ey g n/\Ey g n<=n
 | 0=>by simp[Ey]
 | n+1=>by have:=PD g n;rw[PE];omega
theorem NB(t g:Int)(hg:W32 g):AC prog 278 [.st [uv t,uv g]] (iv (countB g)):=by
 refine sX func278 ntmps278 ?_;intros;apply wr;obtain⟨I,hI⟩:∃I:Nat->St->Prop,I=(fun kk ss=>∃(i:Nat),i<=32/\kk=32-i/\(True)/\ss=⟨19,[(4,.int .i64 i),(3,.int .i64 (Ey g i)),(1,.ptr 0 2 0 0)],1,[(0,some ⟨40,2,true,false,[[uv t,uv g]]⟩)],0⟩):=⟨_,rfl⟩;refine lX I (id) (by rw[hI];exact⟨0,by simp,rfl,trivial,rfl⟩) ?_;intro kk ss hIk _;rw[hI]at hIk;obtain⟨i,hi,rfl,hx,rfl⟩:=hIk;refine au ?_;intros;apply wr;refine AB rfl (fun h=>?_) (fun h=>?_)
 ·simp at h;have e1:min i 32=i:=by omega
  have e2:g.fdiv (2^i)=g/2^i:=eS _ (fM (fQ (by decide)));have e3:Bc .u32 (g/2^i) 1=g/2^i%2:=AW (g/2^i) 1 2 (by omega) (by decide);have e4:IntKind.i64.wrap (g/2^i%2)=g/2^i%2:=AA (by omega) (by omega);have e5:=PD g i;have e6:IntKind.i64.wrap (Ey g i+g/2^i%2)=Ey g (i+1):=by rw[PE];exact AA (by omega) (by omega)
  have e7:IntKind.u64.wrap (i:Int)=i:=u64_in (by omega) (by omega);refine au1 (kX6 @e1 @e2 @e3 @e4 @e6 @e7) ?_;intros;apply wr;exact aX (fun x=>x) (by rw[hI];exact⟨i+1,by omega,rfl,trivial,rfl⟩) (kX2 (AA (n:=(i:Int)+1) (by omega) (by omega)) @e6)
 simp at h;have hi:i=32:=by omega
 subst hi;refine au ?_;refine ar ?_;simp[countB,Ey]
theorem OV(t g:Int)(hw:W32 g)(ht:W32 t):AC prog 265 [.st [uv t,uv g]] (.bool (Bb t g)):=by
 have hb:=Ed hw;have e:IntKind.u64.wrap (countB g)=countB g:=u64_in (by omega) (by omega);have e2:IntKind.u64.wrap t=t:=u64_in ht.1 (by have:=ht.2;omega);refine sZ func265 ntmps265 ?_
 (refine af1 (kX3 @e @e2 @Bb.eq_1) ?_;intros;apply wr)
 repeat' ((first|(refine AB rfl (fun h=>?_) (fun h=>?_)<;>(first|(simp[e,e2,Bb]at h;done)|(simp[e,e2,Bb]at h)|skip)<;>(first|(exfalso;omega)|skip))|refine cc1 (NB t g hw) (kX3 @e @e2 @Bb.eq_1) ?_|(refine AG 8 [0,1,3,0,8,24,63,127] [(6,([[],[0],[0,1],[],[3],[3,4]],[(4,1),(5,1)])),(1,([],[])),(1,([],[]))] ?_)|exact rt1 (kX3 @e @e2 @Bb.eq_1)|fail)<;>(refine af1 (kX3 @e @e2 @Bb.eq_1) ?_;intros;apply wr))
theorem UT(t g p:Int)(hw:W32 g):AC prog 212 [.st [uv t,uv g],iv p] (uv (Lp t g p)):=by
 have e:IntKind.u32.wrap (countB g)=countB g:=by have:=Ed hw;exact u32_in (by omega) (by omega)
 refine sZ func212 ntmps212 ?_;exact wx1 (qX1 (NB t g hw)) trivial (kX2 @e @Lp.eq_1)
theorem Gi(b:Bool)(k:Int)(hk:0<=k/\k<=4):AC prog 260 [.bool b,iv k] (uv (b2w b*2^k.toNat)):=by
 have hk5:k=0\/k=1\/k=2\/k=3\/k=4:=by omega
 rcases hk5 with rfl|rfl|rfl|rfl|rfl
 ·refine sZ func260 ntmps260 ?_;exact wx1 trivial trivial (kX3 @b2w.eq_1 @D4 @Hl)
 ·refine sZ func260 ntmps260 ?_;exact wx1 trivial trivial (kX3 @b2w.eq_1 @D4 @Hl)
 ·refine sZ func260 ntmps260 ?_;exact wx1 trivial trivial (kX3 @b2w.eq_1 @D4 @Hl)
 ·refine sZ func260 ntmps260 ?_;exact wx1 trivial trivial (kX3 @b2w.eq_1 @D4 @Hl)
 refine sZ func260 ntmps260 ?_;exact wx1 trivial trivial (kX3 @b2w.eq_1 @D4 @Hl)
theorem lor5:∀p0 p1 p2 p3 p4:Bool,ior .u32 (ior .u32 (ior .u32 (ior .u32 (b2w p0*2^(0:Int).toNat) (b2w p1*2^(1:Int).toNat)) (b2w p2*2^(2:Int).toNat)) (b2w p3*2^(3:Int).toNat)) (b2w p4*2^(4:Int).toNat)=b2w p0+b2w p1*2+b2w p2*4+b2w p3*8+b2w p4*16:=by decide
theorem U6(m:MchD)(hM:OkM m):AC prog 199 [.st m.row] (uv (H9 m)):=by
 have hb:=OV m.tgt m.given hM.gv hM.tg;have ht:=O5 m.tim;have hk:=OW m.keys;have hd:=OY m.dk;have hn:=O3 m.nc;have hE:H9 m=b2w m.tim.fired+b2w (!decide (m.keys=[]))*2+b2w (CQ m.dk)*4+b2w m.nc.received*8+b2w (Bb m.tgt m.given)*16:=rfl;have l0:=Gi m.tim.fired 0 (by omega);have l1:=Gi (!decide (m.keys=[])) 1 (by omega);have l2:=Gi (CQ m.dk) 2 (by omega);have l3:=Gi m.nc.received 3 (by omega);have l4:=Gi (Bb m.tgt m.given) 4 (by omega);have hL:=lor5 m.tim.fired (!decide (m.keys=[])) (CQ m.dk) m.nc.received (Bb m.tgt m.given);rw[<- hE]at hL;generalize b2w m.tim.fired*2^(0:Int).toNat=v0 at *;generalize b2w (!decide (m.keys=[]))*2^(1:Int).toNat=v1 at *;generalize b2w (CQ m.dk)*2^(2:Int).toNat=v2 at *;generalize b2w m.nc.received*2^(3:Int).toNat=v3 at *;generalize b2w (Bb m.tgt m.given)*2^(4:Int).toNat=v4 at *;refine sX func199 ntmps199 ?_;intros;apply wr;refine AG 25 [0,1,3,7,0,16,63,127,255,0,512,1791,3839,8191,0,16384,57087,122623,262143,0,524288,1826559,3923711,8388607,16777215] [(23,([[],[0],[0,1],[0,1,2],[],[4],[0,1,2,3,4,5],[0,1,2,3,4,5,6],[0,1,2,3,4,5,6,7],[],[9],[0,1,2,3,4,5,6,7,9,10],[0,1,2,3,4,5,6,7,9,10,11],[0,1,2,3,4,5,6,7,8,9,10,11,12],[],[14],[0,1,2,3,4,5,6,7,9,10,11,12,14,15],[0,1,2,3,4,5,6,7,9,10,11,12,14,15,16],[0,1,2,3,4,5,6,7,8,9,10,11,12,13,14,15,16,17],[],[19],[0,1,2,3,4,5,6,7,9,10,11,12,14,15,16,17,19,20],[0,1,2,3,4,5,6,7,9,10,11,12,14,15,16,17,19,20,21]],[(5,2),(5,3),(10,2),(10,3),(10,6),(10,7),(15,2),(15,3),(15,6),(15,7),(15,11),(15,12),(20,2),(20,3),(20,6),(20,7),(20,11),(20,12),(20,16),(20,17)])),(1,([],[])),(1,([],[]))] ?_;refine af ?_;refine cXf (ht) ?_;refine cXf (l0) ?_;refine cXf (hk) ?_;refine cXf (l1) ?_;refine cXf (hd) ?_;refine cXf (l2) ?_;refine cXf (hn) ?_;refine cXf (l3) ?_;refine cXf (hb) ?_;refine cXf (l4) ?_;refine ar ?_;simp[hL]
theorem JJ(m:MchD)(hM:OkM m):AC prog 154 [.st m.row] (uv (enD m)):=by
 refine sX func154 ntmps154 ?_;intros;apply wr;refine AG 8 [0,1,0,4,12,28,63,127] [(6,([[],[0],[],[2],[2,3],[2,3,4]],[(4,1),(5,1)])),(1,([],[])),(1,([],[]))] ?_;refine af ?_;refine cXf (U6 m hM) ?_;refine ar ?_;simp[enD]
theorem X7(m:MchD)(hM:OkM m):AC prog 93 [.st m.row] (.bool (Ns m)):=by
 have he:=JJ m hM;have hE:Ns m=(m.waiting&&decide (enD m=0)):=rfl;rw[hE];generalize enD m=e at *;refine sX func93 ntmps93 ?_;intros;apply wr;first|refine BW (he) rfl (fun hgd=>?_) (by simp[BV]) ?_|refine BC (he) rfl (by simp) (fun hgd=>?_) (by simp[BV]) ?_
 all_goals simp
 all_goals (try (first|exact hgd|(simp at hgd;first|done|assumption|grind)))
 refine au ?_;intros;apply wr;refine ar ?_;simp;try rfl
theorem E5{C D E G:Prop}(c:C)(d:D)(e:E)(t:C->D->E->G:=by intro c d e;(refine au1 e ?_;(repeat intro K hK);apply wr);repeat' ((first|(refine AB rfl (fun h=>?_) (fun h=>?_)<;>(first|(simp[e]at h;done)|(simp[e]at h)|skip)<;>(first|(exfalso;omega)|skip))|((first|refine .inl ⟨1,_,d.1,?_⟩|refine⟨1,_,d.1,?_⟩);simp[CZ,C9,noX,Ct,C5,e];first|refine And.intro AP ?_|skip)|((first|refine .inl ⟨1,_,d.2.1,?_⟩|refine⟨1,_,d.2.1,?_⟩);simp[CZ,C9,noX,Ct,C5,e];first|refine And.intro AP ?_|skip)|refine cc1 c.1 e ?_|refine cc1 c.2.1 e ?_|refine cc1 c.2.2.1 e ?_|refine cc1 c.2.2.2.1 e ?_|refine cc1 c.2.2.2.2.1 e ?_|refine cc1 c.2.2.2.2.2.1 e ?_|refine Ad 6 ?_|refine BE fun K hK=>?_|exact rt1 e|fail)<;>(refine au1 e ?_;(repeat intro K hK);apply wr))):G:=t c d e
theorem aW(x y:Int)(h0:0<=x)(h1:x<=31):Bc .u32 x y<=31:=by
 unfold Bc;rw[show IntKind.u32.bits=32 from rfl,BitVec.toNat_and,Du,IntKind.wrap_u32];have h:(x%4294967296).toNat &&& (BitVec.ofInt 32 y).toNat<=(x%4294967296).toNat:=Nat.and_le_left;omega
theorem enD_le(m:MchD)(hM:OkM m):enD m<=31:=by
 have hr:=P1 m;exact aW _ _ hr.1 hr.2
theorem U5(m:MchD)(hM:OkM m):AC prog 155 [.st m.row] (.st (AL m).cpu.row):=by
 have he:=JJ m hM;have i2:=aV (hM.c.csr 0);by_cases hs:m.cpu.csr 0/2%2=0
 ·have hE:(AL m).cpu=m.cpu:=by unfold AL;rw[if_pos hs]
  rw[hE];refine sZ func155 ntmps155 ?_;exact wx1 (qX1 (he)) trivial (kX2 @i2 @hs)
 have hs1:m.cpu.csr 0/2%2=1:=by omega
 by_cases h0:enD m=0
 ·have hE:(AL m).cpu=m.cpu:=by unfold AL;rw[if_neg hs,h0];rfl
  rw[hE];rw[h0]at he;refine sZ func155 ntmps155 ?_;exact wx1 (qX1 (he)) trivial (kX2 @i2 @hs1)
 have hr:=P1 m;have hew:=enD_w m;have hle:enD m<=31:=enD_le m hM;have hne:=h0;have j0:=TR hew;have jj:∀k:Int,0<=k->Bc .u32 ((enD m).fdiv k) 1=(enD m)/k%2:=fun k hk=>by
  rw[eS _ hk];exact AW (enD m/k) 1 2 (by omega) (by decide)
 have j1:=jj 2 (by decide);have j2:=jj 4 (by decide);have j3:=jj 8 (by decide);have j4:=jj 16 (by decide);have z:∀x:Int,¬x%2=1->x%2=0:=fun x hx=>by omega
 by_cases h0:enD m%2=1
 ·have hE:(AL m).cpu=BN m.cpu (16+0) 0:=by unfold AL Rp;rw[if_neg (by omega)];simp[h0]
  rw[hE];refine sX func155 ntmps155 ?_;exact E5 (qX2 (he) (CL m.cpu (16+0) 0 hM.c)) trivial (Yh @i2 @hs1 @hne @j0 @j1 @j2 @j3 @j4 @D4 @Hl @HJ @h0)
 have z0:=z _ h0;by_cases h1:enD m/2%2=1
 ·have hE:(AL m).cpu=BN m.cpu (16+1) 0:=by unfold AL Rp;rw[if_neg (by omega)];simp[z0,h1]
  rw[hE];refine sX func155 ntmps155 ?_;exact E5 (qX2 (he) (CL m.cpu (16+1) 0 hM.c)) trivial (kX13 @i2 @hs1 @hne @j0 @j1 @j2 @j3 @j4 @D4 @Hl @HJ @z0 @h1)
 have z1:=z _ h1;by_cases h2:enD m/4%2=1
 ·have hE:(AL m).cpu=BN m.cpu (16+2) 0:=by unfold AL Rp;rw[if_neg (by omega)];simp[z0,z1,h2]
  rw[hE];refine sX func155 ntmps155 ?_;exact E5 (qX2 (he) (CL m.cpu (16+2) 0 hM.c)) trivial (kX14 @i2 @hs1 @hne @j0 @j1 @j2 @j3 @j4 @D4 @Hl @HJ @z0 @z1 @h2)
 have z2:=z _ h2;by_cases h3:enD m/8%2=1
 ·have hE:(AL m).cpu=BN m.cpu (16+3) 0:=by unfold AL Rp;rw[if_neg (by omega)];simp[z0,z1,z2,h3]
  rw[hE];refine sX func155 ntmps155 ?_;exact E5 (qX2 (he) (CL m.cpu (16+3) 0 hM.c)) trivial (kX15 @i2 @hs1 @hne @j0 @j1 @j2 @j3 @j4 @D4 @Hl @HJ @z0 @z1 @z2 @h3)
 have z3:=z _ h3;by_cases h4:enD m/16%2=1
 ·have hE:(AL m).cpu=BN m.cpu (16+4) 0:=by unfold AL Rp;rw[if_neg (by omega)];simp[z0,z1,z2,z3,h4]
  rw[hE];refine sX func155 ntmps155 ?_;exact E5 (qX2 (he) (CL m.cpu (16+4) 0 hM.c)) trivial (kX16 @i2 @hs1 @hne @j0 @j1 @j2 @j3 @j4 @D4 @Hl @HJ @z0 @z1 @z2 @z3 @h4)
 omega
theorem I0{C D E G:Prop}(c:C)(d:D)(e:E)(t:C->D->E->G:=by intro c d e;(refine af1 e ?_;intros;apply wr);repeat' ((first|(refine AB rfl (fun h=>?_) (fun h=>?_)<;>(first|(simp[e]at h;done)|(simp[e]at h)|skip)<;>(first|(exfalso;omega)|skip))|((first|refine .inl ⟨1,_,d.1,?_⟩|refine⟨1,_,d.1,?_⟩);simp[CZ,C9,noX,Ct,C5,e];first|refine And.intro AP ?_|skip)|((first|refine .inl ⟨1,_,d.2.1,?_⟩|refine⟨1,_,d.2.1,?_⟩);simp[CZ,C9,noX,Ct,C5,e];first|refine And.intro AP ?_|skip)|refine cc1 c.1 e ?_|refine cc1 c.2.1 e ?_|refine cc1 c.2.2.1 e ?_|refine cc1 c.2.2.2.1 e ?_|refine cc1 c.2.2.2.2.1 e ?_|refine cc1 c.2.2.2.2.2.1 e ?_|(refine AG (rid:=4) 10 [0,1,3,7,0,16,48,112,15,511] [(9,([[],[0],[0,1],[0,1,2],[],[4],[4,5],[4,5,6],[0,1,2,3]],[(5,8),(7,8)])),(1,([],[]))] ?_)|(refine AG (rid:=6) 7 [0,0,2,6,14,1,63] [(6,([[],[],[1],[1,2],[1,2,3],[0]],[(2,5),(3,5),(4,5)])),(1,([],[]))] ?_)|exact rt1 e|fail)<;>(refine af1 e ?_;intros;apply wr))):G:=t c d e
theorem UU(s:Str)(p:Int)(hl:s.length<=1000):AC prog 208 [.st [.str s],iv p] (.tup [.st [.str (Ec s p).1],uv (Ec s p).2]):=by
 by_cases h0:p=0
 ·subst h0;cases s with
  | nil =>
   refine sX func208 ntmps208 ?_;have k:bC []=4294967295:=rfl;exact I0 trivial trivial (kX2 @Ec.eq_1 @k)
  | cons b r =>
   have w:=VH b;have k:bC (b::r)=b.toNat:=rfl;have hr:((r.length:Int)+1).toNat=r.length+1:=by omega
   have hz:¬(r.length:Int)+1=0:=by omega
   refine sZ func208 ntmps208 ?_;exact I0 trivial trivial (kX5 @w @hr @hz @Ec.eq_1 @k)
 by_cases h1:p=1
 ·subst h1;have w:IntKind.u32.wrap (s.length:Int)=s.length:=u32_in (by omega) (by omega);refine sZ func208 ntmps208 ?_;exact I0 trivial trivial (kX2 @w @Ec.eq_1)
 refine sZ func208 ntmps208 ?_;exact I0 trivial trivial (kX3 @h0 @h1 @Ec.eq_1)
theorem X5(t:TimD):AC prog 150 [.st t.row] (.tup [.st (FC t).1.row,.bool (FC t).2]):=by
 obtain⟨a,d,f⟩:=t;cases a
 ·refine sZ func150 ntmps150 ?_;exact wx1 trivial trivial @FC.eq_1
 refine sZ func150 ntmps150 ?_;exact wx1 trivial trivial @FC.eq_1
theorem LV(d:DskD)(t:Int):AC prog 280 [.st d.row,lv t] (.tup [.st (BK d t).1.row,.bool (BK d t).2]):=by
 refine sZ func280 ntmps280 ?_;exact wx1 trivial trivial @BK.eq_1
theorem DN(l:List Int)(f:Int)(h:W32 f):AC prog 197 [DJ l,uv f] (.bool (decide (f<pagesD l))):=by
 have e1:IntKind.u64.wrap f=f:=u64_in h.1 (by have:=h.2;omega);have e2:IntKind.u64.wrap (pagesD l)=pagesD l:=u64_in (Aa l).1 (by have:=Aa l;omega);refine sZ func197 ntmps197 ?_;exact wx1 (qX1 (Dw l)) trivial (kX2 @e1 @e2)
theorem Sz{l:List Int}(hl:OkW l)(f:Int)(s:Str):∀n,OkW (If l f s n)
 | 0=>hl
 | n+1=>QO (Sz hl f s n) _ _ ⟨by omega,by have:=(s.getD n 0).toNat_lt;omega⟩
theorem Pz{nx:Nat}{ob:List (Nat×Option Ob)}(j:Nat)(l:List Int)(f:Int)(s:Str)(hl:OkW l)(h0:0<=f)(h1:f<pagesD l)(hs:s.length<=128)(hj:lookO ob j=some (EF l)):
  Bt prog 198 [.own j,iv f,.str s] nx ob fun r nx' ob'=>r=.tup []/\nx'=nx/\lookO ob' j=some (EF (If l f s s.length))/\∀i,i≠j->lookO ob' i=lookO ob i:=by
 have hp:=Aa l;have hpl:=C0 (l:=l) (by omega);have w1:IntKind.i64.wrap (f*128)=f*128:=AA (by omega) (by omega);refine sIY func198 ntmps198 @hj ?_;intros;apply wr;refine Ad (s.length+1) ?_;refine BH (fun k st=>∃(i:Nat)(T:List (Nat×V))(o:List (Nat×Option Ob)),i+k=s.length/\st=⟨28,T,nx,o,nx⟩/\(lkT T 6=.int .i64 i/\lkT T 0=.own j/\lkT T 1=iv f/\lkT T 2=.str s)/\lookO o j=some (EF (If l f s i))/\∀q,q≠j->lookO o q=lookO ob q) ?_ _ _ ⟨0,_,_,by simp,rfl,by simp[lkT],hj,fun q hq=>rfl⟩;rintro k st ⟨i,T,o,hk,rfl,⟨t6,t0,t1,t2⟩,ho,hq⟩ Kl hKl;refine Bp [(6,.int .i64 i),(0,.own j),(1,iv f),(2,.str s)] (by simp[t6,t0,t1,t2]) ?_;simp;have hl2:=MV l f s i;refine au ?_;intros;apply wr;by_cases hi:i<s.length
 ·have c1:(i:Int)<s.length:=by omega
  have c2:(i:Int)<128:=by omega
  obtain⟨x,hg⟩:∃x,s[i]? =some x:=⟨_,eR hi⟩;have hgd:s.getD i 0=x:=by rw[eP,hg];rfl
  have hb:=x.toNat_lt;have w2:IntKind.i64.wrap (f*128+i)=f*128+i:=AA (by omega) (by omega);have w3:IntKind.u32.wrap (f*128+i)=f*128+i:=u32_in (by omega) (by omega);have w4:IntKind.u32.wrap (x.toNat:Int)=x.toNat:=u32_in (by omega) (by omega);have w5:IntKind.i64.wrap ((i:Int)+1)=((i+1:Nat):Int):=by rw[AA (by omega) (by omega)];omega
  refine DT (kX2 @hi @c2) (kX5 @hg @w1 @w2 @w3 @w4) ?_;intros;apply wr;refine cO ?_;refine(QF j (If l f s i) (f*128+i) x.toNat ⟨by omega,by omega⟩ (Sz hl f s i) ho (by rw[hl2];omega)).mono fun r nx' ob' hp=>?_;simp only[BS];obtain⟨rfl,rfl,rfl⟩:=hp;simp;refine au1 @w5 ?_;intros;apply wr;refine hKl (k-1) _ (by omega) ⟨i+1,_,_,by omega,rfl,by simp[lkT],by simp[lookO,If,hg],fun q h=>by simp[lookO,h,hq q h]⟩
 have:i=s.length:=by omega
 subst this;refine EE @ho ?_;intros;apply wr;exact hq
theorem MW{l:List Int}(hl:OkW l){f:Int}(h0:0<=f)(h1:f<pagesD l)(s:Str)(hs:s.length<=128):If l f s s.length=Bq l f (s++(Bm l f).drop s.length):=by
 have hpl:=C0 (l:=l) (by omega);rw[PO hl h0 h1 (by omega) s s.length (by omega) hs,List.take_length];rfl
theorem RI{nx:Nat}{ob:List (Nat×Option Ob)}(j:Nat)(n:NicD)(l:List Int)(s:Str)(hf:W32 n.buffer)(hl:OkW l)(hs:s.length<=100000)(hj:lookO ob j=some (EF l))(hjn:j<nx):
  Bt prog 153 [.st n.row,.own j,.str s] nx ob fun r nx' ob'=>r=.tup [.st (Ah n l s).1.row,.bool (Ah n l s).2.2]/\CY nx ob j (Ah n l s).2.1 nx' ob':=by
 have l1:¬j=nx:=by omega
 have l2:¬j=nx+1:=by omega
 have hg:=DN l n.buffer hf;have hp:=Aa l;by_cases hc:n.posted=true/\1<=s.length/\s.length<=128/\n.buffer<pagesD l
 ·obtain⟨c1,c2,c3,c4⟩:=hc;have hE:Ah n l s=({n with posted:=false,buffer:=0,received:=true,got:=s.length},Bq l n.buffer (s++(Bm l n.buffer).drop s.length),true):=by unfold Ah;rw[if_pos ⟨c1,c2,c3,c4⟩]
  have c5:¬pagesD l<=n.buffer:=by omega
  have g1:¬(s.length:Int)<1:=by omega
  have g2:¬(128:Int)<s.length:=by omega
  have w1:IntKind.i64.wrap n.buffer=n.buffer:=AA (by have:=hf.1;omega) (by have:=hf.2;omega);have w2:IntKind.u32.wrap (s.length:Int)=s.length:=u32_in (by omega) (by omega);have hF:=MW hl hf.1 c4 s c3;rw[hE];refine sIY func153 ntmps153 (kX6 @hj @l1 @l2 @c1 @g1 @g2) ?_;refine cn1 (hg) (kX3 @hj @l1 @l2) ?_;refine au ?_;refine EL @c5 (kX4 @hj @l1 @l2 @w1) ?_;intros;apply wr;refine cO ?_;refine(Pz j l n.buffer s hl hf.1 c4 c3 (by simp[lookO,l1,l2,hj])).mono fun r nx' ob' hp=>?_;simp only[BS];obtain⟨rfl,rfl,k1,k2⟩:=hp;have y1:=k2 nx (fun q=>l1 q.symm);have y2:=k2 (nx+1) (fun q=>l2 q.symm);simp[lookO]at y1 y2;simp;refine au1 (kX3 @y1 @y2 @w2) ?_;intros;apply wr;refine ar ?_;simp;refine⟨by omega,by simp[lookO,l1,l2,k1,hF],fun i h1 h2=>?_⟩;have a1:¬i=nx:=by omega
  have a2:¬i=nx+1:=by omega
  have ee:=k2 i h2;simp[lookO,a1,a2]at ee;simp[lookO,a1,a2,ee]
 have hE:Ah n l s=(n,l,false):=by unfold Ah;rw[if_neg hc]
 rw[hE];cases q1:n.posted with
 | false =>
  refine sIY func153 ntmps153 (kX4 @hj @l1 @l2 @q1) ?_;refine II @q1 ?_;intros;apply wr;refine ar ?_;simp[q1];refine⟨by omega,by simp[lookO,l1,l2,hj],fun i h1 h2=>?_⟩;have a1:¬i=nx:=by omega
  have a2:¬i=nx+1:=by omega
  simp[lookO,a1,a2]
 | true =>
  by_cases q2:(s.length:Int)<1
  ·refine sIY func153 ntmps153 (kX5 @hj @l1 @l2 @q1 @q2) ?_;refine II @q1 ?_;intros;apply wr;refine ar ?_;simp[q1];refine⟨by omega,by simp[lookO,l1,l2,hj],fun i h1 h2=>?_⟩;have a1:¬i=nx:=by omega
   have a2:¬i=nx+1:=by omega
   simp[lookO,a1,a2]
  by_cases q3:(128:Int)<s.length
  ·refine sIY func153 ntmps153 (kX6 @hj @l1 @l2 @q1 @q2 @q3) ?_;refine II @q1 ?_;intros;apply wr;refine ar ?_;simp[q1];refine⟨by omega,by simp[lookO,l1,l2,hj],fun i h1 h2=>?_⟩;have a1:¬i=nx:=by omega
   have a2:¬i=nx+1:=by omega
   simp[lookO,a1,a2]
  have q4:pagesD l<=n.buffer:=by
   by_cases z:n.buffer<pagesD l
   ·exact absurd ⟨q1,by omega,by omega,z⟩ hc
   omega
  have q5:¬n.buffer<pagesD l:=by omega
  refine sIY func153 ntmps153 (kX6 @hj @l1 @l2 @q1 @q2 @q3) ?_;refine cn1 (hg) (kX3 @hj @l1 @l2) ?_;refine au ?_;refine DT (kX2 @q4 @q5) @q1 ?_;intros;apply wr;refine ar ?_;simp[q1];refine⟨by omega,by simp[lookO,l1,l2,hj],fun i h1 h2=>?_⟩;have a1:¬i=nx:=by omega
  have a2:¬i=nx+1:=by omega
  simp[lookO,a1,a2]
end Go.Proofs.YtjkmhmepljamoaaGreat
end
