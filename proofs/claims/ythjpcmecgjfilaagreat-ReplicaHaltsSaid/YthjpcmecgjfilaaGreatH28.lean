/- A part of the proof of ReplicaHalts. -/
import Derived.Test.YthjpcmecgjfilaaGreatH23
import Derived.Test.YthjpcmecgjfilaaGreatH27
set_option linter.unusedSimpArgs false
set_option linter.unusedVariables false
set_option maxHeartbeats 16000000
set_option maxRecDepth 100000
section
namespace Go.Proofs.YthjpcmecgjfilaaGreat
open Go.Ab Go.RowKit Tryz
theorem zLS (t:TimD):zAD prog 267 [.st t.row] (.bool t.fired):=by
 refine sZ func267 ntmps267 ?_;exact wx trivial trivial
theorem zLN (s:Str):zAD prog 268 [.st [.str s]] (.bool (!decide (s=[]))):=by
 have e:decide (0<(s.length:Int))=!decide (s=[]):=by cases s<;>simp<;>omega
 refine sZ func268 ntmps268 ?_;exact wx1 trivial trivial @e
theorem zLP (d:DskD):zAD prog 269 [.st d.row] (.bool (zBi d)):=by
 refine sZ func269 ntmps269 ?_;exact wx1 trivial trivial @zBi.eq_1
theorem zLR (n:NicD):zAD prog 270 [.st n.row] (.bool n.received):=by
 refine sZ func270 ntmps270 ?_;exact wx trivial trivial
theorem zVD (v:Int):zAD prog 224 [uv v] (.st (armD v).row):=by
 refine sZ func224 ntmps224 ?_;exact wx1 trivial trivial @armD.eq_1
def zDa (g:Int) (n:Nat):Int:=(List.range n).foldl (fun n i=>n+g / 2 ^ i % 2) 0
@[simp] theorem countU_0 (g:Int):zDa g 0=0:=rfl
theorem zLp (g:Int) (n:Nat):zDa g (n+1)=zDa g n+g / 2 ^ n % 2:=by simp [zDa,List.range_succ,List.foldl_append]
theorem zLo (g:Int):∀ n:Nat,0<=zDa g n/\zDa g n<=n
 | 0=>by simp [zDa]
 | n+1=>by have:=zLo g n;rw [zLp];omega
theorem zPv (t g:Int) (hg:W32 g):zAD prog 284 [.st [uv t,uv g]] (iv (countB g)):=by
 refine sX func284 ntmps284 ?_;intros;apply wr;obtain ⟨I,hI⟩:∃ I:Nat->St->Prop,I=(fun kk ss=>∃ (i:Nat) ,i<=32/\kk=32-i/\(True)/\ss=⟨19,[(4,.int .i64 i),(3,.int .i64 (zDa g i)),(1,.ptr 0 2 0 0)],1,[(0,some ⟨40,2,true,false,[[uv t,uv g]]⟩)],0⟩):=⟨_,rfl⟩
 refine lX I (id) (by rw [hI];exact ⟨0,by simp,rfl,trivial,rfl⟩) ?_
 intro kk ss hIk _
 rw [hI] at hIk;obtain ⟨i,hi,rfl,hx,rfl⟩:=hIk;refine au ?_;intros;apply wr;refine zAC rfl (fun h=>?_) (fun h=>?_)
 ·simp at h;have e1:min i 32=i:=by omega
  have e2:g.fdiv (2 ^ i)=g / 2 ^ i:=zWC _ (Int.le_of_lt (Int.pow_pos (by decide)))
  have e3:iand .u32 (g / 2 ^ i) 1=g / 2 ^ i % 2:=zBJ (g / 2 ^ i) 1 2 (by omega) (by decide)
  have e4:IntKind.i64.wrap (g / 2 ^ i % 2)=g / 2 ^ i % 2:=zAA (by omega) (by omega)
  have e5:=zLo g i;have e6:IntKind.i64.wrap (zDa g i+g / 2 ^ i % 2)=zDa g (i+1):=by rw [zLp];exact zAA (by omega) (by omega)
  have e7:IntKind.u64.wrap (i:Int)=i:=u64_in (by omega) (by omega)
  refine au1 (kX6 @e1 @e2 @e3 @e4 @e6 @e7) ?_;intros;apply wr;exact aX (fun x=>x) (by rw [hI];exact ⟨i+1,by omega,rfl,trivial,rfl⟩) (kX2 (zAA (n:=(i:Int)+1) (by omega) (by omega)) @e6)
 simp at h;have hi:i=32:=by omega
 subst hi;refine au ?_;intros;apply wr;refine zAB ?_;simp [countB,zDa]
theorem zLM (t g:Int) (hw:W32 g) (ht:W32 t):zAD prog 271 [.st [uv t,uv g]] (.bool (zA8 t g)):=by
 have hb:=zDx hw;have e:IntKind.u64.wrap (countB g)=countB g:=u64_in (by omega) (by omega)
 have e2:IntKind.u64.wrap t=t:=u64_in ht.1 (by have:=ht.2;omega)
 refine sZ func271 ntmps271 ?_
 (refine af1 (kX3 @e @e2 @zA8.eq_1) ?_;intros;apply wr)
 repeat' ((first|(refine zAC rfl (fun h=>?_) (fun h=>?_)<;>(first|(simp [e,e2,zA8] at h;done)|(simp [e,e2,zA8] at h)|skip)<;>(first|(exfalso;omega)|skip))|refine cc1 (zPv t g hw) (kX3 @e @e2 @zA8.eq_1) ?_|(refine zAE 8 [0,1,3,0,8,24,63,127] [(6,([[],[0],[0,1],[],[3],[3,4]],[(4,1),(5,1)])),(1,([],[])),(1,([],[]))] ?_)|exact rt1 (kX3 @e @e2 @zA8.eq_1)|fail)<;>(refine af1 (kX3 @e @e2 @zA8.eq_1) ?_;intros;apply wr))
theorem zEr (b:Bool) (k:Int) (hk:0<=k/\k<=4):zAD prog 266 [.bool b,iv k] (uv (b2w b*2 ^ k.toNat)):=by
 have hk5:k=0\/k=1\/k=2\/k=3\/k=4:=by omega
 rcases hk5 with rfl|rfl|rfl|rfl|rfl
 ·refine sZ func266 ntmps266 ?_;exact wx1 trivial trivial (kX3 @b2w.eq_1 @u32c @u64c)
 ·refine sZ func266 ntmps266 ?_;exact wx1 trivial trivial (kX3 @b2w.eq_1 @u32c @u64c)
 ·refine sZ func266 ntmps266 ?_;exact wx1 trivial trivial (kX3 @b2w.eq_1 @u32c @u64c)
 ·refine sZ func266 ntmps266 ?_;exact wx1 trivial trivial (kX3 @b2w.eq_1 @u32c @u64c)
 refine sZ func266 ntmps266 ?_;exact wx1 trivial trivial (kX3 @b2w.eq_1 @u32c @u64c)
theorem lor5:∀ p0 p1 p2 p3 p4:Bool,ior .u32 (ior .u32 (ior .u32 (ior .u32 (b2w p0*2 ^ (0:Int).toNat) (b2w p1*2 ^ (1:Int).toNat)) (b2w p2*2 ^ (2:Int).toNat)) (b2w p3*2 ^ (3:Int).toNat)) (b2w p4*2 ^ (4:Int).toNat)=b2w p0+b2w p1*2+b2w p2*4+b2w p3*8+b2w p4*16:=by decide
theorem zPy (m:MchD) (hM:OkM m):zAD prog 210 [.st m.row] (uv (zFg m)):=by
 have hb:=zLM m.tgt m.given hM.gv hM.tg;have ht:=zLS m.tim;have hk:=zLN m.keys;have hd:=zLP m.dk;have hn:=zLR m.nc;have hE:zFg m=b2w m.tim.fired+b2w (!decide (m.keys=[]))*2+b2w (zBi m.dk)*4+b2w m.nc.received*8+b2w (zA8 m.tgt m.given)*16:=rfl;have l0:=zEr m.tim.fired 0 (by omega)
 have l1:=zEr (!decide (m.keys=[])) 1 (by omega)
 have l2:=zEr (zBi m.dk) 2 (by omega)
 have l3:=zEr m.nc.received 3 (by omega)
 have l4:=zEr (zA8 m.tgt m.given) 4 (by omega)
 have hL:=lor5 m.tim.fired (!decide (m.keys=[])) (zBi m.dk) m.nc.received (zA8 m.tgt m.given);rw [<- hE] at hL;generalize b2w m.tim.fired*2 ^ (0:Int).toNat=v0 at *
 generalize b2w (!decide (m.keys=[]))*2 ^ (1:Int).toNat=v1 at *
 generalize b2w (zBi m.dk)*2 ^ (2:Int).toNat=v2 at *
 generalize b2w m.nc.received*2 ^ (3:Int).toNat=v3 at *
 generalize b2w (zA8 m.tgt m.given)*2 ^ (4:Int).toNat=v4 at *
 refine sX func210 ntmps210 ?_;intros;apply wr;refine zAE 25 [0,1,3,7,0,16,63,127,255,0,512,1791,3839,8191,0,16384,57087,122623,262143,0,524288,1826559,3923711,8388607,16777215] [(23,([[],[0],[0,1],[0,1,2],[],[4],[0,1,2,3,4,5],[0,1,2,3,4,5,6],[0,1,2,3,4,5,6,7],[],[9],[0,1,2,3,4,5,6,7,9,10],[0,1,2,3,4,5,6,7,9,10,11],[0,1,2,3,4,5,6,7,8,9,10,11,12],[],[14],[0,1,2,3,4,5,6,7,9,10,11,12,14,15],[0,1,2,3,4,5,6,7,9,10,11,12,14,15,16],[0,1,2,3,4,5,6,7,8,9,10,11,12,13,14,15,16,17],[],[19],[0,1,2,3,4,5,6,7,9,10,11,12,14,15,16,17,19,20],[0,1,2,3,4,5,6,7,9,10,11,12,14,15,16,17,19,20,21]],[(5,2),(5,3),(10,2),(10,3),(10,6),(10,7),(15,2),(15,3),(15,6),(15,7),(15,11),(15,12),(20,2),(20,3),(20,6),(20,7),(20,11),(20,12),(20,16),(20,17)])),(1,([],[])),(1,([],[]))] ?_;refine af ?_;intros;apply wr;refine cXf (ht) ?_;intros;apply wr;refine cXf (l0) ?_;intros;apply wr;refine cXf (hk) ?_;intros;apply wr;refine cXf (l1) ?_;intros;apply wr;refine cXf (hd) ?_;intros;apply wr;refine cXf (l2) ?_;intros;apply wr;refine cXf (hn) ?_;intros;apply wr;refine cXf (l3) ?_;intros;apply wr;refine cXf (hb) ?_;intros;apply wr;refine cXf (l4) ?_;intros;apply wr;refine zAB ?_;simp [hL]
theorem zG5 (m:MchD) (hM:OkM m):zAD prog 165 [.st m.row] (uv (enD m)):=by
 refine sX func165 ntmps165 ?_;intros;apply wr;refine zAE 8 [0,1,0,4,12,28,63,127] [(6,([[],[0],[],[2],[2,3],[2,3,4]],[(4,1),(5,1)])),(1,([],[])),(1,([],[]))] ?_;refine af ?_;intros;apply wr;refine cXf (zPy m hM) ?_;intros;apply wr;refine zAB ?_;simp [enD]
theorem zSQ (m:MchD) (hM:OkM m):zAD prog 121 [.st m.row] (.bool (zIZ m)):=by
 have he:=zG5 m hM;have hE:zIZ m=(m.waiting&&decide (enD m=0)):=rfl;rw [hE];generalize enD m=e at *
 refine sX func121 ntmps121 ?_;intros;apply wr
 first|refine zA9 (he) rfl (fun hgd=>?_) (by simp [obsL]) ?_|refine zAq (he) rfl (by simp) (fun hgd=>?_) (by simp [obsL]) ?_
 all_goals simp
 all_goals (try (first|exact hgd|(simp at hgd;first|done|assumption|grind)))
 refine au ?_;intros;apply wr;refine zAB ?_;simp
 try rfl
theorem zC9 {C D E G:Prop} (c:C) (d:D) (e:E) (t:C->D->E->G:=by intro c d e;(refine au1 e ?_;(repeat intro K hK);apply wr);repeat' ((first|(refine zAC rfl (fun h=>?_) (fun h=>?_)<;>(first|(simp [e] at h;done)|(simp [e] at h)|skip)<;>(first|(exfalso;omega)|skip))|((first|refine .inl ⟨1,_,d.1,?_⟩|refine ⟨1,_,d.1,?_⟩);simp [aftC,aftE,noX,noXc,noX1,e];first|refine And.intro zAM ?_|skip)|((first|refine .inl ⟨1,_,d.2.1,?_⟩|refine ⟨1,_,d.2.1,?_⟩);simp [aftC,aftE,noX,noXc,noX1,e];first|refine And.intro zAM ?_|skip)|refine cc1 c.1 e ?_|refine cc1 c.2.1 e ?_|refine cc1 c.2.2.1 e ?_|refine cc1 c.2.2.2.1 e ?_|refine cc1 c.2.2.2.2.1 e ?_|refine cc1 c.2.2.2.2.2.1 e ?_|refine zAX 6 ?_|refine zAk fun K hK=>?_|exact rt1 e|fail)<;>(refine au1 e ?_;(repeat intro K hK);apply wr))):G:=t c d e
theorem zUj (x y:Int) (h0:0<=x) (h1:x<=31):iand .u32 x y<=31:=by
 unfold iand;rw [show IntKind.u32.bits=32 from rfl,BitVec.toNat_and,zCm,IntKind.wrap_u32]
 have h:(x % 4294967296).toNat &&& (BitVec.ofInt 32 y).toNat<=(x % 4294967296).toNat:=Nat.and_le_left;omega
theorem enD_le (m:MchD) (hM:OkM m):enD m<=31:=by
 have hr:=zL9 m;exact zUj _ _ hr.1 hr.2
theorem zPw (m:MchD) (hM:OkM m):zAD prog 166 [.st m.row] (.st (zAK m).cpu.row):=by
 have he:=zG5 m hM;have i2:=zUi (hM.c.csr 0);by_cases hs:m.cpu.csr 0 / 2 % 2=0
 ·have hE:(zAK m).cpu=m.cpu:=by unfold zAK;rw [if_pos hs]
  rw [hE];refine sZ func166 ntmps166 ?_;exact wx1 (qX1 (he)) trivial (kX2 @i2 @hs)
 have hs1:m.cpu.csr 0 / 2 % 2=1:=by omega
 by_cases h0:enD m=0
 ·have hE:(zAK m).cpu=m.cpu:=by unfold zAK;rw [if_neg hs,h0];rfl
  rw [hE];rw [h0] at he;refine sZ func166 ntmps166 ?_;exact wx1 (qX1 (he)) trivial (kX2 @i2 @hs1)
 have hr:=zL9 m;have hew:=enD_w m;have hle:enD m<=31:=enD_le m hM;have hne:=h0;have j0:=zO9 hew;have jj:∀ k:Int,0<=k->iand .u32 ((enD m).fdiv k) 1=(enD m) / k % 2:=fun k hk=>by
  rw [zWC _ hk];exact zBJ (enD m / k) 1 2 (by omega) (by decide)
 have j1:=jj 2 (by decide)
 have j2:=jj 4 (by decide)
 have j3:=jj 8 (by decide)
 have j4:=jj 16 (by decide)
 have z:∀ x:Int,¬ x % 2=1->x % 2=0:=fun x hx=>by omega
 by_cases h0:enD m % 2=1
 ·have hE:(zAK m).cpu=zBF m.cpu (16+0) 0:=by unfold zAK lowB;rw [if_neg (by omega)];simp [h0]
  rw [hE];refine sX func166 ntmps166 ?_;intros;apply wr;exact zC9 (qX2 (he) (zCQ m.cpu (16+0) 0 hM.c)) trivial (kX12 @i2 @hs1 @hne @j0 @j1 @j2 @j3 @j4 @u32c @u64c @i64c @h0)
 have z0:=z _ h0;by_cases h1:enD m / 2 % 2=1
 ·have hE:(zAK m).cpu=zBF m.cpu (16+1) 0:=by unfold zAK lowB;rw [if_neg (by omega)];simp [z0,h1]
  rw [hE];refine sX func166 ntmps166 ?_;intros;apply wr;exact zC9 (qX2 (he) (zCQ m.cpu (16+1) 0 hM.c)) trivial (kX13 @i2 @hs1 @hne @j0 @j1 @j2 @j3 @j4 @u32c @u64c @i64c @z0 @h1)
 have z1:=z _ h1;by_cases h2:enD m / 4 % 2=1
 ·have hE:(zAK m).cpu=zBF m.cpu (16+2) 0:=by unfold zAK lowB;rw [if_neg (by omega)];simp [z0,z1,h2]
  rw [hE];refine sX func166 ntmps166 ?_;intros;apply wr;exact zC9 (qX2 (he) (zCQ m.cpu (16+2) 0 hM.c)) trivial (kX14 @i2 @hs1 @hne @j0 @j1 @j2 @j3 @j4 @u32c @u64c @i64c @z0 @z1 @h2)
 have z2:=z _ h2;by_cases h3:enD m / 8 % 2=1
 ·have hE:(zAK m).cpu=zBF m.cpu (16+3) 0:=by unfold zAK lowB;rw [if_neg (by omega)];simp [z0,z1,z2,h3]
  rw [hE];refine sX func166 ntmps166 ?_;intros;apply wr;exact zC9 (qX2 (he) (zCQ m.cpu (16+3) 0 hM.c)) trivial (kX15 @i2 @hs1 @hne @j0 @j1 @j2 @j3 @j4 @u32c @u64c @i64c @z0 @z1 @z2 @h3)
 have z3:=z _ h3;by_cases h4:enD m / 16 % 2=1
 ·have hE:(zAK m).cpu=zBF m.cpu (16+4) 0:=by unfold zAK lowB;rw [if_neg (by omega)];simp [z0,z1,z2,z3,h4]
  rw [hE];refine sX func166 ntmps166 ?_;intros;apply wr;exact zC9 (qX2 (he) (zCQ m.cpu (16+4) 0 hM.c)) trivial (kX16 @i2 @hs1 @hne @j0 @j1 @j2 @j3 @j4 @u32c @u64c @i64c @z0 @z1 @z2 @z3 @h4)
 omega
end Go.Proofs.YthjpcmecgjfilaaGreat
end
