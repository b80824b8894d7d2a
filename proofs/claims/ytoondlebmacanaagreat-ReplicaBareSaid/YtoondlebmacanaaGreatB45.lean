/- A part of the proof of ReplicaBare+ReplicaWindow. -/
import Derived.Test.YtoondlebmacanaaGreatB32
import Derived.Test.YtoondlebmacanaaGreatB44
set_option linter.unusedSimpArgs false
set_option linter.unusedVariables false
set_option maxHeartbeats 16000000
set_option maxRecDepth 100000
section
namespace Go.Proofs.YtoondlebmacanaaGreat
open Go.Ab Go.RowKit
theorem zLE (t:TimD):zAD Tryz.prog 258 [.st t.row] (.bool t.fired):=by
 refine sZ Tryz.func258 Tryz.ntmps258 ?_;exact wx trivial trivial
theorem zK6 (s:Str):zAD Tryz.prog 259 [.st [.str s]] (.bool (!decide (s=[]))):=by
 have e:decide (0<(s.length:Int))=!decide (s=[]):=by cases s<;>simp<;>omega
 refine sZ Tryz.func259 Tryz.ntmps259 ?_;exact wx1 trivial trivial @e
theorem zK7 (d:DskD):zAD Tryz.prog 260 [.st d.row] (.bool (zBj d)):=by
 refine sZ Tryz.func260 Tryz.ntmps260 ?_;exact wx1 trivial trivial @zBj.eq_1
theorem zLB (n:NicD):zAD Tryz.prog 261 [.st n.row] (.bool n.received):=by
 refine sZ Tryz.func261 Tryz.ntmps261 ?_;exact wx trivial trivial
theorem zQV (t:TimD):zAD Tryz.prog 197 [.st t.row] (uv (zN2 t)):=by
 refine sZ Tryz.func197 Tryz.ntmps197 ?_;exact wx1 trivial trivial (kX2 @zN2.eq_1 @b2w.eq_1)
theorem zP6 (d:DskD) (p:Int):zAD Tryz.prog 198 [.st d.row,iv p] (uv (zKd d p)):=by
 refine sZ Tryz.func198 Tryz.ntmps198 ?_;exact wx1 trivial trivial @zKd.eq_1
theorem zQN (n:NicD) (p:Int):zAD Tryz.prog 199 [.st n.row,iv p] (uv (zKv n p)):=by
 refine sZ Tryz.func199 Tryz.ntmps199 ?_;exact wx1 trivial trivial (kX3 @zKv.eq_1 @b2w.eq_1 @u32c)
theorem zVe (v:Int):zAD Tryz.prog 201 [uv v] (.st (armD v).row):=by
 refine sZ Tryz.func201 Tryz.ntmps201 ?_;exact wx1 trivial trivial @armD.eq_1
def zDr (g:Int) (n:Nat):Int:=(List.range n).foldl (fun n i=>n+g / 2 ^ i % 2) 0
@[simp] theorem countU_0 (g:Int):zDr g 0=0:=rfl
theorem zLd (g:Int) (n:Nat):zDr g (n+1)=zDr g n+g / 2 ^ n % 2:=by simp [zDr,List.range_succ,List.foldl_append]
theorem zLc (g:Int):∀ n:Nat,0≤zDr g n∧zDr g n≤n
 | 0=>by simp [zDr]
 | n+1=>by have:=zLc g n;rw [zLd];omega
theorem zJ7 (t g:Int) (hg:W32 g):zAD Tryz.prog 275 [.st [uv t,uv g]] (iv (countB g)):=by
 refine sX Tryz.func275 Tryz.ntmps275 ?_;intros;apply wr;obtain ⟨I,hI⟩:∃ I:Nat→St→Prop,I=(fun kk ss=>∃ (i:Nat) ,i≤32∧kk=32-i∧(True)∧ss=⟨19,[(4,.int .i64 i),(3,.int .i64 (zDr g i)),(1,.ptr 0 2 0 0)],1,[(0,some ⟨40,2,true,false,[[uv t,uv g]]⟩)],0⟩):=⟨_,rfl⟩
 refine lX I (id) (by rw [hI];exact ⟨0,by simp,rfl,trivial,rfl⟩) ?_
 intro kk ss hIk _
 rw [hI] at hIk;obtain ⟨i,hi,rfl,hx,rfl⟩:=hIk;refine au ?_;intros;apply wr;refine zAC rfl (fun h=>?_) (fun h=>?_)
 ·simp at h;have e1:min i 32=i:=by omega
  have e2:g.fdiv (2 ^ i)=g / 2 ^ i:=zWZ _ (zWm (zWo (by decide)))
  have e3:iand .u32 (g / 2 ^ i) 1=g / 2 ^ i % 2:=zAY (g / 2 ^ i) 1 2 (by omega) (by decide)
  have e4:IntKind.i64.wrap (g / 2 ^ i % 2)=g / 2 ^ i % 2:=zAB (by omega) (by omega)
  have e5:=zLc g i;have e6:IntKind.i64.wrap (zDr g i+g / 2 ^ i % 2)=zDr g (i+1):=by rw [zLd];exact zAB (by omega) (by omega)
  have e7:IntKind.u64.wrap (i:Int)=i:=u64_in (by omega) (by omega)
  refine au1 (kX6 @e1 @e2 @e3 @e4 @e6 @e7) ?_;intros;apply wr;exact aX (fun x=>x) (by rw [hI];exact ⟨i+1,by omega,rfl,trivial,rfl⟩) (kX2 (zAB (n:=(i:Int)+1) (by omega) (by omega)) @e6)
 simp at h;have hi:i=32:=by omega
 subst hi;refine au ?_;intros;apply wr;refine zAA ?_;simp [countB,zDr]
theorem zK5 (t g:Int) (hw:W32 g) (ht:W32 t):zAD Tryz.prog 262 [.st [uv t,uv g]] (.bool (zBK t g)):=by
 have hb:=zDS hw;have e:IntKind.u64.wrap (countB g)=countB g:=u64_in (by omega) (by omega)
 have e2:IntKind.u64.wrap t=t:=u64_in ht.1 (by have:=ht.2;omega)
 refine sZ Tryz.func262 Tryz.ntmps262 ?_
 (refine af1 (kX3 @e @e2 @zBK.eq_1) ?_;intros;apply wr)
 repeat' ((first|(refine zAC rfl (fun h=>?_) (fun h=>?_)<;>(first|(simp [e,e2,zBK] at h;done)|(simp [e,e2,zBK] at h)|skip)<;>(first|(exfalso;omega)|skip))|refine cc1 (zJ7 t g hw) (kX3 @e @e2 @zBK.eq_1) ?_|(refine zAG 8 [0,1,3,0,8,24,63,127] [(6,([[],[0],[0,1],[],[3],[3,4]],[(4,1),(5,1)])),(1,([],[])),(1,([],[]))] ?_)|exact rt1 (kX3 @e @e2 @zBK.eq_1)|fail)<;>(refine af1 (kX3 @e @e2 @zBK.eq_1) ?_;intros;apply wr))
theorem zP4 (t g p:Int) (hw:W32 g):zAD Tryz.prog 200 [.st [uv t,uv g],iv p] (uv (zI3 t g p)):=by
 have e:IntKind.u32.wrap (countB g)=countB g:=by have:=zDS hw;exact u32_in (by omega) (by omega)
 refine sZ Tryz.func200 Tryz.ntmps200 ?_;exact wx1 (qX1 (zJ7 t g hw)) trivial (kX2 @e @zI3.eq_1)
theorem zFA (b:Bool) (k:Int) (hk:0≤k∧k≤4):zAD Tryz.prog 257 [.bool b,iv k] (uv (b2w b*2 ^ k.toNat)):=by
 have hk5:k=0∨k=1∨k=2∨k=3∨k=4:=by omega
 rcases hk5 with rfl|rfl|rfl|rfl|rfl
 ·refine sZ Tryz.func257 Tryz.ntmps257 ?_;exact wx1 trivial trivial (kX3 @b2w.eq_1 @u32c @u64c)
 ·refine sZ Tryz.func257 Tryz.ntmps257 ?_;exact wx1 trivial trivial (kX3 @b2w.eq_1 @u32c @u64c)
 ·refine sZ Tryz.func257 Tryz.ntmps257 ?_;exact wx1 trivial trivial (kX3 @b2w.eq_1 @u32c @u64c)
 ·refine sZ Tryz.func257 Tryz.ntmps257 ?_;exact wx1 trivial trivial (kX3 @b2w.eq_1 @u32c @u64c)
 refine sZ Tryz.func257 Tryz.ntmps257 ?_;exact wx1 trivial trivial (kX3 @b2w.eq_1 @u32c @u64c)
theorem lor5:∀ p0 p1 p2 p3 p4:Bool,ior .u32 (ior .u32 (ior .u32 (ior .u32 (b2w p0*2 ^ (0:Int).toNat) (b2w p1*2 ^ (1:Int).toNat)) (b2w p2*2 ^ (2:Int).toNat)) (b2w p3*2 ^ (3:Int).toNat)) (b2w p4*2 ^ (4:Int).toNat)=b2w p0+b2w p1*2+b2w p2*4+b2w p3*8+b2w p4*16:=by decide
theorem zQK (m:MchD) (hM:OkM m):zAD Tryz.prog 187 [.st m.row] (uv (zFt m)):=by
 have hb:=zK5 m.tgt m.given hM.gv hM.tg;have ht:=zLE m.tim;have hk:=zK6 m.keys;have hd:=zK7 m.dk;have hn:=zLB m.nc;have hE:zFt m=b2w m.tim.fired+b2w (!decide (m.keys=[]))*2+b2w (zBj m.dk)*4+b2w m.nc.received*8+b2w (zBK m.tgt m.given)*16:=rfl;have l0:=zFA m.tim.fired 0 (by omega)
 have l1:=zFA (!decide (m.keys=[])) 1 (by omega)
 have l2:=zFA (zBj m.dk) 2 (by omega)
 have l3:=zFA m.nc.received 3 (by omega)
 have l4:=zFA (zBK m.tgt m.given) 4 (by omega)
 have hL:=lor5 m.tim.fired (!decide (m.keys=[])) (zBj m.dk) m.nc.received (zBK m.tgt m.given);rw [← hE] at hL;generalize b2w m.tim.fired*2 ^ (0:Int).toNat=v0 at *
 generalize b2w (!decide (m.keys=[]))*2 ^ (1:Int).toNat=v1 at *
 generalize b2w (zBj m.dk)*2 ^ (2:Int).toNat=v2 at *
 generalize b2w m.nc.received*2 ^ (3:Int).toNat=v3 at *
 generalize b2w (zBK m.tgt m.given)*2 ^ (4:Int).toNat=v4 at *
 refine sX Tryz.func187 Tryz.ntmps187 ?_;intros;apply wr;refine zAG 25 [0,1,3,7,0,16,63,127,255,0,512,1791,3839,8191,0,16384,57087,122623,262143,0,524288,1826559,3923711,8388607,16777215] [(23,([[],[0],[0,1],[0,1,2],[],[4],[0,1,2,3,4,5],[0,1,2,3,4,5,6],[0,1,2,3,4,5,6,7],[],[9],[0,1,2,3,4,5,6,7,9,10],[0,1,2,3,4,5,6,7,9,10,11],[0,1,2,3,4,5,6,7,8,9,10,11,12],[],[14],[0,1,2,3,4,5,6,7,9,10,11,12,14,15],[0,1,2,3,4,5,6,7,9,10,11,12,14,15,16],[0,1,2,3,4,5,6,7,8,9,10,11,12,13,14,15,16,17],[],[19],[0,1,2,3,4,5,6,7,9,10,11,12,14,15,16,17,19,20],[0,1,2,3,4,5,6,7,9,10,11,12,14,15,16,17,19,20,21]],[(5,2),(5,3),(10,2),(10,3),(10,6),(10,7),(15,2),(15,3),(15,6),(15,7),(15,11),(15,12),(20,2),(20,3),(20,6),(20,7),(20,11),(20,12),(20,16),(20,17)])),(1,([],[])),(1,([],[]))] ?_;refine af ?_;intros;apply wr;refine cXf (ht) ?_;intros;apply wr;refine cXf (l0) ?_;intros;apply wr;refine cXf (hk) ?_;intros;apply wr;refine cXf (l1) ?_;intros;apply wr;refine cXf (hd) ?_;intros;apply wr;refine cXf (l2) ?_;intros;apply wr;refine cXf (hn) ?_;intros;apply wr;refine cXf (l3) ?_;intros;apply wr;refine cXf (hb) ?_;intros;apply wr;refine cXf (l4) ?_;intros;apply wr;refine zAA ?_;simp [hL]
theorem zGx (m:MchD) (hM:OkM m):zAD Tryz.prog 139 [.st m.row] (uv (enD m)):=by
 refine sX Tryz.func139 Tryz.ntmps139 ?_;intros;apply wr;refine zAG 8 [0,1,0,4,12,28,63,127] [(6,([[],[0],[],[2],[2,3],[2,3,4]],[(4,1),(5,1)])),(1,([],[])),(1,([],[]))] ?_;refine af ?_;intros;apply wr;refine cXf (zQK m hM) ?_;intros;apply wr;refine zAA ?_;simp [enD]
theorem zS7 (m:MchD) (hM:OkM m):zAD Tryz.prog 84 [.st m.row] (.bool (zKk m)):=by
 have he:=zGx m hM;have hE:zKk m=(m.waiting&&decide (enD m=0)):=rfl;rw [hE];generalize enD m=e at *
 refine sX Tryz.func84 Tryz.ntmps84 ?_;intros;apply wr
 first|refine zBG (he) rfl (fun hgd=>?_) (by simp [obsL]) ?_|refine zAy (he) rfl (by simp) (fun hgd=>?_) (by simp [obsL]) ?_
 all_goals simp
 all_goals (try (first|exact hgd|(simp at hgd;first|done|assumption|grind)))
 refine au ?_;intros;apply wr;refine zAA ?_;simp
 try rfl
theorem zDO {C D E G:Prop} (c:C) (d:D) (e:E) (t:C→D→E→G:=by intro c d e;(refine au1 e ?_;(repeat intro K hK);apply wr);repeat' ((first|(refine zAC rfl (fun h=>?_) (fun h=>?_)<;>(first|(simp [e] at h;done)|(simp [e] at h)|skip)<;>(first|(exfalso;omega)|skip))|((first|refine .inl ⟨1,_,d.1,?_⟩|refine ⟨1,_,d.1,?_⟩);simp [aftC,aftE,noX,noXc,noX1,e];first|refine And.intro zAP ?_|skip)|((first|refine .inl ⟨1,_,d.2.1,?_⟩|refine ⟨1,_,d.2.1,?_⟩);simp [aftC,aftE,noX,noXc,noX1,e];first|refine And.intro zAP ?_|skip)|refine cc1 c.1 e ?_|refine cc1 c.2.1 e ?_|refine cc1 c.2.2.1 e ?_|refine cc1 c.2.2.2.1 e ?_|refine cc1 c.2.2.2.2.1 e ?_|refine cc1 c.2.2.2.2.2.1 e ?_|refine zAL 6 ?_|refine zAH fun K hK=>?_|exact rt1 e|fail)<;>(refine au1 e ?_;(repeat intro K hK);apply wr))):G:=t c d e
theorem zVB (x y:Int) (h0:0≤x) (h1:x≤31):iand .u32 x y≤31:=by
 unfold iand;rw [show IntKind.u32.bits=32 from rfl,BitVec.toNat_and,zCw,IntKind.wrap_u32]
 have h:(x % 4294967296).toNat &&& (BitVec.ofInt 32 y).toNat≤(x % 4294967296).toNat:=Nat.and_le_left;omega
theorem enD_le (m:MchD) (hM:OkM m):enD m≤31:=by
 have hr:=zL3 m;exact zVB _ _ hr.1 hr.2
theorem zQJ (m:MchD) (hM:OkM m):zAD Tryz.prog 140 [.st m.row] (.st (zAO m).cpu.row):=by
 have he:=zGx m hM;have i2:=zVA (hM.c.csr 0);by_cases hs:m.cpu.csr 0 / 2 % 2=0
 ·have hE:(zAO m).cpu=m.cpu:=by unfold zAO;rw [if_pos hs]
  rw [hE];refine sZ Tryz.func140 Tryz.ntmps140 ?_;exact wx1 (qX1 (he)) trivial (kX2 @i2 @hs)
 have hs1:m.cpu.csr 0 / 2 % 2=1:=by omega
 by_cases h0:enD m=0
 ·have hE:(zAO m).cpu=m.cpu:=by unfold zAO;rw [if_neg hs,h0];rfl
  rw [hE];rw [h0] at he;refine sZ Tryz.func140 Tryz.ntmps140 ?_;exact wx1 (qX1 (he)) trivial (kX2 @i2 @hs1)
 have hr:=zL3 m;have hew:=enD_w m;have hle:enD m≤31:=enD_le m hM;have hne:=h0;have j0:=zPD hew;have jj:∀ k:Int,0≤k→iand .u32 ((enD m).fdiv k) 1=(enD m) / k % 2:=fun k hk=>by
  rw [zWZ _ hk];exact zAY (enD m / k) 1 2 (by omega) (by decide)
 have j1:=jj 2 (by decide)
 have j2:=jj 4 (by decide)
 have j3:=jj 8 (by decide)
 have j4:=jj 16 (by decide)
 have z:∀ x:Int,¬ x % 2=1→x % 2=0:=fun x hx=>by omega
 by_cases h0:enD m % 2=1
 ·have hE:(zAO m).cpu=zA4 m.cpu (16+0) 0:=by unfold zAO lowB;rw [if_neg (by omega)];simp [h0]
  rw [hE];refine sX Tryz.func140 Tryz.ntmps140 ?_;intros;apply wr;exact zDO (qX2 (he) (zBf m.cpu (16+0) 0 hM.c)) trivial (kX12 @i2 @hs1 @hne @j0 @j1 @j2 @j3 @j4 @u32c @u64c @i64c @h0)
 have z0:=z _ h0;by_cases h1:enD m / 2 % 2=1
 ·have hE:(zAO m).cpu=zA4 m.cpu (16+1) 0:=by unfold zAO lowB;rw [if_neg (by omega)];simp [z0,h1]
  rw [hE];refine sX Tryz.func140 Tryz.ntmps140 ?_;intros;apply wr;exact zDO (qX2 (he) (zBf m.cpu (16+1) 0 hM.c)) trivial (kX13 @i2 @hs1 @hne @j0 @j1 @j2 @j3 @j4 @u32c @u64c @i64c @z0 @h1)
 have z1:=z _ h1;by_cases h2:enD m / 4 % 2=1
 ·have hE:(zAO m).cpu=zA4 m.cpu (16+2) 0:=by unfold zAO lowB;rw [if_neg (by omega)];simp [z0,z1,h2]
  rw [hE];refine sX Tryz.func140 Tryz.ntmps140 ?_;intros;apply wr;exact zDO (qX2 (he) (zBf m.cpu (16+2) 0 hM.c)) trivial (kX14 @i2 @hs1 @hne @j0 @j1 @j2 @j3 @j4 @u32c @u64c @i64c @z0 @z1 @h2)
 have z2:=z _ h2;by_cases h3:enD m / 8 % 2=1
 ·have hE:(zAO m).cpu=zA4 m.cpu (16+3) 0:=by unfold zAO lowB;rw [if_neg (by omega)];simp [z0,z1,z2,h3]
  rw [hE];refine sX Tryz.func140 Tryz.ntmps140 ?_;intros;apply wr;exact zDO (qX2 (he) (zBf m.cpu (16+3) 0 hM.c)) trivial (kX15 @i2 @hs1 @hne @j0 @j1 @j2 @j3 @j4 @u32c @u64c @i64c @z0 @z1 @z2 @h3)
 have z3:=z _ h3;by_cases h4:enD m / 16 % 2=1
 ·have hE:(zAO m).cpu=zA4 m.cpu (16+4) 0:=by unfold zAO lowB;rw [if_neg (by omega)];simp [z0,z1,z2,z3,h4]
  rw [hE];refine sX Tryz.func140 Tryz.ntmps140 ?_;intros;apply wr;exact zDO (qX2 (he) (zBf m.cpu (16+4) 0 hM.c)) trivial (kX16 @i2 @hs1 @hne @j0 @j1 @j2 @j3 @j4 @u32c @u64c @i64c @z0 @z1 @z2 @z3 @h4)
 omega
theorem zGV {C D E G:Prop} (c:C) (d:D) (e:E) (t:C→D→E→G:=by intro c d e;(refine af1 e ?_;intros;apply wr);repeat' ((first|(refine zAC rfl (fun h=>?_) (fun h=>?_)<;>(first|(simp [e] at h;done)|(simp [e] at h)|skip)<;>(first|(exfalso;omega)|skip))|((first|refine .inl ⟨1,_,d.1,?_⟩|refine ⟨1,_,d.1,?_⟩);simp [aftC,aftE,noX,noXc,noX1,e];first|refine And.intro zAP ?_|skip)|((first|refine .inl ⟨1,_,d.2.1,?_⟩|refine ⟨1,_,d.2.1,?_⟩);simp [aftC,aftE,noX,noXc,noX1,e];first|refine And.intro zAP ?_|skip)|refine cc1 c.1 e ?_|refine cc1 c.2.1 e ?_|refine cc1 c.2.2.1 e ?_|refine cc1 c.2.2.2.1 e ?_|refine cc1 c.2.2.2.2.1 e ?_|refine cc1 c.2.2.2.2.2.1 e ?_|(refine zAG (rid:=4) 10 [0,1,3,7,0,16,48,112,15,511] [(9,([[],[0],[0,1],[0,1,2],[],[4],[4,5],[4,5,6],[0,1,2,3]],[(5,8),(7,8)])),(1,([],[]))] ?_)|(refine zAG (rid:=6) 7 [0,0,2,6,14,1,63] [(6,([[],[],[1],[1,2],[1,2,3],[0]],[(2,5),(3,5),(4,5)])),(1,([],[]))] ?_)|exact rt1 e|fail)<;>(refine af1 e ?_;intros;apply wr))):G:=t c d e
theorem zP5 (s:Str) (p:Int) (hl:s.length≤1000):zAD Tryz.prog 196 [.st [.str s],iv p] (.tup [.st [.str (zDR s p).1],uv (zDR s p).2]):=by
 by_cases h0:p=0
 ·subst h0;cases s with
  | nil =>
   refine sX Tryz.func196 Tryz.ntmps196 ?_;intros;apply wr;have k:keyH []=4294967295:=rfl;exact zGV trivial trivial (kX2 @zDR.eq_1 @k)
  | cons b r =>
   have w:=zQr b;have k:keyH (b::r)=b.toNat:=rfl;have hr:((r.length:Int)+1).toNat=r.length+1:=by omega
   have hz:¬ (r.length:Int)+1=0:=by omega
   refine sZ Tryz.func196 Tryz.ntmps196 ?_;exact zGV trivial trivial (kX5 @w @hr @hz @zDR.eq_1 @k)
 by_cases h1:p=1
 ·subst h1;have w:IntKind.u32.wrap (s.length:Int)=s.length:=u32_in (by omega) (by omega)
  refine sZ Tryz.func196 Tryz.ntmps196 ?_;exact zGV trivial trivial (kX2 @w @zDR.eq_1)
 refine sZ Tryz.func196 Tryz.ntmps196 ?_;exact zGV trivial trivial (kX3 @h0 @h1 @zDR.eq_1)
theorem zS5 (t:TimD):zAD Tryz.prog 135 [.st t.row] (.tup [.st (zDt t).1.row,.bool (zDt t).2]):=by
 obtain ⟨a,d,f⟩:=t;cases a
 ·refine sZ Tryz.func135 Tryz.ntmps135 ?_;exact wx1 trivial trivial @zDt.eq_1
 refine sZ Tryz.func135 Tryz.ntmps135 ?_;exact wx1 trivial trivial @zDt.eq_1
theorem zIk (d:DskD) (t:Int):zAD Tryz.prog 277 [.st d.row,lv t] (.tup [.st (zA3 d t).1.row,.bool (zA3 d t).2]):=by
 refine sZ Tryz.func277 Tryz.ntmps277 ?_;exact wx1 trivial trivial @zA3.eq_1
theorem zCP (l:List Int) (f:Int) (h:W32 f):zAD Tryz.prog 185 [memV l,uv f] (.bool (decide (f<pagesD l))):=by
 have e1:IntKind.u64.wrap f=f:=u64_in h.1 (by have:=h.2;omega)
 have e2:IntKind.u64.wrap (pagesD l)=pagesD l:=u64_in (zAb l).1 (by have:=zAb l;omega)
 refine sZ Tryz.func185 Tryz.ntmps185 ?_;exact wx1 (qX1 (zCz l)) trivial (kX2 @e1 @e2)
theorem zVm (w:Int):zAD Tryz.prog 315 [uv w,iv 4] (.str (zBP w)):=by
 have hs:=zCg (zBP w);have hB:=zCf (zBP w);have hr:=zHz w;rw [hr] at hs hB;refine sX Tryz.func315 Tryz.ntmps315 ?_;(repeat intro K hK);apply wr
 refine zAW 5 5 1 (by decide) rfl ?_
 (refine au1 (kX8 @zF5 @zCp @zBL @u64c @i64c @hs @hB @maxLen.eq_1) ?_;(repeat intro K hK);apply wr)
 repeat' ((first|(refine zAC rfl (fun h=>?_) (fun h=>?_)<;>(first|(simp [zF5,zCp,zBL,u64c,i64c,hs,hB,maxLen] at h;done)|(simp [zF5,zCp,zBL,u64c,i64c,hs,hB,maxLen] at h)|skip)<;>(first|(exfalso;omega)|skip))|refine zAL 5 ?_|refine zAH fun K hK=>?_|exact rt1 (kX8 @zF5 @zCp @zBL @u64c @i64c @hs @hB @maxLen.eq_1)|fail)<;>(refine au1 (kX8 @zF5 @zCp @zBL @u64c @i64c @hs @hB @maxLen.eq_1) ?_;(repeat intro K hK);apply wr))
theorem zTG (s:Str) (b:UInt8) (hl:s.length≤1000):zAD Tryz.prog 136 [.st [.str s],.int .u8 b.toNat] (.tup [.st [.str (zD6 s b).1],.bool (zD6 s b).2]):=by
 by_cases h:16≤s.length
 ·have h':(16:Int)≤s.length:=by omega
  have hE:zD6 s b=(s,false):=if_pos h;rw [hE];refine sZ Tryz.func136 Tryz.ntmps136 ?_;exact wx1 trivial trivial @h'
 have h':¬ (16:Int)≤s.length:=by omega
 have hE:zD6 s b=(s++[b],true):=if_neg h;have hb:zB0 [.int .u8 (b.toNat:Int)]:=by exact ⟨b,rfl⟩
 rw [hE];refine sZ Tryz.func136 Tryz.ntmps136 ?_;exact wx1 trivial trivial (kX4 @h' @maxLen.eq_1 @hb @zDp.eq_1)
theorem zFB (l:List Int) (f:Int) (h0:0≤f) (h1:f<pagesD l):zAD Tryz.prog 276 [memV l,iv f] (.tup [.str (zBS l f),.bool true]):=by
 have hp:=zAb l;have hpl:=zBo (l:=l) (by omega)
 have hl:=zAN .u32 l;have hPl:=zE3 h0 h1;have n1:¬ f<0:=by omega
 have n2:¬ pagesD l≤f:=by omega
 obtain ⟨P,hP⟩:∃ P,P=(l.take (f*32+32).toNat).drop (f*32).toNat:=⟨_,rfl⟩;rw [← hP] at hPl;have hB:zBS l f=P.flatMap zBP:=by rw [hP];rfl
 refine sX Tryz.func276 Tryz.ntmps276 ?_;intros;apply wr
 first|refine zBG (zCz l) rfl (fun hgd=>?_) (by simp [obsL]) ?_|refine zAy (zCz l) rfl (by simp) (fun hgd=>?_) (by simp [obsL]) ?_
 all_goals simp
 all_goals (try (first|exact hgd|(simp at hgd;first|done|assumption|grind)))
 refine au1 (kX2 @n1 @n2) ?_;intros;apply wr;refine gF10 (kX2 @n1 @n2) rfl ?_;intros;apply wr;refine zAW 6 5 1 (by decide) rfl ?_
 obtain ⟨I,hI⟩:∃ I:Nat→St→Prop,I=(fun kk ss=>∃ (i:Nat) (x:Str),i≤32∧kk=32-i∧(x=(P.take i).flatMap zBP∧x.length=4*i)∧ss=⟨32,[(7,.int .i64 i),(6,.own 1),(0,memV l),(1,iv f)],2,[(1,some ⟨5,1,false,false,zAU x⟩)],0⟩):=⟨_,rfl⟩
 refine lX I (id) (by rw [hI];exact ⟨0,[],by simp,rfl,⟨by simp,rfl⟩,rfl⟩) ?_
 intro kk ss hIk _
 rw [hI] at hIk;obtain ⟨i,x,hi,rfl,hx,rfl⟩:=hIk;obtain ⟨hx1,hx2⟩:=hx;refine au ?_;intros;apply wr;refine zAC rfl (fun hh=>?_) (fun hh=>?_)
 ·simp at hh;have hi32:i<P.length:=by omega
  obtain ⟨w,hw⟩:∃ w,P[i]? =some w:=⟨_,zWa hi32⟩;have hlw:l[(f*32+i).toNat]? =some w:=by
   rw [← hw,hP,zW0,zWs,if_pos (by omega)]
   congr 1;omega
  have hget:=zBU (k:=.u32) hlw;have hnx:(P.take (i+1)).flatMap zBP=x++zBP w:=by
   rw [List.take_add_one,hw,List.flatMap_append,← hx1];simp
  have hrow:zAU (x++zBP w)=zAU x++zAU (zBP w):=by rw [zHV]
  have hbl:(zAU x).length=4*i:=by simp [zAU,hx2]
  have w1:IntKind.i64.wrap (f*32)=f*32:=zAB (by omega) (by omega)
  have w2:IntKind.i64.wrap (f*32+i)=f*32+i:=zAB (by omega) (by omega)
  refine au1 (kX3 @hget @w1 @w2) ?_;intros;apply wr;refine cc (zVm w) ?_;have hwl:(zBP w).length=4:=rfl;refine au1 (kX3 @hbl @hwl @maxLen.eq_1) ?_;intros;apply wr;exact aX (fun x=>if x=1 then 3 else x) (by rw [hI];exact ⟨i+1,(x++zBP w),by omega,rfl,⟨hnx.symm,by rw [zWj,hx2];rfl⟩,rfl⟩) (kX2 (zAB (n:=(i:Int)+1) (by omega) (by omega)) @hrow)
 simp at hh;have hi:P.take i=P:=List.take_of_length_le (by omega)
 rw [hi] at hx1;refine au1 (zCf x) ?_;intros;apply wr;refine zAA ?_;simp [hx1,hB,zCg]
end Go.Proofs.YtoondlebmacanaaGreat
end
