/- A part of the proof of ReplicaFollows. -/
import Derived.Test.YthjpcmecgjfilaaGreatB15
import Derived.Test.YthjpcmecgjfilaaGreatB16
import Derived.Test.YthjpcmecgjfilaaGreatB17
set_option linter.unusedSimpArgs false
set_option linter.unusedVariables false
set_option maxHeartbeats 16000000
set_option maxRecDepth 100000
section
namespace Go.Proofs.YthjpcmecgjfilaaGreat
open Go.Ab Go.RowKit Tryz
theorem zT5 (a b:Int) (ha:W32 a) (hb:W32 b):zAD prog 307 [iv 1,uv a,uv b] (.tup [uv (uw (a+b)),.bool true]):=by
 obtain ⟨e0,e1,e2,e3,e4,e5⟩:=alF a b;refine sZ func307 ntmps307 ?_;exact wx trivial trivial
theorem zQ6 (a b:Int) (ha:W32 a) (hb:W32 b):zAD prog 307 [iv 16,uv a,uv b] (.tup [uv (uw (a+b)),.bool true]):=by
 obtain ⟨e0,e1,e2,e3,e4,e5⟩:=alF a b;refine sZ func307 ntmps307 ?_;exact wx trivial trivial
theorem zT6 (a b:Int) (ha:W32 a) (hb:W32 b):zAD prog 307 [iv 2,uv a,uv b] (.tup [uv (uw (a-b)),.bool true]):=by
 obtain ⟨e0,e1,e2,e3,e4,e5⟩:=alF a b;refine sZ func307 ntmps307 ?_;exact wx trivial trivial
theorem zT7 (a b:Int) (ha:W32 a) (hb:W32 b):zAD prog 307 [iv 3,uv a,uv b] (.tup [uv (iand .u32 a b),.bool true]):=by
 obtain ⟨e0,e1,e2,e3,e4,e5⟩:=alF a b;refine sZ func307 ntmps307 ?_;exact wx trivial trivial
theorem zQ7 (a b:Int) (ha:W32 a) (hb:W32 b):zAD prog 307 [iv 17,uv a,uv b] (.tup [uv (iand .u32 a b),.bool true]):=by
 obtain ⟨e0,e1,e2,e3,e4,e5⟩:=alF a b;refine sZ func307 ntmps307 ?_;exact wx trivial trivial
theorem zT8 (a b:Int) (ha:W32 a) (hb:W32 b):zAD prog 307 [iv 4,uv a,uv b] (.tup [uv (ior .u32 a b),.bool true]):=by
 obtain ⟨e0,e1,e2,e3,e4,e5⟩:=alF a b;refine sZ func307 ntmps307 ?_;exact wx trivial trivial
theorem zQ8 (a b:Int) (ha:W32 a) (hb:W32 b):zAD prog 307 [iv 18,uv a,uv b] (.tup [uv (ior .u32 a b),.bool true]):=by
 obtain ⟨e0,e1,e2,e3,e4,e5⟩:=alF a b;refine sZ func307 ntmps307 ?_;exact wx trivial trivial
theorem zT9 (a b:Int) (ha:W32 a) (hb:W32 b):zAD prog 307 [iv 5,uv a,uv b] (.tup [uv (ixor .u32 a b),.bool true]):=by
 obtain ⟨e0,e1,e2,e3,e4,e5⟩:=alF a b;refine sZ func307 ntmps307 ?_;exact wx trivial trivial
theorem zQ9 (a b:Int) (ha:W32 a) (hb:W32 b):zAD prog 307 [iv 19,uv a,uv b] (.tup [uv (ixor .u32 a b),.bool true]):=by
 obtain ⟨e0,e1,e2,e3,e4,e5⟩:=alF a b;refine sZ func307 ntmps307 ?_;exact wx trivial trivial
theorem zUA (a b:Int) (ha:W32 a) (hb:W32 b):zAD prog 307 [iv 6,uv a,uv b] (.tup [uv (uw (a*2 ^ (b % 32).toNat)),.bool true]):=by
 obtain ⟨e0,e1,e2,e3,e4,e5⟩:=alF a b;refine sZ func307 ntmps307 ?_;exact wx trivial trivial
theorem alu_ok (op a b:Int) (ha:W32 a) (hb:W32 b) (h:(1<=op/\op<=13)\/(16<=op/\op<=23)):zAD prog 307 [iv op,uv a,uv b] (.tup [uv ((aluD op a b).getD 0),.bool true]):=by
 have hk:op=1\/op=16\/op=2\/op=3\/op=17\/op=4\/op=18\/op=5\/op=19\/op=6\/op=20\/op=7\/op=21\/op=8\/op=22\/op=9\/op=10\/op=11\/op=12\/op=23\/op=13:=by omega
 rcases hk with rfl|rfl|rfl|rfl|rfl|rfl|rfl|rfl|rfl|rfl|rfl|rfl|rfl|rfl|rfl|rfl|rfl|rfl|rfl|rfl|rfl
 ·exact zT5 a b ha hb
 ·exact zQ6 a b ha hb
 ·exact zT6 a b ha hb
 ·exact zT7 a b ha hb
 ·exact zQ7 a b ha hb
 ·exact zT8 a b ha hb
 ·exact zQ8 a b ha hb
 ·exact zT9 a b ha hb
 ·exact zQ9 a b ha hb
 ·exact zUA a b ha hb
 ·exact zRA a b ha hb
 ·exact zUB a b ha hb
 ·exact zRB a b ha hb
 ·exact zUC a b ha hb
 ·exact zRC a b ha hb
 ·exact zUD a b ha hb
 ·exact zQ2 a b ha hb
 ·exact zQ3 a b ha hb
 ·exact zQ4 a b ha hb
 ·exact zRD a b ha hb
 exact zQ5 a b ha hb
theorem zAh {C D E G:Prop} (c:C) (d:D) (e:E) (t:C->D->E->G:=by intro c d e;(refine af1 e ?_;intros;apply wr);repeat' ((first|(refine zAC rfl (fun h=>?_) (fun h=>?_)<;>(first|(simp [e] at h;done)|(simp [e] at h)|skip)<;>(first|(exfalso;omega)|skip))|((first|refine .inl ⟨1,_,d.1,?_⟩|refine ⟨1,_,d.1,?_⟩);simp [aftC,aftE,noX,noXc,noX1,e];first|refine And.intro zAO ?_|skip)|((first|refine .inl ⟨1,_,d.2.1,?_⟩|refine ⟨1,_,d.2.1,?_⟩);simp [aftC,aftE,noX,noXc,noX1,e];first|refine And.intro zAO ?_|skip)|refine cc1 c.1 e ?_|refine cc1 c.2.1 e ?_|refine cc1 c.2.2.1 e ?_|refine cc1 c.2.2.2.1 e ?_|refine cc1 c.2.2.2.2.1 e ?_|refine cc1 c.2.2.2.2.2.1 e ?_|(refine zAG (rid:=1) 12 [0,1,0,7,15,0,32,0,224,480,31,2047] [(11,([[],[0],[],[0,1,2],[0,1,2,3],[],[5],[],[5,6,7],[5,6,7,8],[0,1,2,3,4]],[])),(1,([],[]))] ?_)|(refine zAG (rid:=28) 5 [0,1,0,3,15] [(4,([[],[0],[],[0,1]],[(2,1),(2,3)])),(1,([],[]))] ?_)|(refine zAG (rid:=30) 5 [0,1,0,3,15] [(4,([[],[0],[],[0,1]],[(2,1),(2,3)])),(1,([],[]))] ?_)|(refine zAG (rid:=32) 10 [0,0,2,0,8,0,56,120,255,511] [(8,([[],[],[1],[],[3],[],[3,4,5],[3,4,5,6]],[])),(1,([],[])),(1,([],[]))] ?_)|(refine zAG (rid:=46) 4 [0,0,1,7] [(3,([[],[],[0]],[(1,2)])),(1,([],[]))] ?_)|exact rt1 e|fail)<;>(refine af1 e ?_;intros;apply wr))):G:=t c d e
theorem zKm (c:CpuD) (k v:Int):(zBG c k v).pc=c.pc:=by unfold zBG CpuD.setS;(repeat' split)<;>rfl
theorem zGq {k:Int} (h0:0<=k) {b:Int} (h1:k<=b) (hb:b<=1000:=by decide):IntKind.i64.wrap k=k:=zAA (by omega) (by omega)
abbrev ExOk (c:CpuD) (i:InstD):Prop:=zAD prog 240 [.st c.row,.st i.row] (.tup [.st (zAF c i).1.row,.st (zAF c i).2.row])
theorem zUd (c:CpuD) (i:InstD) (hc:OkC c) (hi:OkI i) (hop:i.op=24):ExOk c i:=by
 obtain ⟨a0,a1,b0,b1,c0,c1⟩:=hi;have g:=zAU c b0 b1;have ga:=zAU c a0 a1;have hE:zAF c i=((c.setR i.a (uw (uw i.imm*65536))).setP (uw (c.pc+4)),zEff):=by unfold zAF;simp [hop]
 unfold ExOk;rw [hE];refine sZ func240 ntmps240 ?_;exact zAh (qX1 (zFx c i.a (uw (uw i.imm*65536)) a0 a1)) trivial (kX6 @g @ga @hop @zA4 @CpuD.setP.eq_1 @zEff.eq_1)
theorem zUe (c:CpuD) (i:InstD) (hc:OkC c) (hi:OkI i) (hop:i.op=48):ExOk c i:=by
 obtain ⟨a0,a1,b0,b1,c0,c1⟩:=hi;have g:=zAU c b0 b1;have ga:=zAU c a0 a1;have hE:zAF c i=((c.setR i.a (uw (c.pc+4))).setP (uw (c.pc+uw (4*uw i.imm))),zEff):=by unfold zAF;simp [hop]
 unfold ExOk;rw [hE];refine sZ func240 ntmps240 ?_;exact zAh (qX1 (zFx c i.a (uw (c.pc+4)) a0 a1)) trivial (kX6 @g @ga @hop @zA4 @CpuD.setP.eq_1 @zEff.eq_1)
theorem zUf (c:CpuD) (i:InstD) (hc:OkC c) (hi:OkI i) (hop:i.op=49):ExOk c i:=by
 obtain ⟨a0,a1,b0,b1,c0,c1⟩:=hi;have g:=zAU c b0 b1;have ga:=zAU c a0 a1;have hE:zAF c i=((c.setR i.a (uw (c.pc+4))).setP (uw (c.x i.b.toNat+uw i.imm)),zEff):=by unfold zAF;simp [hop]
 unfold ExOk;rw [hE];refine sZ func240 ntmps240 ?_;exact zAh (qX1 (zFx c i.a (uw (c.pc+4)) a0 a1)) trivial (kX6 @g @ga @hop @zA4 @CpuD.setP.eq_1 @zEff.eq_1)
theorem zUg (c:CpuD) (i:InstD) (hc:OkC c) (hi:OkI i) (hop:i.op=56):ExOk c i:=by
 obtain ⟨a0,a1,b0,b1,c0,c1⟩:=hi;have g:=zAU c b0 b1;have ga:=zAU c a0 a1;have hE:zAF c i=(zBE c 7 0,zEff):=by unfold zAF;simp [hop]
 unfold ExOk;rw [hE];refine sZ func240 ntmps240 ?_;exact zAh (qX1 (zCu c 7 0 hc)) trivial (kX6 @g @ga @hop @zA4 @CpuD.setP.eq_1 @zEff.eq_1)
theorem zUh (c:CpuD) (i:InstD) (hc:OkC c) (hi:OkI i) (hop:i.op=57):ExOk c i:=by
 obtain ⟨a0,a1,b0,b1,c0,c1⟩:=hi;have g:=zAU c b0 b1;have ga:=zAU c a0 a1;have hE:zAF c i=(retD c,zEff):=by unfold zAF;simp [hop]
 unfold ExOk;rw [hE];refine sZ func240 ntmps240 ?_;exact zAh (qX1 (zQA c hc)) trivial (kX6 @g @ga @hop @zA4 @CpuD.setP.eq_1 @zEff.eq_1)
theorem zUi (c:CpuD) (i:InstD) (hc:OkC c) (hi:OkI i) (hop:i.op=58)(k0:0<=i.imm) (k1:i.imm<=7):ExOk c i:=by
 obtain ⟨a0,a1,b0,b1,c0,c1⟩:=hi;have g:=zAU c b0 b1;have ga:=zAU c a0 a1;have hE:zAF c i=((c.setR i.a (c.csr i.imm.toNat)).setP (uw (c.pc+4)),zEff):=by unfold zAF;simp [hop]
 unfold ExOk;rw [hE];refine sZ func240 ntmps240 ?_;exact zAh (qX1 (zFx c i.a (c.csr i.imm.toNat) a0 a1)) trivial (kX7 @g @ga @hop @zA4 @CpuD.setP.eq_1 @zEff.eq_1 (zUN c k0 k1))
theorem zUj (c:CpuD) (i:InstD) (hc:OkC c) (hi:OkI i) (hop:i.op=59)(k0:0<=i.imm) (k1:i.imm<=7):ExOk c i:=by
 obtain ⟨a0,a1,b0,b1,c0,c1⟩:=hi;have g:=zAU c b0 b1;have ga:=zAU c a0 a1;have hE:zAF c i=((zBG c i.imm (c.x i.a.toNat)).setP (uw (c.pc+4)),zEff):=by unfold zAF;simp [hop]
 unfold ExOk;rw [hE];refine sZ func240 ntmps240 ?_;exact zAh (qX1 (zS9 c i.imm (c.x i.a.toNat) k0 k1)) trivial (kX8 @g @ga @hop @zA4 @CpuD.setP.eq_1 @zEff.eq_1 @zKm (zGq k0 k1))
theorem zUk (c:CpuD) (i:InstD) (hc:OkC c) (hi:OkI i) (hop:i.op=60)(k0:0<=i.imm) (k1:i.imm<=11):ExOk c i:=by
 obtain ⟨a0,a1,b0,b1,c0,c1⟩:=hi;have g:=zAU c b0 b1;have ga:=zAU c a0 a1;have hE:zAF c i=(c.setP (uw (c.pc+4)),⟨1,i.imm,i.a,0⟩):=by unfold zAF;simp [hop]
 unfold ExOk;rw [hE];refine sZ func240 ntmps240 ?_;exact zAh trivial trivial (kX7 @g @ga @hop @zA4 @CpuD.setP.eq_1 @zEff.eq_1 (zGq k0 k1))
theorem zUl (c:CpuD) (i:InstD) (hc:OkC c) (hi:OkI i) (hop:i.op=61)(k0:0<=i.imm) (k1:i.imm<=11):ExOk c i:=by
 obtain ⟨a0,a1,b0,b1,c0,c1⟩:=hi;have g:=zAU c b0 b1;have ga:=zAU c a0 a1;have hE:zAF c i=(c.setP (uw (c.pc+4)),⟨2,i.imm,0,c.x i.a.toNat⟩):=by unfold zAF;simp [hop]
 unfold ExOk;rw [hE];refine sZ func240 ntmps240 ?_;exact zAh trivial trivial (kX7 @g @ga @hop @zA4 @CpuD.setP.eq_1 @zEff.eq_1 (zGq k0 k1))
theorem zUm (c:CpuD) (i:InstD) (hc:OkC c) (hi:OkI i) (hop:i.op=62):ExOk c i:=by
 obtain ⟨a0,a1,b0,b1,c0,c1⟩:=hi;have g:=zAU c b0 b1;have ga:=zAU c a0 a1;have hE:zAF c i=(c.setP (uw (c.pc+4)),⟨3,0,0,0⟩):=by unfold zAF;simp [hop]
 unfold ExOk;rw [hE];refine sZ func240 ntmps240 ?_;exact zAh trivial trivial (kX6 @g @ga @hop @zA4 @CpuD.setP.eq_1 @zEff.eq_1)
theorem zUn (c:CpuD) (i:InstD) (hc:OkC c) (hi:OkI i) (hop:i.op=63):ExOk c i:=by
 obtain ⟨a0,a1,b0,b1,c0,c1⟩:=hi;have g:=zAU c b0 b1;have ga:=zAU c a0 a1;have hE:zAF c i=(c.setP (uw (c.pc+4)),⟨5,0,0,0⟩):=by unfold zAF;simp [hop]
 unfold ExOk;rw [hE];refine sZ func240 ntmps240 ?_;exact zAh trivial trivial (kX6 @g @ga @hop @zA4 @CpuD.setP.eq_1 @zEff.eq_1)
theorem zUo (c:CpuD) (i:InstD) (hc:OkC c) (hi:OkI i) (hop:i.op=64):ExOk c i:=by
 obtain ⟨a0,a1,b0,b1,c0,c1⟩:=hi;have g:=zAU c b0 b1;have ga:=zAU c a0 a1;have hE:zAF c i=(c.setP (uw (c.pc+4)),⟨4,0,0,0⟩):=by unfold zAF;simp [hop]
 unfold ExOk;rw [hE];refine sZ func240 ntmps240 ?_;exact zAh trivial trivial (kX6 @g @ga @hop @zA4 @CpuD.setP.eq_1 @zEff.eq_1)
theorem exB_ok (c:CpuD) (i:InstD) (hc:OkC c) (hi:OkI i) (hh:i.op=40\/i.op=41\/i.op=42\/i.op=43\/i.op=44\/i.op=45):ExOk c i:=by
 obtain ⟨a0,a1,b0,b1,c0,c1⟩:=hi;have g:=zAU c b0 b1;have ga:=zAU c a0 a1;have hE:zAF c i=(c.setP (if zE7 i.op (c.x i.a.toNat) (c.x i.b.toNat)=true then uw (c.pc+uw (4*uw i.imm)) else uw (c.pc+4)),zEff):=by unfold zAF;rw [if_neg (by omega),if_pos (by omega)]
 have ht:=zSy i.op (c.x i.a.toNat) (c.x i.b.toNat);unfold ExOk;rw [hE];generalize zE7 i.op (c.x i.a.toNat) (c.x i.b.toNat)=t at *
 cases t
 ·rcases hh with hop|hop|hop|hop|hop|hop
  all_goals rw [hop] at ht
  ·refine sZ func240 ntmps240 ?_;exact zAh (qX1 (ht)) trivial (kX5 @g @ga @hop @CpuD.setP.eq_1 @zEff.eq_1)
  ·refine sZ func240 ntmps240 ?_;exact zAh (qX1 (ht)) trivial (kX5 @g @ga @hop @CpuD.setP.eq_1 @zEff.eq_1)
  ·refine sZ func240 ntmps240 ?_;exact zAh (qX1 (ht)) trivial (kX5 @g @ga @hop @CpuD.setP.eq_1 @zEff.eq_1)
  ·refine sZ func240 ntmps240 ?_;exact zAh (qX1 (ht)) trivial (kX5 @g @ga @hop @CpuD.setP.eq_1 @zEff.eq_1)
  ·refine sZ func240 ntmps240 ?_;exact zAh (qX1 (ht)) trivial (kX5 @g @ga @hop @CpuD.setP.eq_1 @zEff.eq_1)
  refine sZ func240 ntmps240 ?_;exact zAh (qX1 (ht)) trivial (kX5 @g @ga @hop @CpuD.setP.eq_1 @zEff.eq_1)
 rcases hh with hop|hop|hop|hop|hop|hop
 all_goals rw [hop] at ht
 ·refine sZ func240 ntmps240 ?_;exact zAh (qX1 (ht)) trivial (kX5 @g @ga @hop @CpuD.setP.eq_1 @zEff.eq_1)
 ·refine sZ func240 ntmps240 ?_;exact zAh (qX1 (ht)) trivial (kX5 @g @ga @hop @CpuD.setP.eq_1 @zEff.eq_1)
 ·refine sZ func240 ntmps240 ?_;exact zAh (qX1 (ht)) trivial (kX5 @g @ga @hop @CpuD.setP.eq_1 @zEff.eq_1)
 ·refine sZ func240 ntmps240 ?_;exact zAh (qX1 (ht)) trivial (kX5 @g @ga @hop @CpuD.setP.eq_1 @zEff.eq_1)
 ·refine sZ func240 ntmps240 ?_;exact zAh (qX1 (ht)) trivial (kX5 @g @ga @hop @CpuD.setP.eq_1 @zEff.eq_1)
 refine sZ func240 ntmps240 ?_;exact zAh (qX1 (ht)) trivial (kX5 @g @ga @hop @CpuD.setP.eq_1 @zEff.eq_1)
theorem exA_ok (c:CpuD) (i:InstD) (hc:OkC c) (hi:OkI i) (h:(1<=i.op/\i.op<=13)\/(16<=i.op/\i.op<=23)):ExOk c i:=by
 obtain ⟨a0,a1,b0,b1,c0,c1⟩:=hi;have g:=zAU c b0 b1;have ga:=zAU c a0 a1;have gc:=zAU c c0 c1;obtain ⟨o,ho⟩:∃ o,o=(if 16<=i.op then uw i.imm else c.x i.c.toNat):=⟨_,rfl⟩
 have how:W32 o:=by rw [ho];split;exact uw_w _;exact hc.x _
 have hE:zAF c i=((c.setR i.a ((aluD i.op (c.x i.b.toNat) o).getD 0)).setP (uw (c.pc+4)),zEff):=by
  unfold zAF;rw [ho]
  repeat rw [if_neg (by omega)]
 have hA:=alu_ok i.op (c.x i.b.toNat) o (hc.x _) how h;have d1:¬ i.op=24:=by omega
 have d2:¬ i.op=48:=by omega
 have d3:¬ i.op=49:=by omega
 have n0:∀ k:Int,40<=k->¬ i.op=k:=fun k hk=>by omega
 unfold ExOk;rw [hE];by_cases h16:16<=i.op
 ·rw [if_pos h16] at ho;subst ho;refine sZ func240 ntmps240 ?_;exact zAh (qX2 (hA) (zFx c i.a _ a0 a1)) trivial (kX9 @g @ga @gc @d1 @n0 @h16 @zA4 @CpuD.setP.eq_1 @zEff.eq_1)
 rw [if_neg h16] at ho;subst ho;refine sZ func240 ntmps240 ?_;exact zAh (qX2 (hA) (zFx c i.a _ a0 a1)) trivial (kX9 @g @ga @gc @d1 @n0 @h16 @zA4 @CpuD.setP.eq_1 @zEff.eq_1)
theorem zCY {C D E G:Prop} (c:C) (d:D) (e:E) (t:C->D->E->G:=by intro c d e;(refine af1 e ?_;intros;apply wr);repeat' ((first|(refine zAC rfl (fun h=>?_) (fun h=>?_)<;>(first|(simp [e] at h;done)|(simp [e] at h)|skip)<;>(first|(exfalso;omega)|skip))|((first|refine .inl ⟨1,_,d.1,?_⟩|refine ⟨1,_,d.1,?_⟩);simp [aftC,aftE,noX,noXc,noX1,e];first|refine And.intro zAO ?_|skip)|((first|refine .inl ⟨1,_,d.2.1,?_⟩|refine ⟨1,_,d.2.1,?_⟩);simp [aftC,aftE,noX,noXc,noX1,e];first|refine And.intro zAO ?_|skip)|refine cc1 c.1 e ?_|refine cc1 c.2.1 e ?_|refine cc1 c.2.2.1 e ?_|refine cc1 c.2.2.2.1 e ?_|refine cc1 c.2.2.2.2.1 e ?_|refine cc1 c.2.2.2.2.2.1 e ?_|(refine zAG 6 [0,0,0,1,11,31] [(5,([[],[],[],[0],[0,1,3]],[(2,3)])),(1,([],[]))] ?_)|exact rt1 e|fail)<;>(refine af1 e ?_;intros;apply wr))):G:=t c d e
theorem zEU (op:Int):zAD prog 236 [iv op] (.bool (zLU op)):=by
 refine sZ func236 ntmps236 ?_;exact wx1 trivial trivial @zLU.eq_1
theorem zSB {op:Int} (h:zAH op≠0):((1<=op/\op<=13)\/(16<=op/\op<=23))\/op=24\/(32<=op/\op<=36)\/(op=40\/op=41\/op=42\/op=43\/op=44\/op=45)\/op=48\/op=49\/op=56\/op=57\/op=58\/op=59\/op=60\/op=61\/op=62\/op=63\/op=64:=by
 apply Classical.byContradiction;intro hn;apply h;unfold zAH
 repeat rw [if_neg (by omega)]
theorem zOD {i:InstD} (h:validD i=true):zAH i.op≠0:=by
 unfold validD at h;simp only [zWJ,decide_eq_true_eq] at h;exact h.1.1.1.1.1
theorem zBD {i:InstD} (h:validD i=true):OkI i:=by
 obtain ⟨_,⟨a0,a1⟩,⟨b0,b1⟩,⟨c0,c1⟩,_⟩:=zEW h;exact ⟨a0,a1,b0,b1,c0,c1⟩
theorem zKi {i:InstD} (h:validD i=true):lowD (zAH i.op)<=i.imm/\i.imm<=zAe (zAH i.op):=by
 unfold validD at h;simp only [zWJ,decide_eq_true_eq] at h;exact ⟨h.1.2,h.2⟩
theorem zH2 (c:CpuD) (i:InstD) (hc:OkC c) (hv:validD i=true) (hn:¬ (32<=i.op/\i.op<=36)):ExOk c i:=by
 have hi:=zBD hv;have hm:=zKi hv;rcases zSB (zOD hv) with h|h|h|h|h|h|h|h|h|h|h|h|h|h|h
 ·exact exA_ok c i hc hi h
 ·exact zUd c i hc hi h
 ·exact absurd h hn
 ·exact exB_ok c i hc hi h
 ·exact zUe c i hc hi h
 ·exact zUf c i hc hi h
 ·exact zUg c i hc hi h
 ·exact zUh c i hc hi h
 ·rw [h] at hm;exact zUi c i hc hi h (by have:=hm.1;simp [lowD,zAH] at this;omega) (by have:=hm.2;simp [zAe,zAH] at this;omega)
 ·rw [h] at hm;exact zUj c i hc hi h (by have:=hm.1;simp [lowD,zAH] at this;omega) (by have:=hm.2;simp [zAe,zAH] at this;omega)
 ·rw [h] at hm;exact zUk c i hc hi h (by have:=hm.1;simp [lowD,zAH] at this;omega) (by have:=hm.2;simp [zAe,zAH] at this;omega)
 ·rw [h] at hm;exact zUl c i hc hi h (by have:=hm.1;simp [lowD,zAH] at this;omega) (by have:=hm.2;simp [zAe,zAH] at this;omega)
 ·exact zUm c i hc hi h
 ·exact zUn c i hc hi h
 exact zUo c i hc hi h
theorem zO1 (c:CpuD) (l:List Int) (hc:OkC c) (hl:OkW l) (hb:l.length<=100000) :
  zAD prog 180 [.st c.row,memV l] (.tup [.st (zAl c l).1.row,memV (zAl c l).2.1,.st (zAl c l).2.2.row]):=by
 have hf:=zRf c l hc hl hb;have hm:=zCG (c:=c) (va:=c.pc) (s:=4) (acc:=1) hl;have hn:=zBN c l c.pc 4 1;have hX:zAl c l=(if (zAE c l c.pc 4 1).2.2≠0 then (zBE c (zAE c l c.pc 4 1).2.2 c.pc,(zAE c l c.pc 4 1).2.1,zEff) else zBk c (zAE c l c.pc 4 1).2.1 (wAt (zAE c l c.pc 4 1).2.1 ((zAE c l c.pc 4 1).1 / 4))):=rfl
 unfold zJu at hf;rw [hX];clear hX;generalize zAE c l c.pc 4 1=R at *
 obtain ⟨a,m,k⟩:=R;simp only at hf hm hn ⊢;rw [<- hn] at hb;by_cases hk:k=0
 ·subst hk;simp only [if_true] at hf;rw [if_neg (by simp)]
  generalize wAt m (a / 4)=w at *
  have hd:=decode_ok w;unfold decV at hd;obtain ⟨i,hi⟩:∃ i,i=decI w:=⟨_,rfl⟩;rw [<- hi] at hd;cases hv:validD i with
  | false =>
   have hE:zBk c m w=(zBE c 1 w,m,zEff):=by unfold zBk;rw [<- hi,if_pos hv]
   rw [hv] at hd;rw [hE];simp only [zWa,if_false] at hd;refine sZ func180 ntmps180 ?_;exact zCY (qX3 (hf) (hd) (zCu c 1 w hc)) trivial @zEff.eq_1
  | true =>
   rw [hv] at hd;simp only [if_true] at hd;cases hp:zLU i.op with
   | true =>
    by_cases hs:c.csr 0 % 2=0
    ·have hE:zBk c m w=(zBE c 2 w,m,zEff):=by unfold zBk;rw [<- hi,if_neg (by simp [hv]),if_pos ⟨hp,hs⟩]
     rw [hE];refine sZ func180 ntmps180 ?_;exact zCY (qX5 (hf) (hd) (zEU i.op) (kernel_ok c hc) (zCu c 2 w hc)) trivial (kX3 @hp @hs @zEff.eq_1)
    by_cases hl3:32<=i.op/\i.op<=34
    ·have hE:zBk c m w=((zA6 c m i).1,(zA6 c m i).2,zEff):=by
      unfold zBk;rw [<- hi,if_neg (by simp [hv]),if_neg (by simp [hp,hs]),if_pos hl3]
     have hL:=zMP c m i hc hm hb (zBD hv);rw [hE];generalize zA6 c m i=Z at *
     refine sZ func180 ntmps180 ?_;exact zCY (qX5 (hf) (hd) (zEU i.op) (kernel_ok c hc) (hL)) trivial (kX3 @hp @hs @zEff.eq_1)
    by_cases hs3:35<=i.op/\i.op<=36
    ·have hE:zBk c m w=((zAP c m i).1,(zAP c m i).2,zEff):=by
      unfold zBk;rw [<- hi,if_neg (by simp [hv]),if_neg (by simp [hp,hs]),if_neg hl3,if_pos hs3]
     have hL:=zKY c m i hc hm hb (zBD hv);rw [hE];generalize zAP c m i=Z at *
     refine sZ func180 ntmps180 ?_;exact zCY (qX5 (hf) (hd) (zEU i.op) (kernel_ok c hc) (hL)) trivial (kX3 @hp @hs @zEff.eq_1)
    have hE:zBk c m w=((zAF c i).1,m,(zAF c i).2):=by
     unfold zBk;rw [<- hi,if_neg (by simp [hv]),if_neg (by simp [hp,hs]),if_neg hl3,if_neg hs3]
    have hL:=zH2 c i hc hv (by omega)
    unfold ExOk at hL;rw [hE];generalize zAF c i=Z at *
    refine sZ func180 ntmps180 ?_;exact zCY (qX5 (hf) (hd) (zEU i.op) (kernel_ok c hc) (hL)) trivial (kX3 @hp @hs @zEff.eq_1)
   | false =>
    by_cases hl3:32<=i.op/\i.op<=34
    ·have hE:zBk c m w=((zA6 c m i).1,(zA6 c m i).2,zEff):=by
      unfold zBk;rw [<- hi,if_neg (by simp [hv]),if_neg (by simp [hp,hp]),if_pos hl3]
     have hL:=zMP c m i hc hm hb (zBD hv);rw [hE];generalize zA6 c m i=Z at *
     refine sZ func180 ntmps180 ?_;exact zCY (qX5 (hf) (hd) (zEU i.op) (kernel_ok c hc) (hL)) trivial (kX3 @hp @hp @zEff.eq_1)
    by_cases hs3:35<=i.op/\i.op<=36
    ·have hE:zBk c m w=((zAP c m i).1,(zAP c m i).2,zEff):=by
      unfold zBk;rw [<- hi,if_neg (by simp [hv]),if_neg (by simp [hp,hp]),if_neg hl3,if_pos hs3]
     have hL:=zKY c m i hc hm hb (zBD hv);rw [hE];generalize zAP c m i=Z at *
     refine sZ func180 ntmps180 ?_;exact zCY (qX5 (hf) (hd) (zEU i.op) (kernel_ok c hc) (hL)) trivial (kX3 @hp @hp @zEff.eq_1)
    have hE:zBk c m w=((zAF c i).1,m,(zAF c i).2):=by
     unfold zBk;rw [<- hi,if_neg (by simp [hv]),if_neg (by simp [hp,hp]),if_neg hl3,if_neg hs3]
    have hL:=zH2 c i hc hv (by omega)
    unfold ExOk at hL;rw [hE];generalize zAF c i=Z at *
    refine sZ func180 ntmps180 ?_;exact zCY (qX5 (hf) (hd) (zEU i.op) (kernel_ok c hc) (hL)) trivial (kX3 @hp @hp @zEff.eq_1)
 rw [if_pos hk];refine sZ func180 ntmps180 ?_;exact zCY (qX2 (hf) (zCu c k c.pc hc)) trivial (kX2 @hk @zEff.eq_1)
end Go.Proofs.YthjpcmecgjfilaaGreat
end
