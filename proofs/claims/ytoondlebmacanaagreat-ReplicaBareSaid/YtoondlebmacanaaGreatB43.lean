/- A part of the proof of ReplicaBare+ReplicaWindow. -/
import Derived.Test.YtoondlebmacanaaGreatB25
import Derived.Test.YtoondlebmacanaaGreatB41
set_option linter.unusedSimpArgs false
set_option linter.unusedVariables false
set_option maxHeartbeats 16000000
set_option maxRecDepth 100000
section
namespace Go.Proofs.YtoondlebmacanaaGreat
open Go.Ab Go.RowKit
theorem zCd {C D E G:Prop} (c:C) (d:D) (e:E) (t:C→D→E→G:=by intro c d e;(refine af1 e ?_;intros;apply wr);repeat' ((first|(refine zAC rfl (fun h=>?_) (fun h=>?_)<;>(first|(simp [e] at h;done)|(simp [e] at h)|skip)<;>(first|(exfalso;omega)|skip))|((first|refine .inl ⟨1,_,d.1,?_⟩|refine ⟨1,_,d.1,?_⟩);simp [aftC,aftE,noX,noXc,noX1,e];first|refine And.intro zAP ?_|skip)|((first|refine .inl ⟨1,_,d.2.1,?_⟩|refine ⟨1,_,d.2.1,?_⟩);simp [aftC,aftE,noX,noXc,noX1,e];first|refine And.intro zAP ?_|skip)|refine cc1 c.1 e ?_|refine cc1 c.2.1 e ?_|refine cc1 c.2.2.1 e ?_|refine cc1 c.2.2.2.1 e ?_|refine cc1 c.2.2.2.2.1 e ?_|refine cc1 c.2.2.2.2.2.1 e ?_|(refine zAG (rid:=4) 5 [0,1,0,3,15] [(4,([[],[0],[],[0,1]],[(2,1),(2,3)])),(1,([],[]))] ?_)|(refine zAG (rid:=6) 5 [0,1,0,3,15] [(4,([[],[0],[],[0,1]],[(2,1),(2,3)])),(1,([],[]))] ?_)|(refine zAG (rid:=8) 10 [0,0,2,0,8,0,56,120,255,511] [(8,([[],[],[1],[],[3],[],[3,4,5],[3,4,5,6]],[])),(1,([],[])),(1,([],[]))] ?_)|(refine zAG (rid:=10) 11 [0,0,2,6,0,16,0,112,240,511,1023] [(9,([[],[],[1],[1,2],[],[4],[],[4,5,6],[4,5,6,7]],[])),(1,([],[])),(1,([],[]))] ?_)|(refine zAG (rid:=14) 10 [0,1,3,0,8,0,56,120,255,511] [(8,([[],[0],[0,1],[],[3],[],[3,4,5],[3,4,5,6]],[])),(1,([],[])),(1,([],[]))] ?_)|(refine zAG (rid:=22) 4 [0,0,1,7] [(3,([[],[],[0]],[(1,2)])),(1,([],[]))] ?_)|exact rt1 e|fail)<;>(refine af1 e ?_;intros;apply wr))):G:=t c d e
theorem zGU {C D E G:Prop} (c:C) (d:D) (e:E) (t:C→D→E→G:=by intro c d e;(refine af1 e ?_;intros;apply wr);repeat' ((first|(refine zAC rfl (fun h=>?_) (fun h=>?_)<;>(first|(simp [e] at h;done)|(simp [e] at h)|skip)<;>(first|(exfalso;omega)|skip))|((first|refine .inl ⟨1,_,d.1,?_⟩|refine ⟨1,_,d.1,?_⟩);simp [aftC,aftE,noX,noXc,noX1,e];first|refine And.intro zAP ?_|skip)|((first|refine .inl ⟨1,_,d.2.1,?_⟩|refine ⟨1,_,d.2.1,?_⟩);simp [aftC,aftE,noX,noXc,noX1,e];first|refine And.intro zAP ?_|skip)|refine cc1 c.1 e ?_|refine cc1 c.2.1 e ?_|refine cc1 c.2.2.1 e ?_|refine cc1 c.2.2.2.1 e ?_|refine cc1 c.2.2.2.2.1 e ?_|refine cc1 c.2.2.2.2.2.1 e ?_|(refine zAG (rid:=11) 10 [0,1,0,7,15,0,32,96,255,511] [(8,([[],[0],[],[0,1,2],[0,1,2,3],[],[5],[5,6]],[])),(1,([],[])),(1,([],[]))] ?_)|(refine zAG (rid:=3) 13 [0,1,0,4,0,28,60,0,128,0,896,1920,4095] [(12,([[],[0],[],[2],[],[2,3,4],[2,3,4,5],[],[7],[],[7,8,9],[7,8,9,10]],[])),(1,([],[]))] ?_)|exact rt1 e|fail)<;>(refine af1 e ?_;intros;apply wr))):G:=t c d e
abbrev SyOk (c:CpuD) (i:InstD):Prop:=zAD Tryz.prog 192 [.st c.row,.st i.row] (.tup [.st (zAE c i).1.row,.st (zAE c i).2.row])
abbrev JuOk (c:CpuD) (i:InstD):Prop:=zAD Tryz.prog 193 [.st c.row,.st i.row] (.st (zAE c i).1.row)
theorem zVu (c:CpuD) (i:InstD) (hc:OkC c) (hi:OkI i) (hop:i.op=56):SyOk c i:=by
 obtain ⟨a0,a1,b0,b1,c0,c1⟩:=hi;have g:=zAQ c b0 b1;have ga:=zAQ c a0 a1;have hE:zAE c i=(zA4 c 7 0,zEff):=by unfold zAE;simp [hop]
 unfold SyOk;rw [hE];refine sZ Tryz.func192 Tryz.ntmps192 ?_;exact zCd (qX1 (zBf c 7 0 hc)) trivial (kX6 @g @ga @hop @zAm @CpuD.setP.eq_1 @zEff.eq_1)
theorem zVv (c:CpuD) (i:InstD) (hc:OkC c) (hi:OkI i) (hop:i.op=57):SyOk c i:=by
 obtain ⟨a0,a1,b0,b1,c0,c1⟩:=hi;have g:=zAQ c b0 b1;have ga:=zAQ c a0 a1;have hE:zAE c i=(retD c,zEff):=by unfold zAE;simp [hop]
 unfold SyOk;rw [hE];refine sZ Tryz.func192 Tryz.ntmps192 ?_;exact zCd (qX1 (zNv c hc)) trivial (kX6 @g @ga @hop @zAm @CpuD.setP.eq_1 @zEff.eq_1)
theorem zVw (c:CpuD) (i:InstD) (hc:OkC c) (hi:OkI i) (hop:i.op=58)(k0:0≤i.imm) (k1:i.imm≤7):SyOk c i:=by
 obtain ⟨a0,a1,b0,b1,c0,c1⟩:=hi;have g:=zAQ c b0 b1;have ga:=zAQ c a0 a1;have hE:zAE c i=((c.setR i.a (c.csr i.imm.toNat)).setP (uw (c.pc+4)),zEff):=by unfold zAE;simp [hop]
 unfold SyOk;rw [hE];refine sZ Tryz.func192 Tryz.ntmps192 ?_;exact zCd (qX1 (zCI c i.a (c.csr i.imm.toNat) a0 a1)) trivial (kX7 @g @ga @hop @zAm @CpuD.setP.eq_1 @zEff.eq_1 (zOZ c k0 k1))
theorem zVx (c:CpuD) (i:InstD) (hc:OkC c) (hi:OkI i) (hop:i.op=59)(k0:0≤i.imm) (k1:i.imm≤7):SyOk c i:=by
 obtain ⟨a0,a1,b0,b1,c0,c1⟩:=hi;have g:=zAQ c b0 b1;have ga:=zAQ c a0 a1;have hE:zAE c i=((zBW c i.imm (c.x i.a.toNat)).setP (uw (c.pc+4)),zEff):=by unfold zAE;simp [hop]
 unfold SyOk;rw [hE];refine sZ Tryz.func192 Tryz.ntmps192 ?_;exact zCd (qX1 (zQa c i.imm (c.x i.a.toNat) k0 k1)) trivial (kX8 @g @ga @hop @zAm @CpuD.setP.eq_1 @zEff.eq_1 @zKP (zFY k0 k1))
theorem zVy (c:CpuD) (i:InstD) (hc:OkC c) (hi:OkI i) (hop:i.op=60)(k0:0≤i.imm) (k1:i.imm≤11):SyOk c i:=by
 obtain ⟨a0,a1,b0,b1,c0,c1⟩:=hi;have g:=zAQ c b0 b1;have ga:=zAQ c a0 a1;have hE:zAE c i=(c.setP (uw (c.pc+4)),⟨1,i.imm,i.a,0⟩):=by unfold zAE;simp [hop]
 unfold SyOk;rw [hE];refine sZ Tryz.func192 Tryz.ntmps192 ?_;exact zCd trivial trivial (kX7 @g @ga @hop @zAm @CpuD.setP.eq_1 @zEff.eq_1 (zFY k0 k1))
theorem zVz (c:CpuD) (i:InstD) (hc:OkC c) (hi:OkI i) (hop:i.op=61)(k0:0≤i.imm) (k1:i.imm≤11):SyOk c i:=by
 obtain ⟨a0,a1,b0,b1,c0,c1⟩:=hi;have g:=zAQ c b0 b1;have ga:=zAQ c a0 a1;have hE:zAE c i=(c.setP (uw (c.pc+4)),⟨2,i.imm,0,c.x i.a.toNat⟩):=by unfold zAE;simp [hop]
 unfold SyOk;rw [hE];refine sZ Tryz.func192 Tryz.ntmps192 ?_;exact zCd trivial trivial (kX7 @g @ga @hop @zAm @CpuD.setP.eq_1 @zEff.eq_1 (zFY k0 k1))
theorem zV0 (c:CpuD) (i:InstD) (hc:OkC c) (hi:OkI i) (hop:i.op=62):SyOk c i:=by
 obtain ⟨a0,a1,b0,b1,c0,c1⟩:=hi;have g:=zAQ c b0 b1;have ga:=zAQ c a0 a1;have hE:zAE c i=(c.setP (uw (c.pc+4)),⟨3,0,0,0⟩):=by unfold zAE;simp [hop]
 unfold SyOk;rw [hE];refine sZ Tryz.func192 Tryz.ntmps192 ?_;exact zCd trivial trivial (kX6 @g @ga @hop @zAm @CpuD.setP.eq_1 @zEff.eq_1)
theorem zV1 (c:CpuD) (i:InstD) (hc:OkC c) (hi:OkI i) (hop:i.op=63):SyOk c i:=by
 obtain ⟨a0,a1,b0,b1,c0,c1⟩:=hi;have g:=zAQ c b0 b1;have ga:=zAQ c a0 a1;have hE:zAE c i=(c.setP (uw (c.pc+4)),⟨5,0,0,0⟩):=by unfold zAE;simp [hop]
 unfold SyOk;rw [hE];refine sZ Tryz.func192 Tryz.ntmps192 ?_;exact zCd trivial trivial (kX6 @g @ga @hop @zAm @CpuD.setP.eq_1 @zEff.eq_1)
theorem zV2 (c:CpuD) (i:InstD) (hc:OkC c) (hi:OkI i) (hop:i.op=64):SyOk c i:=by
 obtain ⟨a0,a1,b0,b1,c0,c1⟩:=hi;have g:=zAQ c b0 b1;have ga:=zAQ c a0 a1;have hE:zAE c i=(c.setP (uw (c.pc+4)),⟨4,0,0,0⟩):=by unfold zAE;simp [hop]
 unfold SyOk;rw [hE];refine sZ Tryz.func192 Tryz.ntmps192 ?_;exact zCd trivial trivial (kX6 @g @ga @hop @zAm @CpuD.setP.eq_1 @zEff.eq_1)
theorem zVs (c:CpuD) (i:InstD) (hc:OkC c) (hi:OkI i) (hop:i.op=48):JuOk c i:=by
 obtain ⟨a0,a1,b0,b1,c0,c1⟩:=hi;have g:=zAQ c b0 b1;have ga:=zAQ c a0 a1;have hE:zAE c i=((c.setR i.a (uw (c.pc+4))).setP (uw (c.pc+uw (4*uw i.imm))),zEff):=by unfold zAE;simp [hop]
 unfold JuOk;rw [hE];refine sZ Tryz.func193 Tryz.ntmps193 ?_;exact zGU (qX1 (zCI c i.a (uw (c.pc+4)) a0 a1)) trivial (kX6 @g @ga @hop @zAm @CpuD.setP.eq_1 @zEff.eq_1)
theorem zVt (c:CpuD) (i:InstD) (hc:OkC c) (hi:OkI i) (hop:i.op=49):JuOk c i:=by
 obtain ⟨a0,a1,b0,b1,c0,c1⟩:=hi;have g:=zAQ c b0 b1;have ga:=zAQ c a0 a1;have hE:zAE c i=((c.setR i.a (uw (c.pc+4))).setP (uw (c.x i.b.toNat+uw i.imm)),zEff):=by unfold zAE;simp [hop]
 unfold JuOk;rw [hE];refine sZ Tryz.func193 Tryz.ntmps193 ?_;exact zGU (qX1 (zCI c i.a (uw (c.pc+4)) a0 a1)) trivial (kX6 @g @ga @hop @zAm @CpuD.setP.eq_1 @zEff.eq_1)
theorem rxB_ok (c:CpuD) (i:InstD) (hc:OkC c) (hi:OkI i) (hh:i.op=40∨i.op=41∨i.op=42∨i.op=43∨i.op=44∨i.op=45):JuOk c i:=by
 obtain ⟨a0,a1,b0,b1,c0,c1⟩:=hi;have g:=zAQ c b0 b1;have ga:=zAQ c a0 a1;have hE:zAE c i=(c.setP (if zFF i.op (c.x i.a.toNat) (c.x i.b.toNat)=true then uw (c.pc+uw (4*uw i.imm)) else uw (c.pc+4)),zEff):=by unfold zAE;rw [if_neg (by omega),if_pos (by omega)]
 have ht:=zQU i.op (c.x i.a.toNat) (c.x i.b.toNat);have d1:¬ i.op=48:=by omega
 have d2:¬ i.op=49:=by omega
 unfold JuOk;rw [hE];generalize zFF i.op (c.x i.a.toNat) (c.x i.b.toNat)=t at *
 cases t
 ·refine sZ Tryz.func193 Tryz.ntmps193 ?_;exact zGU (qX1 (ht)) trivial (kX6 @g @ga @d1 @d2 @CpuD.setP.eq_1 @zEff.eq_1)
 refine sZ Tryz.func193 Tryz.ntmps193 ?_;exact zGU (qX1 (ht)) trivial (kX6 @g @ga @d1 @d2 @CpuD.setP.eq_1 @zEff.eq_1)
end Go.Proofs.YtoondlebmacanaaGreat
end
