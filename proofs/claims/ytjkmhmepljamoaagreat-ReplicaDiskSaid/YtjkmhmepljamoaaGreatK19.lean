/- A part of the proof of ReplicaDisk. -/
import Derived.Test.YtjkmhmepljamoaaGreatK16
import Derived.Test.YtjkmhmepljamoaaGreatK18
set_option linter.all false
set_option maxHeartbeats 16000000
set_option maxRecDepth 100000
section
namespace Go.Proofs.YtjkmhmepljamoaaGreat
open Go.Ab Go.RowKit Tryz
theorem Ar{C D E G:Prop}(c:C)(d:D)(e:E)(t:C->D->E->G:=by intro c d e;(refine af1 e ?_;intros;apply wr);repeat' ((first|(refine AB rfl (fun h=>?_) (fun h=>?_)<;>(first|(simp[e]at h;done)|(simp[e]at h)|skip)<;>(first|(exfalso;omega)|skip))|((first|refine .inl ⟨1,_,d.1,?_⟩|refine⟨1,_,d.1,?_⟩);simp[C0,Cd,noX,Cx,C9,e];first|refine And.intro AQ ?_|skip)|((first|refine .inl ⟨1,_,d.2.1,?_⟩|refine⟨1,_,d.2.1,?_⟩);simp[C0,Cd,noX,Cx,C9,e];first|refine And.intro AQ ?_|skip)|refine cc1 c.1 e ?_|refine cc1 c.2.1 e ?_|refine cc1 c.2.2.1 e ?_|refine cc1 c.2.2.2.1 e ?_|refine cc1 c.2.2.2.2.1 e ?_|refine cc1 c.2.2.2.2.2.1 e ?_|(refine AD (rid:=1) 12 [0,1,0,7,15,0,32,0,224,480,31,2047] [(11,([[],[0],[],[0,1,2],[0,1,2,3],[],[5],[],[5,6,7],[5,6,7,8],[0,1,2,3,4]],[])),(1,([],[]))] ?_)|(refine AD (rid:=28) 5 [0,1,0,3,15] [(4,([[],[0],[],[0,1]],[(2,1),(2,3)])),(1,([],[]))] ?_)|(refine AD (rid:=30) 5 [0,1,0,3,15] [(4,([[],[0],[],[0,1]],[(2,1),(2,3)])),(1,([],[]))] ?_)|(refine AD (rid:=32) 10 [0,0,2,0,8,0,56,120,255,511] [(8,([[],[],[1],[],[3],[],[3,4,5],[3,4,5,6]],[])),(1,([],[])),(1,([],[]))] ?_)|(refine AD (rid:=46) 4 [0,0,1,7] [(3,([[],[],[0]],[(1,2)])),(1,([],[]))] ?_)|exact rt1 e|fail)<;>(refine af1 e ?_;intros;apply wr))):G:=t c d e
theorem Nh(c:CpuD)(k v:Int):(Bs c k v).pc=c.pc:=by unfold Bs CpuD.setS;(repeat' split)<;>rfl
theorem HY{k:Int}(h0:0<=k){b:Int}(h1:k<=b)(hb:b<=1000:=by decide):IntKind.i64.wrap k=k:=AA
abbrev GN(c:CpuD)(i:InstD):Prop:=AC prog 240 [.st c.row,.st i.row] (.tup [.st (AE c i).1.row,.st (AE c i).2.row])
theorem bE(c:CpuD)(i:InstD)(hc:OkC c)(hi:OkI i)(hop:i.op=24):GN c i:=by
 obtain⟨a0,a1,b0,b1,c0,c1⟩:=hi;have g:=AP c b0 b1;have ga:=AP c a0 a1;have hE:AE c i=((c.setR i.a (uw (uw i.imm*65536))).setP (uw (c.pc+4)),BB):=by unfold AE;simp[hop]
 unfold GN;rw[hE];refine sZ func240 ntmps240 ?_;exact Ar (qX1 (Hy c i.a (uw (uw i.imm*65536)) a0 a1)) trivial (kX6 @g @ga @hop @An @CpuD.setP.eq_1 @BB.eq_1)
theorem bF(c:CpuD)(i:InstD)(hc:OkC c)(hi:OkI i)(hop:i.op=48):GN c i:=by
 obtain⟨a0,a1,b0,b1,c0,c1⟩:=hi;have g:=AP c b0 b1;have ga:=AP c a0 a1;have hE:AE c i=((c.setR i.a (uw (c.pc+4))).setP (uw (c.pc+uw (4*uw i.imm))),BB):=by unfold AE;simp[hop]
 unfold GN;rw[hE];refine sZ func240 ntmps240 ?_;exact Ar (qX1 (Hy c i.a (uw (c.pc+4)) a0 a1)) trivial (kX6 @g @ga @hop @An @CpuD.setP.eq_1 @BB.eq_1)
theorem bG(c:CpuD)(i:InstD)(hc:OkC c)(hi:OkI i)(hop:i.op=49):GN c i:=by
 obtain⟨a0,a1,b0,b1,c0,c1⟩:=hi;have g:=AP c b0 b1;have ga:=AP c a0 a1;have hE:AE c i=((c.setR i.a (uw (c.pc+4))).setP (uw (c.x i.b.toNat+uw i.imm)),BB):=by unfold AE;simp[hop]
 unfold GN;rw[hE];refine sZ func240 ntmps240 ?_;exact Ar (qX1 (Hy c i.a (uw (c.pc+4)) a0 a1)) trivial (kX6 @g @ga @hop @An @CpuD.setP.eq_1 @BB.eq_1)
theorem bH(c:CpuD)(i:InstD)(hc:OkC c)(hi:OkI i)(hop:i.op=56):GN c i:=by
 obtain⟨a0,a1,b0,b1,c0,c1⟩:=hi;have g:=AP c b0 b1;have ga:=AP c a0 a1;have hE:AE c i=(BP c 7 0,BB):=by unfold AE;simp[hop]
 unfold GN;rw[hE];refine sZ func240 ntmps240 ?_;exact Ar (qX1 (EC c 7 0 hc)) trivial (kX6 @g @ga @hop @An @CpuD.setP.eq_1 @BB.eq_1)
theorem bI(c:CpuD)(i:InstD)(hc:OkC c)(hi:OkI i)(hop:i.op=57):GN c i:=by
 obtain⟨a0,a1,b0,b1,c0,c1⟩:=hi;have g:=AP c b0 b1;have ga:=AP c a0 a1;have hE:AE c i=(Om c,BB):=by unfold AE;simp[hop]
 unfold GN;rw[hE];refine sZ func240 ntmps240 ?_;exact Ar (qX1 (Um c hc)) trivial (kX6 @g @ga @hop @An @CpuD.setP.eq_1 @BB.eq_1)
theorem bJ(c:CpuD)(i:InstD)(hc:OkC c)(hi:OkI i)(hop:i.op=58)(k0:0<=i.imm)(k1:i.imm<=7):GN c i:=by
 obtain⟨a0,a1,b0,b1,c0,c1⟩:=hi;have g:=AP c b0 b1;have ga:=AP c a0 a1;have hE:AE c i=((c.setR i.a (c.csr i.imm.toNat)).setP (uw (c.pc+4)),BB):=by unfold AE;simp[hop]
 unfold GN;rw[hE];refine sZ func240 ntmps240 ?_;exact Ar (qX1 (Hy c i.a (c.csr i.imm.toNat) a0 a1)) trivial (kX7 @g @ga @hop @An @CpuD.setP.eq_1 @BB.eq_1 (Sw c k0 k1))
theorem bK(c:CpuD)(i:InstD)(hc:OkC c)(hi:OkI i)(hop:i.op=59)(k0:0<=i.imm)(k1:i.imm<=7):GN c i:=by
 obtain⟨a0,a1,b0,b1,c0,c1⟩:=hi;have g:=AP c b0 b1;have ga:=AP c a0 a1;have hE:AE c i=((Bs c i.imm (c.x i.a.toNat)).setP (uw (c.pc+4)),BB):=by unfold AE;simp[hop]
 unfold GN;rw[hE];refine sZ func240 ntmps240 ?_;exact Ar (qX1 (Ye c i.imm (c.x i.a.toNat) k0 k1)) trivial (kX8 @g @ga @hop @An @CpuD.setP.eq_1 @BB.eq_1 @Nh (HY k0 k1))
theorem bL(c:CpuD)(i:InstD)(hc:OkC c)(hi:OkI i)(hop:i.op=60)(k0:0<=i.imm)(k1:i.imm<=11):GN c i:=by
 obtain⟨a0,a1,b0,b1,c0,c1⟩:=hi;have g:=AP c b0 b1;have ga:=AP c a0 a1;have hE:AE c i=(c.setP (uw (c.pc+4)),⟨1,i.imm,i.a,0⟩):=by unfold AE;simp[hop]
 unfold GN;rw[hE];refine sZ func240 ntmps240 ?_;exact Ar trivial trivial (kX7 @g @ga @hop @An @CpuD.setP.eq_1 @BB.eq_1 (HY k0 k1))
theorem bM(c:CpuD)(i:InstD)(hc:OkC c)(hi:OkI i)(hop:i.op=61)(k0:0<=i.imm)(k1:i.imm<=11):GN c i:=by
 obtain⟨a0,a1,b0,b1,c0,c1⟩:=hi;have g:=AP c b0 b1;have ga:=AP c a0 a1;have hE:AE c i=(c.setP (uw (c.pc+4)),⟨2,i.imm,0,c.x i.a.toNat⟩):=by unfold AE;simp[hop]
 unfold GN;rw[hE];refine sZ func240 ntmps240 ?_;exact Ar trivial trivial (kX7 @g @ga @hop @An @CpuD.setP.eq_1 @BB.eq_1 (HY k0 k1))
theorem bO(c:CpuD)(i:InstD)(hc:OkC c)(hi:OkI i)(hop:i.op=62):GN c i:=by
 obtain⟨a0,a1,b0,b1,c0,c1⟩:=hi;have g:=AP c b0 b1;have ga:=AP c a0 a1;have hE:AE c i=(c.setP (uw (c.pc+4)),⟨3,0,0,0⟩):=by unfold AE;simp[hop]
 unfold GN;rw[hE];refine sZ func240 ntmps240 ?_;exact Ar trivial trivial (kX6 @g @ga @hop @An @CpuD.setP.eq_1 @BB.eq_1)
theorem bP(c:CpuD)(i:InstD)(hc:OkC c)(hi:OkI i)(hop:i.op=63):GN c i:=by
 obtain⟨a0,a1,b0,b1,c0,c1⟩:=hi;have g:=AP c b0 b1;have ga:=AP c a0 a1;have hE:AE c i=(c.setP (uw (c.pc+4)),⟨5,0,0,0⟩):=by unfold AE;simp[hop]
 unfold GN;rw[hE];refine sZ func240 ntmps240 ?_;exact Ar trivial trivial (kX6 @g @ga @hop @An @CpuD.setP.eq_1 @BB.eq_1)
theorem bQ(c:CpuD)(i:InstD)(hc:OkC c)(hi:OkI i)(hop:i.op=64):GN c i:=by
 obtain⟨a0,a1,b0,b1,c0,c1⟩:=hi;have g:=AP c b0 b1;have ga:=AP c a0 a1;have hE:AE c i=(c.setP (uw (c.pc+4)),⟨4,0,0,0⟩):=by unfold AE;simp[hop]
 unfold GN;rw[hE];refine sZ func240 ntmps240 ?_;exact Ar trivial trivial (kX6 @g @ga @hop @An @CpuD.setP.eq_1 @BB.eq_1)
theorem exB_ok(c:CpuD)(i:InstD)(hc:OkC c)(hi:OkI i)(hh:i.op=40\/i.op=41\/i.op=42\/i.op=43\/i.op=44\/i.op=45):GN c i:=by
 obtain⟨a0,a1,b0,b1,c0,c1⟩:=hi;have g:=AP c b0 b1;have ga:=AP c a0 a1;have hE:AE c i=(c.setP (if HE i.op (c.x i.a.toNat) (c.x i.b.toNat)=true then uw (c.pc+uw (4*uw i.imm))else uw (c.pc+4)),BB):=by unfold AE;rw[nG,nH]
 have ht:=Y0 i.op (c.x i.a.toNat) (c.x i.b.toNat);unfold GN;rw[hE];generalize HE i.op (c.x i.a.toNat) (c.x i.b.toNat)=t at *;cases t
 ·rcases hh with hop|hop|hop|hop|hop|hop;all_goals rw[hop]at ht
  ·refine sZ func240 ntmps240 ?_;exact Ar (qX1 (ht)) trivial (kX5 @g @ga @hop @CpuD.setP.eq_1 @BB.eq_1)
  ·refine sZ func240 ntmps240 ?_;exact Ar (qX1 (ht)) trivial (kX5 @g @ga @hop @CpuD.setP.eq_1 @BB.eq_1)
  ·refine sZ func240 ntmps240 ?_;exact Ar (qX1 (ht)) trivial (kX5 @g @ga @hop @CpuD.setP.eq_1 @BB.eq_1)
  ·refine sZ func240 ntmps240 ?_;exact Ar (qX1 (ht)) trivial (kX5 @g @ga @hop @CpuD.setP.eq_1 @BB.eq_1)
  ·refine sZ func240 ntmps240 ?_;exact Ar (qX1 (ht)) trivial (kX5 @g @ga @hop @CpuD.setP.eq_1 @BB.eq_1)
  refine sZ func240 ntmps240 ?_;exact Ar (qX1 (ht)) trivial (kX5 @g @ga @hop @CpuD.setP.eq_1 @BB.eq_1)
 rcases hh with hop|hop|hop|hop|hop|hop;all_goals rw[hop]at ht
 ·refine sZ func240 ntmps240 ?_;exact Ar (qX1 (ht)) trivial (kX5 @g @ga @hop @CpuD.setP.eq_1 @BB.eq_1)
 ·refine sZ func240 ntmps240 ?_;exact Ar (qX1 (ht)) trivial (kX5 @g @ga @hop @CpuD.setP.eq_1 @BB.eq_1)
 ·refine sZ func240 ntmps240 ?_;exact Ar (qX1 (ht)) trivial (kX5 @g @ga @hop @CpuD.setP.eq_1 @BB.eq_1)
 ·refine sZ func240 ntmps240 ?_;exact Ar (qX1 (ht)) trivial (kX5 @g @ga @hop @CpuD.setP.eq_1 @BB.eq_1)
 ·refine sZ func240 ntmps240 ?_;exact Ar (qX1 (ht)) trivial (kX5 @g @ga @hop @CpuD.setP.eq_1 @BB.eq_1)
 refine sZ func240 ntmps240 ?_;exact Ar (qX1 (ht)) trivial (kX5 @g @ga @hop @CpuD.setP.eq_1 @BB.eq_1)
theorem exA_ok(c:CpuD)(i:InstD)(hc:OkC c)(hi:OkI i)(h:(1<=i.op/\i.op<=13)\/(16<=i.op/\i.op<=23)):GN c i:=by
 obtain⟨a0,a1,b0,b1,c0,c1⟩:=hi;have g:=AP c b0 b1;have ga:=AP c a0 a1;have gc:=AP c c0 c1;obtain⟨o,ho⟩:∃o,o=(if 16<=i.op then uw i.imm else c.x i.c.toNat):=⟨_,rfl⟩;have how:W32 o:=by rw[ho];split;exact E6 _;exact hc.x _
 have hE:AE c i=((c.setR i.a ((SI i.op (c.x i.b.toNat) o).getD 0)).setP (uw (c.pc+4)),BB):=by
  unfold AE;rw[ho];repeat rw[nG]
 have hA:=alu_ok i.op (c.x i.b.toNat) o (hc.x _) how h;have d1:¬i.op=24:=by omega
 have d2:¬i.op=48:=by omega
 have d3:¬i.op=49:=by omega
 have n0:∀k:Int,40<=k->¬i.op=k:=fun k hk=>by omega
 unfold GN;rw[hE];by_cases h16:16<=i.op
 ·rw[if_pos h16]at ho;subst ho;refine sZ func240 ntmps240 ?_;exact Ar (qX2 (hA) (Hy c i.a _ a0 a1)) trivial (kX9 @g @ga @gc @d1 @n0 @h16 @An @CpuD.setP.eq_1 @BB.eq_1)
 rw[if_neg h16]at ho;subst ho;refine sZ func240 ntmps240 ?_;exact Ar (qX2 (hA) (Hy c i.a _ a0 a1)) trivial (kX9 @g @ga @gc @d1 @n0 @h16 @An @CpuD.setP.eq_1 @BB.eq_1)
end Go.Proofs.YtjkmhmepljamoaaGreat
end
