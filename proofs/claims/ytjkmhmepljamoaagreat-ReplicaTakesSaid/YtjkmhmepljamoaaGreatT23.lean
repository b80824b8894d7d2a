/- A part of the proof of ReplicaTakes. -/
import Derived.Test.YtjkmhmepljamoaaGreatT20
import Derived.Test.YtjkmhmepljamoaaGreatT22
set_option linter.all false
set_option maxHeartbeats 16000000
set_option maxRecDepth 100000
section
namespace Go.Proofs.YtjkmhmepljamoaaGreat
open Go.Ab Go.RowKit Tryz
theorem Aq{C D E G:Prop}(c:C)(d:D)(e:E)(t:C->D->E->G:=by intro c d e;(refine af1 e ?_;intros;apply wr);repeat' ((first|(refine AB rfl (fun h=>?_) (fun h=>?_)<;>(first|(simp[e]at h;done)|(simp[e]at h)|skip)<;>(first|(exfalso;omega)|skip))|((first|refine .inl ⟨1,_,d.1,?_⟩|refine⟨1,_,d.1,?_⟩);simp[CZ,C9,noX,Ct,C5,e];first|refine And.intro AP ?_|skip)|((first|refine .inl ⟨1,_,d.2.1,?_⟩|refine⟨1,_,d.2.1,?_⟩);simp[CZ,C9,noX,Ct,C5,e];first|refine And.intro AP ?_|skip)|refine cc1 c.1 e ?_|refine cc1 c.2.1 e ?_|refine cc1 c.2.2.1 e ?_|refine cc1 c.2.2.2.1 e ?_|refine cc1 c.2.2.2.2.1 e ?_|refine cc1 c.2.2.2.2.2.1 e ?_|(refine AG (rid:=1) 12 [0,1,0,7,15,0,32,0,224,480,31,2047] [(11,([[],[0],[],[0,1,2],[0,1,2,3],[],[5],[],[5,6,7],[5,6,7,8],[0,1,2,3,4]],[])),(1,([],[]))] ?_)|(refine AG (rid:=28) 5 [0,1,0,3,15] [(4,([[],[0],[],[0,1]],[(2,1),(2,3)])),(1,([],[]))] ?_)|(refine AG (rid:=30) 5 [0,1,0,3,15] [(4,([[],[0],[],[0,1]],[(2,1),(2,3)])),(1,([],[]))] ?_)|(refine AG (rid:=32) 10 [0,0,2,0,8,0,56,120,255,511] [(8,([[],[],[1],[],[3],[],[3,4,5],[3,4,5,6]],[])),(1,([],[])),(1,([],[]))] ?_)|(refine AG (rid:=46) 4 [0,0,1,7] [(3,([[],[],[0]],[(1,2)])),(1,([],[]))] ?_)|exact rt1 e|fail)<;>(refine af1 e ?_;intros;apply wr))):G:=t c d e
theorem NW(c:CpuD)(k v:Int):(Bs c k v).pc=c.pc:=by unfold Bs CpuD.setS;(repeat' split)<;>rfl
theorem HH{k:Int}(h0:0<=k){b:Int}(h1:k<=b)(hb:b<=1000:=by decide):IntKind.i64.wrap k=k:=AA (by omega) (by omega)
abbrev Fy(c:CpuD)(i:InstD):Prop:=AC prog 240 [.st c.row,.st i.row] (.tup [.st (AD c i).1.row,.st (AD c i).2.row])
theorem aA(c:CpuD)(i:InstD)(hc:OkC c)(hi:OkI i)(hop:i.op=24):Fy c i:=by
 obtain⟨a0,a1,b0,b1,c0,c1⟩:=hi;have g:=AN c b0 b1;have ga:=AN c a0 a1;have hE:AD c i=((c.setR i.a (uw (uw i.imm*65536))).setP (uw (c.pc+4)),Ax):=by unfold AD;simp[hop]
 unfold Fy;rw[hE];refine sZ func240 ntmps240 ?_;exact Aq (qX1 (Hk c i.a (uw (uw i.imm*65536)) a0 a1)) trivial (kX6 @g @ga @hop @Al @CpuD.setP.eq_1 @Ax.eq_1)
theorem aB(c:CpuD)(i:InstD)(hc:OkC c)(hi:OkI i)(hop:i.op=48):Fy c i:=by
 obtain⟨a0,a1,b0,b1,c0,c1⟩:=hi;have g:=AN c b0 b1;have ga:=AN c a0 a1;have hE:AD c i=((c.setR i.a (uw (c.pc+4))).setP (uw (c.pc+uw (4*uw i.imm))),Ax):=by unfold AD;simp[hop]
 unfold Fy;rw[hE];refine sZ func240 ntmps240 ?_;exact Aq (qX1 (Hk c i.a (uw (c.pc+4)) a0 a1)) trivial (kX6 @g @ga @hop @Al @CpuD.setP.eq_1 @Ax.eq_1)
theorem aC(c:CpuD)(i:InstD)(hc:OkC c)(hi:OkI i)(hop:i.op=49):Fy c i:=by
 obtain⟨a0,a1,b0,b1,c0,c1⟩:=hi;have g:=AN c b0 b1;have ga:=AN c a0 a1;have hE:AD c i=((c.setR i.a (uw (c.pc+4))).setP (uw (c.x i.b.toNat+uw i.imm)),Ax):=by unfold AD;simp[hop]
 unfold Fy;rw[hE];refine sZ func240 ntmps240 ?_;exact Aq (qX1 (Hk c i.a (uw (c.pc+4)) a0 a1)) trivial (kX6 @g @ga @hop @Al @CpuD.setP.eq_1 @Ax.eq_1)
theorem aD(c:CpuD)(i:InstD)(hc:OkC c)(hi:OkI i)(hop:i.op=56):Fy c i:=by
 obtain⟨a0,a1,b0,b1,c0,c1⟩:=hi;have g:=AN c b0 b1;have ga:=AN c a0 a1;have hE:AD c i=(BN c 7 0,Ax):=by unfold AD;simp[hop]
 unfold Fy;rw[hE];refine sZ func240 ntmps240 ?_;exact Aq (qX1 (Dy c 7 0 hc)) trivial (kX6 @g @ga @hop @Al @CpuD.setP.eq_1 @Ax.eq_1)
theorem aE(c:CpuD)(i:InstD)(hc:OkC c)(hi:OkI i)(hop:i.op=57):Fy c i:=by
 obtain⟨a0,a1,b0,b1,c0,c1⟩:=hi;have g:=AN c b0 b1;have ga:=AN c a0 a1;have hE:AD c i=(O0 c,Ax):=by unfold AD;simp[hop]
 unfold Fy;rw[hE];refine sZ func240 ntmps240 ?_;exact Aq (qX1 (U3 c hc)) trivial (kX6 @g @ga @hop @Al @CpuD.setP.eq_1 @Ax.eq_1)
theorem aF(c:CpuD)(i:InstD)(hc:OkC c)(hi:OkI i)(hop:i.op=58)(k0:0<=i.imm)(k1:i.imm<=7):Fy c i:=by
 obtain⟨a0,a1,b0,b1,c0,c1⟩:=hi;have g:=AN c b0 b1;have ga:=AN c a0 a1;have hE:AD c i=((c.setR i.a (c.csr i.imm.toNat)).setP (uw (c.pc+4)),Ax):=by unfold AD;simp[hop]
 unfold Fy;rw[hE];refine sZ func240 ntmps240 ?_;exact Aq (qX1 (Hk c i.a (c.csr i.imm.toNat) a0 a1)) trivial (kX7 @g @ga @hop @Al @CpuD.setP.eq_1 @Ax.eq_1 (S8 c k0 k1))
theorem aG(c:CpuD)(i:InstD)(hc:OkC c)(hi:OkI i)(hop:i.op=59)(k0:0<=i.imm)(k1:i.imm<=7):Fy c i:=by
 obtain⟨a0,a1,b0,b1,c0,c1⟩:=hi;have g:=AN c b0 b1;have ga:=AN c a0 a1;have hE:AD c i=((Bs c i.imm (c.x i.a.toNat)).setP (uw (c.pc+4)),Ax):=by unfold AD;simp[hop]
 unfold Fy;rw[hE];refine sZ func240 ntmps240 ?_;exact Aq (qX1 (YN c i.imm (c.x i.a.toNat) k0 k1)) trivial (kX8 @g @ga @hop @Al @CpuD.setP.eq_1 @Ax.eq_1 @NW (HH k0 k1))
theorem aH(c:CpuD)(i:InstD)(hc:OkC c)(hi:OkI i)(hop:i.op=60)(k0:0<=i.imm)(k1:i.imm<=11):Fy c i:=by
 obtain⟨a0,a1,b0,b1,c0,c1⟩:=hi;have g:=AN c b0 b1;have ga:=AN c a0 a1;have hE:AD c i=(c.setP (uw (c.pc+4)),⟨1,i.imm,i.a,0⟩):=by unfold AD;simp[hop]
 unfold Fy;rw[hE];refine sZ func240 ntmps240 ?_;exact Aq trivial trivial (kX7 @g @ga @hop @Al @CpuD.setP.eq_1 @Ax.eq_1 (HH k0 k1))
theorem aI(c:CpuD)(i:InstD)(hc:OkC c)(hi:OkI i)(hop:i.op=61)(k0:0<=i.imm)(k1:i.imm<=11):Fy c i:=by
 obtain⟨a0,a1,b0,b1,c0,c1⟩:=hi;have g:=AN c b0 b1;have ga:=AN c a0 a1;have hE:AD c i=(c.setP (uw (c.pc+4)),⟨2,i.imm,0,c.x i.a.toNat⟩):=by unfold AD;simp[hop]
 unfold Fy;rw[hE];refine sZ func240 ntmps240 ?_;exact Aq trivial trivial (kX7 @g @ga @hop @Al @CpuD.setP.eq_1 @Ax.eq_1 (HH k0 k1))
theorem aJ(c:CpuD)(i:InstD)(hc:OkC c)(hi:OkI i)(hop:i.op=62):Fy c i:=by
 obtain⟨a0,a1,b0,b1,c0,c1⟩:=hi;have g:=AN c b0 b1;have ga:=AN c a0 a1;have hE:AD c i=(c.setP (uw (c.pc+4)),⟨3,0,0,0⟩):=by unfold AD;simp[hop]
 unfold Fy;rw[hE];refine sZ func240 ntmps240 ?_;exact Aq trivial trivial (kX6 @g @ga @hop @Al @CpuD.setP.eq_1 @Ax.eq_1)
theorem aK(c:CpuD)(i:InstD)(hc:OkC c)(hi:OkI i)(hop:i.op=63):Fy c i:=by
 obtain⟨a0,a1,b0,b1,c0,c1⟩:=hi;have g:=AN c b0 b1;have ga:=AN c a0 a1;have hE:AD c i=(c.setP (uw (c.pc+4)),⟨5,0,0,0⟩):=by unfold AD;simp[hop]
 unfold Fy;rw[hE];refine sZ func240 ntmps240 ?_;exact Aq trivial trivial (kX6 @g @ga @hop @Al @CpuD.setP.eq_1 @Ax.eq_1)
theorem aL(c:CpuD)(i:InstD)(hc:OkC c)(hi:OkI i)(hop:i.op=64):Fy c i:=by
 obtain⟨a0,a1,b0,b1,c0,c1⟩:=hi;have g:=AN c b0 b1;have ga:=AN c a0 a1;have hE:AD c i=(c.setP (uw (c.pc+4)),⟨4,0,0,0⟩):=by unfold AD;simp[hop]
 unfold Fy;rw[hE];refine sZ func240 ntmps240 ?_;exact Aq trivial trivial (kX6 @g @ga @hop @Al @CpuD.setP.eq_1 @Ax.eq_1)
theorem exB_ok(c:CpuD)(i:InstD)(hc:OkC c)(hi:OkI i)(hh:i.op=40\/i.op=41\/i.op=42\/i.op=43\/i.op=44\/i.op=45):Fy c i:=by
 obtain⟨a0,a1,b0,b1,c0,c1⟩:=hi;have g:=AN c b0 b1;have ga:=AN c a0 a1;have hE:AD c i=(c.setP (if Gq i.op (c.x i.a.toNat) (c.x i.b.toNat)=true then uw (c.pc+uw (4*uw i.imm))else uw (c.pc+4)),Ax):=by unfold AD;rw[if_neg (by omega),if_pos (by omega)]
 have ht:=YB i.op (c.x i.a.toNat) (c.x i.b.toNat);unfold Fy;rw[hE];generalize Gq i.op (c.x i.a.toNat) (c.x i.b.toNat)=t at *;cases t
 ·rcases hh with hop|hop|hop|hop|hop|hop;all_goals rw[hop]at ht
  ·refine sZ func240 ntmps240 ?_;exact Aq (qX1 (ht)) trivial (kX5 @g @ga @hop @CpuD.setP.eq_1 @Ax.eq_1)
  ·refine sZ func240 ntmps240 ?_;exact Aq (qX1 (ht)) trivial (kX5 @g @ga @hop @CpuD.setP.eq_1 @Ax.eq_1)
  ·refine sZ func240 ntmps240 ?_;exact Aq (qX1 (ht)) trivial (kX5 @g @ga @hop @CpuD.setP.eq_1 @Ax.eq_1)
  ·refine sZ func240 ntmps240 ?_;exact Aq (qX1 (ht)) trivial (kX5 @g @ga @hop @CpuD.setP.eq_1 @Ax.eq_1)
  ·refine sZ func240 ntmps240 ?_;exact Aq (qX1 (ht)) trivial (kX5 @g @ga @hop @CpuD.setP.eq_1 @Ax.eq_1)
  refine sZ func240 ntmps240 ?_;exact Aq (qX1 (ht)) trivial (kX5 @g @ga @hop @CpuD.setP.eq_1 @Ax.eq_1)
 rcases hh with hop|hop|hop|hop|hop|hop;all_goals rw[hop]at ht
 ·refine sZ func240 ntmps240 ?_;exact Aq (qX1 (ht)) trivial (kX5 @g @ga @hop @CpuD.setP.eq_1 @Ax.eq_1)
 ·refine sZ func240 ntmps240 ?_;exact Aq (qX1 (ht)) trivial (kX5 @g @ga @hop @CpuD.setP.eq_1 @Ax.eq_1)
 ·refine sZ func240 ntmps240 ?_;exact Aq (qX1 (ht)) trivial (kX5 @g @ga @hop @CpuD.setP.eq_1 @Ax.eq_1)
 ·refine sZ func240 ntmps240 ?_;exact Aq (qX1 (ht)) trivial (kX5 @g @ga @hop @CpuD.setP.eq_1 @Ax.eq_1)
 ·refine sZ func240 ntmps240 ?_;exact Aq (qX1 (ht)) trivial (kX5 @g @ga @hop @CpuD.setP.eq_1 @Ax.eq_1)
 refine sZ func240 ntmps240 ?_;exact Aq (qX1 (ht)) trivial (kX5 @g @ga @hop @CpuD.setP.eq_1 @Ax.eq_1)
theorem exA_ok(c:CpuD)(i:InstD)(hc:OkC c)(hi:OkI i)(h:(1<=i.op/\i.op<=13)\/(16<=i.op/\i.op<=23)):Fy c i:=by
 obtain⟨a0,a1,b0,b1,c0,c1⟩:=hi;have g:=AN c b0 b1;have ga:=AN c a0 a1;have gc:=AN c c0 c1;obtain⟨o,ho⟩:∃o,o=(if 16<=i.op then uw i.imm else c.x i.c.toNat):=⟨_,rfl⟩;have how:W32 o:=by rw[ho];split;exact E8 _;exact hc.x _
 have hE:AD c i=((c.setR i.a ((Rj i.op (c.x i.b.toNat) o).getD 0)).setP (uw (c.pc+4)),Ax):=by
  unfold AD;rw[ho];repeat rw[if_neg (by omega)]
 have hA:=alu_ok i.op (c.x i.b.toNat) o (hc.x _) how h;have d1:¬i.op=24:=by omega
 have d2:¬i.op=48:=by omega
 have d3:¬i.op=49:=by omega
 have n0:∀k:Int,40<=k->¬i.op=k:=fun k hk=>by omega
 unfold Fy;rw[hE];by_cases h16:16<=i.op
 ·rw[if_pos h16]at ho;subst ho;refine sZ func240 ntmps240 ?_;exact Aq (qX2 (hA) (Hk c i.a _ a0 a1)) trivial (kX9 @g @ga @gc @d1 @n0 @h16 @Al @CpuD.setP.eq_1 @Ax.eq_1)
 rw[if_neg h16]at ho;subst ho;refine sZ func240 ntmps240 ?_;exact Aq (qX2 (hA) (Hk c i.a _ a0 a1)) trivial (kX9 @g @ga @gc @d1 @n0 @h16 @Al @CpuD.setP.eq_1 @Ax.eq_1)
end Go.Proofs.YtjkmhmepljamoaaGreat
end
