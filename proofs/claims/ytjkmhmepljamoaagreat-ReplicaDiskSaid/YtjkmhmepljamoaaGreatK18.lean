/- A part of the proof of ReplicaDisk. -/
import Derived.Test.YtjkmhmepljamoaaGreatK17
set_option linter.all false
set_option maxHeartbeats 16000000
set_option maxRecDepth 100000
section
namespace Go.Proofs.YtjkmhmepljamoaaGreat
open Go.Ab Go.RowKit Tryz
theorem Lu{C D E G:Prop}(c:C)(d:D)(e:E)(t:C->D->E->G:=by intro c d e;(refine af1 e ?_;intros;apply wr);repeat' ((first|(refine AB rfl (fun h=>?_) (fun h=>?_)<;>(first|(simp[e]at h;done)|(simp[e]at h)|skip)<;>(first|(exfalso;omega)|skip))|((first|refine .inl ⟨1,_,d.1,?_⟩|refine⟨1,_,d.1,?_⟩);simp[C0,Cd,noX,Cx,C9,e];first|refine And.intro AQ ?_|skip)|((first|refine .inl ⟨1,_,d.2.1,?_⟩|refine⟨1,_,d.2.1,?_⟩);simp[C0,Cd,noX,Cx,C9,e];first|refine And.intro AQ ?_|skip)|refine cc1 c.1 e ?_|refine cc1 c.2.1 e ?_|refine cc1 c.2.2.1 e ?_|refine cc1 c.2.2.2.1 e ?_|refine cc1 c.2.2.2.2.1 e ?_|refine cc1 c.2.2.2.2.2.1 e ?_|(refine AD (rid:=1) 10 [0,1,0,7,15,0,32,96,255,511] [(8,([[],[0],[],[0,1,2],[0,1,2,3],[],[5],[5,6]],[])),(1,([],[])),(1,([],[]))] ?_)|(refine AD (rid:=2) 14 [0,0,0,0,8,24,63,127,255,255,255,511,3071,8191] [(6,([[],[],[],[],[3],[3,4]],[(0,5)])),(1,([],[])),(1,([],[])),(5,([[],[],[],[0],[0,1,3]],[])),(1,([],[]))] ?_)|exact rt1 e|fail)<;>(refine af1 e ?_;intros;apply wr))):G:=t c d e
theorem Qj{C D E G:Prop}(c:C)(d:D)(e:E)(t:C->D->E->G:=by intro c d e;(refine af1 e ?_;intros;apply wr);repeat' ((first|(refine AB rfl (fun h=>?_) (fun h=>?_)<;>(first|(simp[e]at h;done)|(simp[e]at h)|skip)<;>(first|(exfalso;omega)|skip))|((first|refine .inl ⟨1,_,d.1,?_⟩|refine⟨1,_,d.1,?_⟩);simp[C0,Cd,noX,Cx,C9,e];first|refine And.intro AQ ?_|skip)|((first|refine .inl ⟨1,_,d.2.1,?_⟩|refine⟨1,_,d.2.1,?_⟩);simp[C0,Cd,noX,Cx,C9,e];first|refine And.intro AQ ?_|skip)|refine cc1 c.1 e ?_|refine cc1 c.2.1 e ?_|refine cc1 c.2.2.1 e ?_|refine cc1 c.2.2.2.1 e ?_|refine cc1 c.2.2.2.2.1 e ?_|refine cc1 c.2.2.2.2.2.1 e ?_|(refine AD (rid:=1) 10 [0,1,0,7,15,0,32,96,255,511] [(8,([[],[0],[],[0,1,2],[0,1,2,3],[],[5],[5,6]],[])),(1,([],[])),(1,([],[]))] ?_)|(refine AD (rid:=2) 14 [0,0,0,0,8,24,63,127,255,255,255,511,3071,8191] [(6,([[],[],[],[],[3],[3,4]],[(0,5)])),(1,([],[])),(1,([],[])),(5,([[],[],[],[0],[0,1,3]],[])),(1,([],[]))] ?_)|(refine AD (rid:=5) 15 [0,0,0,4,12,0,32,0,224,480,1023,2047,4095,4095,8191] [(10,([[],[],[],[2],[2,3],[],[5],[],[5,6,7],[5,6,7,8]],[(6,4),(8,4),(9,4)])),(1,([],[])),(1,([],[])),(3,([[],[],[0]],[]))] ?_)|exact rt1 e|fail)<;>(refine af1 e ?_;intros;apply wr))):G:=t c d e
theorem An(c:CpuD)(r v:Int):(c.setR r v).pc=c.pc:=by unfold CpuD.setR CpuD.setX;split<;>rfl
theorem Hi(op:Int):AY op=1\/AY op=4:=by unfold AY;split<;>simp
theorem E6(n:Int):W32 (uw n):=by unfold uw;rw[IntKind.wrap_u32];constructor<;>omega
theorem Fa(w k:Int):0<=byteAt w k/\byteAt w k<256:=by unfold byteAt;omega
structure OkI(i:InstD):Prop where
 a0:0<=i.a
 a1:i.a<=15
 b0:0<=i.b
 b1:i.b<=15
 c0:0<=i.c
 c1:i.c<=15
theorem OkC.setR{c:CpuD}(h:OkC c){r v:Int}(hv:W32 v):OkC (c.setR r v):=by
 unfold CpuD.setR;split
 ·exact h
 exact⟨fun i=>by simp only[CpuD.setX];split;exact hv;exact h.x i,h.pc,h.csr,h.s⟩
theorem OkC.setP{c:CpuD}(h:OkC c){p:Int}(hp:W32 p):OkC (c.setP p):=⟨h.x,hp,h.csr,h.s⟩
theorem Pk(c:CpuD)(l:List Int)(i:InstD)(hc:OkC c)(hl:OkW l)(hb:l.length<=100000)(hi:OkI i):
  AC prog 238 [.st c.row,DO l,.st i.row] (.tup [.st (Af c l i).1.row,DO (Af c l i).2]):=by
 obtain⟨a0,a1,b0,b1,c0,c1⟩:=hi;have g:=AP c b0 b1;obtain⟨va,hva⟩:∃va,va=uw (c.x i.b.toNat+uw i.imm):=⟨_,rfl⟩;have hv:W32 va:=by rw[hva];exact E6 _
 have hr:=Hb c l va (AY i.op) 2 (Hi _) (.inr (.inl rfl)) hc hv hl hb;have hin:=C5 (c:=c) (l:=l) (va:=va) (s:=AY i.op) (acc:=2) (Hi _) (by decide) hc hv
 have hn:=BO c l va (AY i.op) 2;have hE:Af c l i=(if(AG c l va (AY i.op) 2).2.2≠0 then(BP c (AG c l va (AY i.op) 2).2.2 va,(AG c l va (AY i.op) 2).2.1)else
  ((c.setR i.a (if i.op=33 then GH (Bw (AG c l va (AY i.op) 2).2.1 (AG c l va (AY i.op) 2).1 (AY i.op))else Bw (AG c l va (AY i.op) 2).2.1 (AG c l va (AY i.op) 2).1 (AY i.op))).setP (uw (c.pc+4)),(AG c l va (AY i.op) 2).2.1)):=by
  rw[hva];rfl
 generalize AG c l va (AY i.op) 2=R at *;obtain⟨a,m,k⟩:=R;simp only at hr hin hn hE;have va':IntKind.u32.wrap (c.x i.b.toNat+IntKind.u32.wrap i.imm)=va:=hva.symm;by_cases hk:k=0
 ·obtain⟨i1,i2⟩:=hin hk;have hL:=Gj m a (AY i.op) (Hi _) i2;rw[BW hn,i1]at hL;simp only[if_true]at hL;have hE':Af c l i=((c.setR i.a (if i.op=33 then GH (Bw m a (AY i.op))else Bw m a (AY i.op))).setP (uw (c.pc+4)),m):=by rw[hE,if_neg (by simp[hk])]
  rw[hE'];by_cases h33:i.op=33
  ·have w1:AY i.op=1:=by rw[h33];rfl
   have hx:=bS (Bw m a (AY i.op)) (by rw[w1];exact(Fa _ _).1) (by rw[w1];exact(Fa _ _).2);refine sZ func238 ntmps238 ?_;exact Lu (qX5 (HN i.op) (hr) (hL) (hx) (Hy c i.a (GH (Bw m a (AY i.op))) a0 a1)) trivial (kX5 @g @va' @hk @An @CpuD.setP.eq_1)
  refine sZ func238 ntmps238 ?_;exact Lu (qX4 (HN i.op) (hr) (hL) (Hy c i.a (Bw m a (AY i.op)) a0 a1)) trivial (kX5 @g @va' @hk @An @CpuD.setP.eq_1)
 have hE':Af c l i=(BP c k va,m):=by rw[hE,if_pos hk]
 rw[hE'];refine sZ func238 ntmps238 ?_;exact Lu (qX3 (HN i.op) (hr) (EC c k va hc)) trivial (kX3 @g @va' @hk)
theorem NZ(c:CpuD)(l:List Int)(i:InstD)(hc:OkC c)(hl:OkW l)(hb:l.length<=100000)(hi:OkI i):
  AC prog 239 [.st c.row,DO l,.st i.row] (.tup [.st (AX c l i).1.row,DO (AX c l i).2]):=by
 obtain⟨a0,a1,b0,b1,c0,c1⟩:=hi;have g:=AP c b0 b1;have ga:=AP c a0 a1;obtain⟨va,hva⟩:∃va,va=uw (c.x i.b.toNat+uw i.imm):=⟨_,rfl⟩;have hv:W32 va:=by rw[hva];exact E6 _
 have hr:=Hb c l va (AY i.op) 3 (Hi _) (.inr (.inr rfl)) hc hv hl hb;have hin:=C5 (c:=c) (l:=l) (va:=va) (s:=AY i.op) (acc:=3) (Hi _) (by decide) hc hv
 have hn:=BO c l va (AY i.op) 3;have hw:=CG (c:=c) (va:=va) (s:=AY i.op) (acc:=3) hl;have hE:AX c l i=(if(AG c l va (AY i.op) 3).2.2≠0 then(BP c (AG c l va (AY i.op) 3).2.2 va,(AG c l va (AY i.op) 3).2.1)else
  (c.setP (uw (c.pc+4)),Ca (AG c l va (AY i.op) 3).2.1 (AG c l va (AY i.op) 3).1 (AY i.op) (c.x i.a.toNat))):=by
  rw[hva];rfl
 generalize AG c l va (AY i.op) 3=R at *;obtain⟨a,m,k⟩:=R;simp only at hr hin hn hE hw;have va':IntKind.u32.wrap (c.x i.b.toNat+IntKind.u32.wrap i.imm)=va:=hva.symm;by_cases hk:k=0
 ·obtain⟨i1,i2⟩:=hin hk;have hS:=Jd m a (AY i.op) (c.x i.a.toNat) (Hi _) i2 hw (by omega);rw[BW hn,i1]at hS;simp only[if_true]at hS;have hE':AX c l i=(c.setP (uw (c.pc+4)),Ca m a (AY i.op) (c.x i.a.toNat)):=by rw[hE,if_neg (by simp[hk])]
  rw[hE'];refine sZ func239 ntmps239 ?_;exact Qj (qX3 (HN i.op) (hr) (hS)) trivial (kX5 @g @ga @va' @hk @CpuD.setP.eq_1)
 have hE':AX c l i=(BP c k va,m):=by rw[hE,if_pos hk]
 rw[hE'];refine sZ func239 ntmps239 ?_;exact Qj (qX3 (HN i.op) (hr) (EC c k va hc)) trivial (kX3 @g @va' @hk)
end Go.Proofs.YtjkmhmepljamoaaGreat
end
