/- A part of the proof of ReplicaHalts. -/
import Derived.Test.YthjpcmecgjfilaaGreatH08
set_option linter.unusedSimpArgs false
set_option linter.unusedVariables false
set_option maxHeartbeats 16000000
set_option maxRecDepth 100000
section
namespace Go.Proofs.YthjpcmecgjfilaaGreat
open Go.Ab Go.RowKit Tryz
theorem zDS {C D E G:Prop} (c:C) (d:D) (e:E) (t:C->D->E->G:=by intro c d e;(refine af1 e ?_;intros;apply wr);repeat' ((first|(refine zAC rfl (fun h=>?_) (fun h=>?_)<;>(first|(simp [e] at h;done)|(simp [e] at h)|skip)<;>(first|(exfalso;omega)|skip))|((first|refine .inl ⟨1,_,d.1,?_⟩|refine ⟨1,_,d.1,?_⟩);simp [aftC,aftE,noX,noXc,noX1,e];first|refine And.intro zAM ?_|skip)|((first|refine .inl ⟨1,_,d.2.1,?_⟩|refine ⟨1,_,d.2.1,?_⟩);simp [aftC,aftE,noX,noXc,noX1,e];first|refine And.intro zAM ?_|skip)|refine cc1 c.1 e ?_|refine cc1 c.2.1 e ?_|refine cc1 c.2.2.1 e ?_|refine cc1 c.2.2.2.1 e ?_|refine cc1 c.2.2.2.2.1 e ?_|refine cc1 c.2.2.2.2.2.1 e ?_|(refine zAE (rid:=9) 7 [0,1,0,4,3,19,63] [(6,([[],[0],[],[2],[0,1],[0,1,4]],[(3,1)])),(1,([],[]))] ?_)|(refine zAE (rid:=10) 10 [0,1,0,0,8,0,60,127,255,511] [(7,([[],[0],[],[],[3],[],[2,3,4,5]],[(1,6)])),(1,([],[])),(1,([],[])),(1,([],[]))] ?_)|exact rt1 e|fail)<;>(refine af1 e ?_;intros;apply wr))):G:=t c d e
theorem zHP {l:List Int} {root va acc a e:Int} (h:zHg l root va acc=some (a,e)) (hr:W32 root) (hv:W32 va):zAR l e 4=true/\W32 e/\W32 a/\a / 128<pagesD l/\a % 128=va % 128:=by
 unfold zHg at h;split at h
 ·rename_i q;obtain ⟨q1,q2,q3,q4⟩:=q
  injection h with h
  injection h with ha he
  subst ha he;have:=zAf l;have h0:=hr.1;have h1:=hv.1;refine ⟨zLs q2 h0 q1 h1,⟨by omega,by omega⟩,⟨by omega,by omega⟩,by omega,by omega⟩
 cases h
theorem zVo {l:List Int} {e acc:Int} (h:OkW l):OkW (zEx l e acc):=by
 unfold zEx;refine zVZ h ?_;unfold zMs;split<;>(unfold ior;rw [IntKind.wrap_u32];constructor<;>omega)
theorem zQV (l:List Int) (e acc:Int):(zEx l e acc).length=l.length:=by simp [zEx]
theorem zCB {c:CpuD} {l:List Int} {va s acc:Int} (h:OkW l):OkW (zAF c l va s acc).2.1:=by
 unfold zAF;split
 ·exact h
 split
 ·split
  ·exact h
  exact zVo h
 split<;>exact h
theorem zBM (c:CpuD) (l:List Int) (va s acc:Int):(zAF c l va s acc).2.1.length=l.length:=by
 unfold zAF;split
 ·rfl
 split
 ·split
  ·rfl
  exact zQV _ _ _
 split<;>rfl
theorem zBn {l l':List Int} (h:l.length=l'.length):pagesD l=pagesD l':=by unfold pagesD;rw [h]
theorem zBr {l l':List Int} (h:l.length=l'.length) (a s:Int):zAR l a s=zAR l' a s:=by unfold zAR;rw [zBn h]
theorem zC7 {c:CpuD} {l:List Int} {va s acc:Int} (hs:s=1\/s=4) (ha:0<acc+3) (hc:OkC c) (hv:W32 va) (h:(zAF c l va s acc).2.2=0):zAR l (zAF c l va s acc).1 s=true/\W32 (zAF c l va s acc).1:=by
 unfold zAF at h ⊢;split at h
 ·simp at h
 rename_i h1;rw [if_neg h1];split at h
 ·rename_i h2;rw [if_pos h2];split at h
  ·simp at h;omega
  rename_i a e q;obtain ⟨f1,f2,f3,f4,f5⟩:=zHP q (hc.csr 6) hv;refine ⟨?_,f3⟩;unfold zAR;simp only [zV5,Bool.or_eq_true,decide_eq_true_eq];rcases hs with rfl|rfl<;>omega
 rename_i h2;rw [if_neg h2];split at h
 ·rename_i h3;rw [if_pos h3];exact ⟨h3,hv⟩
 simp at h;omega
theorem zFT (c:CpuD) (l:List Int) (va s acc:Int) (hs:s=1\/s=4) (ha:acc=1\/acc=2\/acc=3) (hc:OkC c) (hv:W32 va) (hl:OkW l) (hb:l.length<=100000) :
  zAD prog 295 [.st c.row,memV l,uv va,iv s,iv acc] (.tup [uv (zAF c l va s acc).1,memV (zAF c l va s acc).2.1,iv (zAF c l va s acc).2.2]):=by
 have c4:=iand4 (hc.csr 0);have m4:va.tmod s=va % s:=Int.tmod_eq_emod_of_nonneg hv.1;have ws:IntKind.u32.wrap s=s:=by rcases hs with rfl|rfl<;>decide
 have s0:¬ s=0:=by rcases hs with rfl|rfl<;>decide
 have sx:¬ s=1->s=4:=by rcases hs with rfl|rfl<;>simp
 have hcl:=zCH (ints .u32 l) false 1 (.inl rfl) (by rw [zAN];exact hb)
 by_cases h1:va % s=0
 ·by_cases h2:zDU c=true
  ·have p1:c.csr 0 % 2=0:=by unfold zDU at h2;simp at h2;exact h2.1
   have p2:c.csr 0 / 4 % 2=1:=by unfold zDU at h2;simp at h2;exact h2.2
   have hw:=zVv l (c.csr 6) va acc (hc.csr 6) hv ha;cases q:zHg l (c.csr 6) va acc with
   | none =>
    have e:zAF c l va s acc=(0,l,acc+3):=by unfold zAF;rw [if_neg (by omega),if_pos h2,q]
    rw [show zET l (c.csr 6) va acc=.st [uv 0,uv 0,iv (acc+3)] by unfold zET;rw [q]] at hw
    rw [e];have n3:¬ acc+3=0:=by omega
    refine sZ func295 ntmps295 ?_;exact zDS (qX4 (zBw acc ha) (kernel_ok c hc) (hw) (hcl)) trivial (kX9 @c4 @m4 @ws @s0 @sx @h1 @p1 @p2 @n3)
   | some w =>
    obtain ⟨a,e⟩:=w;obtain ⟨f1,f2,f3,f4,f5⟩:=zHP q (hc.csr 6) hv;have e':zAF c l va s acc=(a,zEx l e acc,0):=by unfold zAF;rw [if_neg (by omega),if_pos h2,q]
    rw [show zET l (c.csr 6) va acc=.st [uv a,uv e,iv 0] by unfold zET;rw [q]] at hw
    rw [e'];have ht:=zSq l e acc f1 f2 hl hb;refine sZ func295 ntmps295 ?_;exact zDS (qX4 (zBw acc ha) (kernel_ok c hc) (hw) (ht)) trivial (kX8 @c4 @m4 @ws @s0 @sx @h1 @p1 @p2)
  have p:c.csr 0 % 2=0->¬ c.csr 0 / 4 % 2=1:=by
   intro p1 p2
   apply h2;unfold zDU;simp [p1,p2]
  have p':c.csr 0 % 2=0->c.csr 0 / 4 % 2=0:=fun z=>by have:=p z;omega
  have hL:=zEf l va s hs hv;cases h3:zAR l va s with
  | true =>
   have e:zAF c l va s acc=(va,l,0):=by unfold zAF;rw [if_neg (by omega),if_neg h2,if_pos h3]
   rw [e];rw [h3] at hL;by_cases p1:c.csr 0 % 2=0
   ·have p2:=p' p1;refine sZ func295 ntmps295 ?_;exact zDS (qX4 (zBw acc ha) (kernel_ok c hc) (hL) (hcl)) trivial (kX8 @c4 @m4 @ws @s0 @sx @h1 @p1 @p2)
   refine sZ func295 ntmps295 ?_;exact zDS (qX4 (zBw acc ha) (kernel_ok c hc) (hL) (hcl)) trivial (kX7 @c4 @m4 @ws @s0 @sx @h1 @p1)
  | false =>
   have e:zAF c l va s acc=(0,l,acc+3):=by unfold zAF;rw [if_neg (by omega),if_neg h2,if_neg (by simp [h3])]
   rw [e];rw [h3] at hL;by_cases p1:c.csr 0 % 2=0
   ·have p2:=p' p1;refine sZ func295 ntmps295 ?_;exact zDS (qX4 (zBw acc ha) (kernel_ok c hc) (hL) (hcl)) trivial (kX8 @c4 @m4 @ws @s0 @sx @h1 @p1 @p2)
   refine sZ func295 ntmps295 ?_;exact zDS (qX4 (zBw acc ha) (kernel_ok c hc) (hL) (hcl)) trivial (kX7 @c4 @m4 @ws @s0 @sx @h1 @p1)
 have e:zAF c l va s acc=(0,l,3):=by unfold zAF;rw [if_pos h1]
 rw [e];refine sZ func295 ntmps295 ?_;exact zDS (qX2 (zBw acc ha) (hcl)) trivial (kX5 @m4 @ws @s0 @sx @h1)
def zJn (c:CpuD) (l:List Int):Int × List Int × Int :=
 (if (zAF c l c.pc 4 1).2.2=0 then wAt (zAF c l c.pc 4 1).2.1 ((zAF c l c.pc 4 1).1 / 4) else 0,(zAF c l c.pc 4 1).2.1,(zAF c l c.pc 4 1).2.2)
theorem zRN (c:CpuD) (l:List Int) (hc:OkC c) (hl:OkW l) (hb:l.length<=100000) :
  zAD prog 234 [.st c.row,memV l] (.tup [uv (zJn c l).1,memV (zJn c l).2.1,iv (zJn c l).2.2]):=by
 have hr:=zFT c l c.pc 4 1 (.inr rfl) (.inl rfl) hc hc.pc hl hb;have hi:=zC7 (c:=c) (l:=l) (va:=c.pc) (s:=4) (acc:=1) (.inr rfl) (by decide) hc hc.pc
 have hn:=zBM c l c.pc 4 1;unfold zJn;generalize zAF c l c.pc 4 1=R at *
 obtain ⟨a,m,k⟩:=R;simp only at hr hi hn ⊢;by_cases hk:k=0
 ·obtain ⟨i1,i2⟩:=hi hk;have hL:=zEf m a 4 (.inr rfl) i2;rw [zBr hn,i1] at hL;simp only [if_true] at hL;rw [show zBl m a 4=wAt m (a / 4) by simp [zBl]] at hL
  refine sZ func234 ntmps234 ?_;exact wx1 (qX2 (hr) (hL)) trivial @hk
 refine sZ func234 ntmps234 ?_;exact wx1 (qX1 (hr)) trivial @hk
theorem zJE {C D E G:Prop} (c:C) (d:D) (e:E) (t:C->D->E->G:=by intro c d e;(refine af1 e ?_;intros;apply wr);repeat' ((first|(refine zAC rfl (fun h=>?_) (fun h=>?_)<;>(first|(simp [e] at h;done)|(simp [e] at h)|skip)<;>(first|(exfalso;omega)|skip))|((first|refine .inl ⟨1,_,d.1,?_⟩|refine ⟨1,_,d.1,?_⟩);simp [aftC,aftE,noX,noXc,noX1,e];first|refine And.intro zAM ?_|skip)|((first|refine .inl ⟨1,_,d.2.1,?_⟩|refine ⟨1,_,d.2.1,?_⟩);simp [aftC,aftE,noX,noXc,noX1,e];first|refine And.intro zAM ?_|skip)|refine cc1 c.1 e ?_|refine cc1 c.2.1 e ?_|refine cc1 c.2.2.1 e ?_|refine cc1 c.2.2.2.1 e ?_|refine cc1 c.2.2.2.2.1 e ?_|refine cc1 c.2.2.2.2.2.1 e ?_|(refine zAE (rid:=1) 10 [0,1,0,7,15,0,32,96,255,511] [(8,([[],[0],[],[0,1,2],[0,1,2,3],[],[5],[5,6]],[])),(1,([],[])),(1,([],[]))] ?_)|(refine zAE (rid:=2) 14 [0,0,0,0,8,24,63,127,255,255,255,511,3071,8191] [(6,([[],[],[],[],[3],[3,4]],[(0,5)])),(1,([],[])),(1,([],[])),(5,([[],[],[],[0],[0,1,3]],[])),(1,([],[]))] ?_)|exact rt1 e|fail)<;>(refine af1 e ?_;intros;apply wr))):G:=t c d e
theorem zMz {C D E G:Prop} (c:C) (d:D) (e:E) (t:C->D->E->G:=by intro c d e;(refine af1 e ?_;intros;apply wr);repeat' ((first|(refine zAC rfl (fun h=>?_) (fun h=>?_)<;>(first|(simp [e] at h;done)|(simp [e] at h)|skip)<;>(first|(exfalso;omega)|skip))|((first|refine .inl ⟨1,_,d.1,?_⟩|refine ⟨1,_,d.1,?_⟩);simp [aftC,aftE,noX,noXc,noX1,e];first|refine And.intro zAM ?_|skip)|((first|refine .inl ⟨1,_,d.2.1,?_⟩|refine ⟨1,_,d.2.1,?_⟩);simp [aftC,aftE,noX,noXc,noX1,e];first|refine And.intro zAM ?_|skip)|refine cc1 c.1 e ?_|refine cc1 c.2.1 e ?_|refine cc1 c.2.2.1 e ?_|refine cc1 c.2.2.2.1 e ?_|refine cc1 c.2.2.2.2.1 e ?_|refine cc1 c.2.2.2.2.2.1 e ?_|(refine zAE (rid:=1) 10 [0,1,0,7,15,0,32,96,255,511] [(8,([[],[0],[],[0,1,2],[0,1,2,3],[],[5],[5,6]],[])),(1,([],[])),(1,([],[]))] ?_)|(refine zAE (rid:=2) 14 [0,0,0,0,8,24,63,127,255,255,255,511,3071,8191] [(6,([[],[],[],[],[3],[3,4]],[(0,5)])),(1,([],[])),(1,([],[])),(5,([[],[],[],[0],[0,1,3]],[])),(1,([],[]))] ?_)|(refine zAE (rid:=5) 15 [0,0,0,4,12,0,32,0,224,480,1023,2047,4095,4095,8191] [(10,([[],[],[],[2],[2,3],[],[5],[],[5,6,7],[5,6,7,8]],[(6,4),(8,4),(9,4)])),(1,([],[])),(1,([],[])),(3,([[],[],[0]],[]))] ?_)|exact rt1 e|fail)<;>(refine af1 e ?_;intros;apply wr))):G:=t c d e
theorem zA2 (c:CpuD) (r v:Int):(c.setR r v).pc=c.pc:=by unfold CpuD.setR CpuD.setX;split<;>rfl
theorem zFb (op:Int):zAW op=1\/zAW op=4:=by unfold zAW;split<;>simp
theorem uw_w (n:Int):W32 (uw n):=by unfold uw;rw [IntKind.wrap_u32];constructor<;>omega
theorem zF0 (w k:Int):0<=byteAt w k/\byteAt w k<256:=by unfold byteAt;omega
structure OkI (i:InstD):Prop where
 a0:0<=i.a
 a1:i.a<=15
 b0:0<=i.b
 b1:i.b<=15
 c0:0<=i.c
 c1:i.c<=15
theorem OkC.setR {c:CpuD} (h:OkC c) {r v:Int} (hv:W32 v):OkC (c.setR r v):=by
 unfold CpuD.setR;split
 ·exact h
 exact ⟨fun i=>by simp only [CpuD.setX];split;exact hv;exact h.x i,h.pc,h.csr,h.s⟩
theorem OkC.setP {c:CpuD} (h:OkC c) {p:Int} (hp:W32 p):OkC (c.setP p):=⟨h.x,hp,h.csr,h.s⟩
theorem zMB (c:CpuD) (l:List Int) (i:InstD) (hc:OkC c) (hl:OkW l) (hb:l.length<=100000) (hi:OkI i) :
  zAD prog 238 [.st c.row,memV l,.st i.row] (.tup [.st (zA4 c l i).1.row,memV (zA4 c l i).2]):=by
 obtain ⟨a0,a1,b0,b1,c0,c1⟩:=hi;have g:=zAU c b0 b1;obtain ⟨va,hva⟩:∃ va,va=uw (c.x i.b.toNat+uw i.imm):=⟨_,rfl⟩;have hv:W32 va:=by rw [hva];exact uw_w _
 have hr:=zFT c l va (zAW i.op) 2 (zFb _) (.inr (.inl rfl)) hc hv hl hb;have hin:=zC7 (c:=c) (l:=l) (va:=va) (s:=zAW i.op) (acc:=2) (zFb _) (by decide) hc hv
 have hn:=zBM c l va (zAW i.op) 2;have hE:zA4 c l i=(if (zAF c l va (zAW i.op) 2).2.2≠0 then (zBF c (zAF c l va (zAW i.op) 2).2.2 va,(zAF c l va (zAW i.op) 2).2.1) else
  ((c.setR i.a (if i.op=33 then zI4 (zBl (zAF c l va (zAW i.op) 2).2.1 (zAF c l va (zAW i.op) 2).1 (zAW i.op)) else zBl (zAF c l va (zAW i.op) 2).2.1 (zAF c l va (zAW i.op) 2).1 (zAW i.op))).setP (uw (c.pc+4)),(zAF c l va (zAW i.op) 2).2.1)):=by
  rw [hva];rfl
 generalize zAF c l va (zAW i.op) 2=R at *
 obtain ⟨a,m,k⟩:=R;simp only at hr hin hn hE;have va':IntKind.u32.wrap (c.x i.b.toNat+IntKind.u32.wrap i.imm)=va:=hva.symm;by_cases hk:k=0
 ·obtain ⟨i1,i2⟩:=hin hk;have hL:=zEf m a (zAW i.op) (zFb _) i2;rw [zBr hn,i1] at hL;simp only [if_true] at hL;have hE':zA4 c l i=((c.setR i.a (if i.op=33 then zI4 (zBl m a (zAW i.op)) else zBl m a (zAW i.op))).setP (uw (c.pc+4)),m):=by rw [hE,if_neg (by simp [hk])]
  rw [hE'];by_cases h33:i.op=33
  ·have w1:zAW i.op=1:=by rw [h33];rfl
   have hx:=zUY (zBl m a (zAW i.op)) (by rw [w1];exact (zF0 _ _).1) (by rw [w1];exact (zF0 _ _).2)
   refine sZ func238 ntmps238 ?_;exact zJE (qX5 (zE4 i.op) (hr) (hL) (hx) (zFo c i.a (zI4 (zBl m a (zAW i.op))) a0 a1)) trivial (kX5 @g @va' @hk @zA2 @CpuD.setP.eq_1)
  refine sZ func238 ntmps238 ?_;exact zJE (qX4 (zE4 i.op) (hr) (hL) (zFo c i.a (zBl m a (zAW i.op)) a0 a1)) trivial (kX5 @g @va' @hk @zA2 @CpuD.setP.eq_1)
 have hE':zA4 c l i=(zBF c k va,m):=by rw [hE,if_pos hk]
 rw [hE'];refine sZ func238 ntmps238 ?_;exact zJE (qX3 (zE4 i.op) (hr) (zCr c k va hc)) trivial (kX3 @g @va' @hk)
theorem zKO (c:CpuD) (l:List Int) (i:InstD) (hc:OkC c) (hl:OkW l) (hb:l.length<=100000) (hi:OkI i) :
  zAD prog 239 [.st c.row,memV l,.st i.row] (.tup [.st (zAP c l i).1.row,memV (zAP c l i).2]):=by
 obtain ⟨a0,a1,b0,b1,c0,c1⟩:=hi;have g:=zAU c b0 b1;have ga:=zAU c a0 a1;obtain ⟨va,hva⟩:∃ va,va=uw (c.x i.b.toNat+uw i.imm):=⟨_,rfl⟩;have hv:W32 va:=by rw [hva];exact uw_w _
 have hr:=zFT c l va (zAW i.op) 3 (zFb _) (.inr (.inr rfl)) hc hv hl hb;have hin:=zC7 (c:=c) (l:=l) (va:=va) (s:=zAW i.op) (acc:=3) (zFb _) (by decide) hc hv
 have hn:=zBM c l va (zAW i.op) 3;have hw:=zCB (c:=c) (va:=va) (s:=zAW i.op) (acc:=3) hl;have hE:zAP c l i=(if (zAF c l va (zAW i.op) 3).2.2≠0 then (zBF c (zAF c l va (zAW i.op) 3).2.2 va,(zAF c l va (zAW i.op) 3).2.1) else
  (c.setP (uw (c.pc+4)),zCp (zAF c l va (zAW i.op) 3).2.1 (zAF c l va (zAW i.op) 3).1 (zAW i.op) (c.x i.a.toNat))):=by
  rw [hva];rfl
 generalize zAF c l va (zAW i.op) 3=R at *
 obtain ⟨a,m,k⟩:=R;simp only at hr hin hn hE hw;have va':IntKind.u32.wrap (c.x i.b.toNat+IntKind.u32.wrap i.imm)=va:=hva.symm;by_cases hk:k=0
 ·obtain ⟨i1,i2⟩:=hin hk;have hS:=zHD m a (zAW i.op) (c.x i.a.toNat) (zFb _) i2 hw (by omega)
  rw [zBr hn,i1] at hS;simp only [if_true] at hS;have hE':zAP c l i=(c.setP (uw (c.pc+4)),zCp m a (zAW i.op) (c.x i.a.toNat)):=by rw [hE,if_neg (by simp [hk])]
  rw [hE'];refine sZ func239 ntmps239 ?_;exact zMz (qX3 (zE4 i.op) (hr) (hS)) trivial (kX5 @g @ga @va' @hk @CpuD.setP.eq_1)
 have hE':zAP c l i=(zBF c k va,m):=by rw [hE,if_pos hk]
 rw [hE'];refine sZ func239 ntmps239 ?_;exact zMz (qX3 (zE4 i.op) (hr) (zCr c k va hc)) trivial (kX3 @g @va' @hk)
end Go.Proofs.YthjpcmecgjfilaaGreat
end
