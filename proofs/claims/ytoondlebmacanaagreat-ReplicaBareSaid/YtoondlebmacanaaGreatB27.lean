/- A part of the proof of ReplicaBare+ReplicaWindow. -/
import Derived.Test.YtoondlebmacanaaGreatB25
set_option linter.unusedSimpArgs false
set_option linter.unusedVariables false
set_option maxHeartbeats 16000000
set_option maxRecDepth 100000
section
namespace Go.Proofs.YtoondlebmacanaaGreat
open Go.Ab Go.RowKit
theorem zCc {C D E G:Prop} (c:C) (d:D) (e:E) (t:C→D→E→G:=by intro c d e;(refine af1 e ?_;intros;apply wr);repeat' ((first|(refine zAC rfl (fun h=>?_) (fun h=>?_)<;>(first|(simp [e] at h;done)|(simp [e] at h)|skip)<;>(first|(exfalso;omega)|skip))|((first|refine .inl ⟨1,_,d.1,?_⟩|refine ⟨1,_,d.1,?_⟩);simp [aftC,aftE,noX,noXc,noX1,e];first|refine And.intro zAP ?_|skip)|((first|refine .inl ⟨1,_,d.2.1,?_⟩|refine ⟨1,_,d.2.1,?_⟩);simp [aftC,aftE,noX,noXc,noX1,e];first|refine And.intro zAP ?_|skip)|refine cc1 c.1 e ?_|refine cc1 c.2.1 e ?_|refine cc1 c.2.2.1 e ?_|refine cc1 c.2.2.2.1 e ?_|refine cc1 c.2.2.2.2.1 e ?_|refine cc1 c.2.2.2.2.2.1 e ?_|(refine zAG 6 [0,0,0,1,11,31] [(5,([[],[],[],[0],[0,1,3]],[(2,3)])),(1,([],[]))] ?_)|exact rt1 e|fail)<;>(refine af1 e ?_;intros;apply wr))):G:=t c d e
theorem zEg (op:Int):zAD Tryz.prog 236 [iv op] (.bool (zK3 op)):=by
 refine sZ Tryz.func236 Tryz.ntmps236 ?_;exact wx1 trivial trivial @zK3.eq_1
theorem zDZ {op:Int} (h:zAK op≠0):((1≤op∧op≤13)∨(16≤op∧op≤23))∨op=24∨(32≤op∧op≤36)∨(op=40∨op=41∨op=42∨op=43∨op=44∨op=45)∨op=48∨op=49∨op=56∨op=57∨op=58∨op=59∨op=60∨op=61∨op=62∨op=63∨op=64:=by
 apply Classical.byContradiction;intro hn;apply h;unfold zAK
 repeat rw [if_neg (by omega)]
theorem zCK {i:InstD} (h:validD i=true):zAK i.op≠0:=by
 unfold validD at h;simp only [zWd,decide_eq_true_eq] at h;exact h.1.1.1.1.1
theorem zBd {i:InstD} (h:validD i=true):OkI i:=by
 obtain ⟨_,⟨a0,a1⟩,⟨b0,b1⟩,⟨c0,c1⟩,_⟩:=zEi h;exact ⟨a0,a1,b0,b1,c0,c1⟩
theorem zKJ {i:InstD} (h:validD i=true):lowD (zAK i.op)≤i.imm∧i.imm≤zAl (zAK i.op):=by
 unfold validD at h;simp only [zWd,decide_eq_true_eq] at h;exact ⟨h.1.2,h.2⟩
theorem zHh (c:CpuD) (i:InstD) (hc:OkC c) (hv:validD i=true) (hn:¬ (32≤i.op∧i.op≤36)):ExOk c i:=by
 have hi:=zBd hv;have hm:=zKJ hv;rcases zDZ (zCK hv) with h|h|h|h|h|h|h|h|h|h|h|h|h|h|h
 ·exact exA_ok c i hc hi h
 ·exact zUo c i hc hi h
 ·exact absurd h hn
 ·exact exB_ok c i hc hi h
 ·exact zUp c i hc hi h
 ·exact zUq c i hc hi h
 ·exact zUr c i hc hi h
 ·exact zUs c i hc hi h
 ·rw [h] at hm;exact zUt c i hc hi h (by have:=hm.1;simp [lowD,zAK] at this;omega) (by have:=hm.2;simp [zAl,zAK] at this;omega)
 ·rw [h] at hm;exact zUu c i hc hi h (by have:=hm.1;simp [lowD,zAK] at this;omega) (by have:=hm.2;simp [zAl,zAK] at this;omega)
 ·rw [h] at hm;exact zUv c i hc hi h (by have:=hm.1;simp [lowD,zAK] at this;omega) (by have:=hm.2;simp [zAl,zAK] at this;omega)
 ·rw [h] at hm;exact zUw c i hc hi h (by have:=hm.1;simp [lowD,zAK] at this;omega) (by have:=hm.2;simp [zAl,zAK] at this;omega)
 ·exact zUx c i hc hi h
 ·exact zUy c i hc hi h
 exact zUz c i hc hi h
theorem zOn (c:CpuD) (l:List Int) (hc:OkC c) (hl:OkW l) (hb:l.length≤100000) :
  zAD Tryz.prog 179 [.st c.row,memV l] (.tup [.st (zAr c l).1.row,memV (zAr c l).2.1,.st (zAr c l).2.2.row]):=by
 have hf:=zRn c l hc hl hb;have hm:=zBb (c:=c) (va:=c.pc) (s:=4) (acc:=1) hl;have hn:=zA2 c l c.pc 4 1;have hX:zAr c l=(if (zAF c l c.pc 4 1).2.2≠0 then (zA4 c (zAF c l c.pc 4 1).2.2 c.pc,(zAF c l c.pc 4 1).2.1,zEff) else zBl c (zAF c l c.pc 4 1).2.1 (wAt (zAF c l c.pc 4 1).2.1 ((zAF c l c.pc 4 1).1 / 4))):=rfl
 unfold zJV at hf;rw [hX];clear hX;generalize zAF c l c.pc 4 1=R at *
 obtain ⟨a,m,k⟩:=R;simp only at hf hm hn ⊢;rw [← hn] at hb;by_cases hk:k=0
 ·subst hk;simp only [if_true] at hf;rw [if_neg (by simp)]
  generalize wAt m (a / 4)=w at *
  have hd:=decode_ok w;unfold decV at hd;obtain ⟨i,hi⟩:∃ i,i=decI w:=⟨_,rfl⟩;rw [← hi] at hd;cases hv:validD i with
  | false =>
   have hE:zBl c m w=(zA4 c 1 w,m,zEff):=by unfold zBl;rw [← hi,if_pos hv]
   rw [hv] at hd;rw [hE];simp only [zWv,if_false] at hd;refine sZ Tryz.func179 Tryz.ntmps179 ?_;exact zCc (qX3 (hf) (hd) (zC2 c 1 w hc)) trivial @zEff.eq_1
  | true =>
   rw [hv] at hd;simp only [if_true] at hd;cases hp:zK3 i.op with
   | true =>
    by_cases hs:c.csr 0 % 2=0
    ·have hE:zBl c m w=(zA4 c 2 w,m,zEff):=by unfold zBl;rw [← hi,if_neg (by simp [hv]),if_pos ⟨hp,hs⟩]
     rw [hE];refine sZ Tryz.func179 Tryz.ntmps179 ?_;exact zCc (qX5 (hf) (hd) (zEg i.op) (kernel_ok c hc) (zC2 c 2 w hc)) trivial (kX3 @hp @hs @zEff.eq_1)
    by_cases hl3:32≤i.op∧i.op≤34
    ·have hE:zBl c m w=((zAc c m i).1,(zAc c m i).2,zEff):=by
      unfold zBl;rw [← hi,if_neg (by simp [hv]),if_neg (by simp [hp,hs]),if_pos hl3]
     have hL:=zL5 c m i hc hm hb (zBd hv);rw [hE];generalize zAc c m i=Z at *
     refine sZ Tryz.func179 Tryz.ntmps179 ?_;exact zCc (qX5 (hf) (hd) (zEg i.op) (kernel_ok c hc) (hL)) trivial (kX3 @hp @hs @zEff.eq_1)
    by_cases hs3:35≤i.op∧i.op≤36
    ·have hE:zBl c m w=((zAZ c m i).1,(zAZ c m i).2,zEff):=by
      unfold zBl;rw [← hi,if_neg (by simp [hv]),if_neg (by simp [hp,hs]),if_neg hl3,if_pos hs3]
     have hL:=zKB c m i hc hm hb (zBd hv);rw [hE];generalize zAZ c m i=Z at *
     refine sZ Tryz.func179 Tryz.ntmps179 ?_;exact zCc (qX5 (hf) (hd) (zEg i.op) (kernel_ok c hc) (hL)) trivial (kX3 @hp @hs @zEff.eq_1)
    have hE:zBl c m w=((zAE c i).1,m,(zAE c i).2):=by
     unfold zBl;rw [← hi,if_neg (by simp [hv]),if_neg (by simp [hp,hs]),if_neg hl3,if_neg hs3]
    have hL:=zHh c i hc hv (by omega)
    unfold ExOk at hL;rw [hE];generalize zAE c i=Z at *
    refine sZ Tryz.func179 Tryz.ntmps179 ?_;exact zCc (qX5 (hf) (hd) (zEg i.op) (kernel_ok c hc) (hL)) trivial (kX3 @hp @hs @zEff.eq_1)
   | false =>
    by_cases hl3:32≤i.op∧i.op≤34
    ·have hE:zBl c m w=((zAc c m i).1,(zAc c m i).2,zEff):=by
      unfold zBl;rw [← hi,if_neg (by simp [hv]),if_neg (by simp [hp,hp]),if_pos hl3]
     have hL:=zL5 c m i hc hm hb (zBd hv);rw [hE];generalize zAc c m i=Z at *
     refine sZ Tryz.func179 Tryz.ntmps179 ?_;exact zCc (qX5 (hf) (hd) (zEg i.op) (kernel_ok c hc) (hL)) trivial (kX3 @hp @hp @zEff.eq_1)
    by_cases hs3:35≤i.op∧i.op≤36
    ·have hE:zBl c m w=((zAZ c m i).1,(zAZ c m i).2,zEff):=by
      unfold zBl;rw [← hi,if_neg (by simp [hv]),if_neg (by simp [hp,hp]),if_neg hl3,if_pos hs3]
     have hL:=zKB c m i hc hm hb (zBd hv);rw [hE];generalize zAZ c m i=Z at *
     refine sZ Tryz.func179 Tryz.ntmps179 ?_;exact zCc (qX5 (hf) (hd) (zEg i.op) (kernel_ok c hc) (hL)) trivial (kX3 @hp @hp @zEff.eq_1)
    have hE:zBl c m w=((zAE c i).1,m,(zAE c i).2):=by
     unfold zBl;rw [← hi,if_neg (by simp [hv]),if_neg (by simp [hp,hp]),if_neg hl3,if_neg hs3]
    have hL:=zHh c i hc hv (by omega)
    unfold ExOk at hL;rw [hE];generalize zAE c i=Z at *
    refine sZ Tryz.func179 Tryz.ntmps179 ?_;exact zCc (qX5 (hf) (hd) (zEg i.op) (kernel_ok c hc) (hL)) trivial (kX3 @hp @hp @zEff.eq_1)
 rw [if_pos hk];refine sZ Tryz.func179 Tryz.ntmps179 ?_;exact zCc (qX2 (hf) (zC2 c k c.pc hc)) trivial (kX2 @hk @zEff.eq_1)
end Go.Proofs.YtoondlebmacanaaGreat
end
