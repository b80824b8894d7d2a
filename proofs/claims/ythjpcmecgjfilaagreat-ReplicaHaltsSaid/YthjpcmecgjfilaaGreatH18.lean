/- A part of the proof of ReplicaHalts. -/
import Derived.Test.YthjpcmecgjfilaaGreatH17
set_option linter.unusedSimpArgs false
set_option linter.unusedVariables false
set_option maxHeartbeats 16000000
set_option maxRecDepth 100000
section
namespace Go.Proofs.YthjpcmecgjfilaaGreat
open Go.Ab Go.RowKit Tryz
theorem zCT {C D E G:Prop} (c:C) (d:D) (e:E) (t:C->D->E->G:=by intro c d e;(refine af1 e ?_;intros;apply wr);repeat' ((first|(refine zAC rfl (fun h=>?_) (fun h=>?_)<;>(first|(simp [e] at h;done)|(simp [e] at h)|skip)<;>(first|(exfalso;omega)|skip))|((first|refine .inl ⟨1,_,d.1,?_⟩|refine ⟨1,_,d.1,?_⟩);simp [aftC,aftE,noX,noXc,noX1,e];first|refine And.intro zAM ?_|skip)|((first|refine .inl ⟨1,_,d.2.1,?_⟩|refine ⟨1,_,d.2.1,?_⟩);simp [aftC,aftE,noX,noXc,noX1,e];first|refine And.intro zAM ?_|skip)|refine cc1 c.1 e ?_|refine cc1 c.2.1 e ?_|refine cc1 c.2.2.1 e ?_|refine cc1 c.2.2.2.1 e ?_|refine cc1 c.2.2.2.2.1 e ?_|refine cc1 c.2.2.2.2.2.1 e ?_|(refine zAE 6 [0,0,0,1,11,31] [(5,([[],[],[],[0],[0,1,3]],[(2,3)])),(1,([],[]))] ?_)|exact rt1 e|fail)<;>(refine af1 e ?_;intros;apply wr))):G:=t c d e
theorem zEQ (op:Int):zAD prog 236 [iv op] (.bool (zLK op)):=by
 refine sZ func236 ntmps236 ?_;exact wx1 trivial trivial @zLK.eq_1
theorem zR0 {op:Int} (h:zAH op≠0):((1<=op/\op<=13)\/(16<=op/\op<=23))\/op=24\/(32<=op/\op<=36)\/(op=40\/op=41\/op=42\/op=43\/op=44\/op=45)\/op=48\/op=49\/op=56\/op=57\/op=58\/op=59\/op=60\/op=61\/op=62\/op=63\/op=64:=by
 apply Classical.byContradiction;intro hn;apply h;unfold zAH
 repeat rw [if_neg (by omega)]
theorem zNw {i:InstD} (h:validD i=true):zAH i.op≠0:=by
 unfold validD at h;simp only [zV5,decide_eq_true_eq] at h;exact h.1.1.1.1.1
theorem zBE {i:InstD} (h:validD i=true):OkI i:=by
 obtain ⟨_,⟨a0,a1⟩,⟨b0,b1⟩,⟨c0,c1⟩,_⟩:=zES h;exact ⟨a0,a1,b0,b1,c0,c1⟩
theorem zKY {i:InstD} (h:validD i=true):lowD (zAH i.op)<=i.imm/\i.imm<=zAd (zAH i.op):=by
 unfold validD at h;simp only [zV5,decide_eq_true_eq] at h;exact ⟨h.1.2,h.2⟩
theorem zHx (c:CpuD) (i:InstD) (hc:OkC c) (hv:validD i=true) (hn:¬ (32<=i.op/\i.op<=36)):ExOk c i:=by
 have hi:=zBE hv;have hm:=zKY hv;rcases zR0 (zNw hv) with h|h|h|h|h|h|h|h|h|h|h|h|h|h|h
 ·exact exA_ok c i hc hi h
 ·exact zUL c i hc hi h
 ·exact absurd h hn
 ·exact exB_ok c i hc hi h
 ·exact zUM c i hc hi h
 ·exact zUN c i hc hi h
 ·exact zUO c i hc hi h
 ·exact zUP c i hc hi h
 ·rw [h] at hm;exact zUQ c i hc hi h (by have:=hm.1;simp [lowD,zAH] at this;omega) (by have:=hm.2;simp [zAd,zAH] at this;omega)
 ·rw [h] at hm;exact zUR c i hc hi h (by have:=hm.1;simp [lowD,zAH] at this;omega) (by have:=hm.2;simp [zAd,zAH] at this;omega)
 ·rw [h] at hm;exact zUS c i hc hi h (by have:=hm.1;simp [lowD,zAH] at this;omega) (by have:=hm.2;simp [zAd,zAH] at this;omega)
 ·rw [h] at hm;exact zUT c i hc hi h (by have:=hm.1;simp [lowD,zAH] at this;omega) (by have:=hm.2;simp [zAd,zAH] at this;omega)
 ·exact zUU c i hc hi h
 ·exact zUV c i hc hi h
 exact zUW c i hc hi h
theorem zOl (c:CpuD) (l:List Int) (hc:OkC c) (hl:OkW l) (hb:l.length<=100000) :
  zAD prog 180 [.st c.row,memV l] (.tup [.st (zAo c l).1.row,memV (zAo c l).2.1,.st (zAo c l).2.2.row]):=by
 have hf:=zRN c l hc hl hb;have hm:=zCB (c:=c) (va:=c.pc) (s:=4) (acc:=1) hl;have hn:=zBM c l c.pc 4 1;have hX:zAo c l=(if (zAF c l c.pc 4 1).2.2≠0 then (zBF c (zAF c l c.pc 4 1).2.2 c.pc,(zAF c l c.pc 4 1).2.1,zEff) else zBh c (zAF c l c.pc 4 1).2.1 (wAt (zAF c l c.pc 4 1).2.1 ((zAF c l c.pc 4 1).1 / 4))):=rfl
 unfold zJn at hf;rw [hX];clear hX;generalize zAF c l c.pc 4 1=R at *
 obtain ⟨a,m,k⟩:=R;simp only at hf hm hn ⊢;rw [<- hn] at hb;by_cases hk:k=0
 ·subst hk;simp only [if_true] at hf;rw [if_neg (by simp)]
  generalize wAt m (a / 4)=w at *
  have hd:=decode_ok w;unfold decV at hd;obtain ⟨i,hi⟩:∃ i,i=decI w:=⟨_,rfl⟩;rw [<- hi] at hd;cases hv:validD i with
  | false =>
   have hE:zBh c m w=(zBF c 1 w,m,zEff):=by unfold zBh;rw [<- hi,if_pos hv]
   rw [hv] at hd;rw [hE];simp only [zWK,if_false] at hd;refine sZ func180 ntmps180 ?_;exact zCT (qX3 (hf) (hd) (zCr c 1 w hc)) trivial @zEff.eq_1
  | true =>
   rw [hv] at hd;simp only [if_true] at hd;cases hp:zLK i.op with
   | true =>
    by_cases hs:c.csr 0 % 2=0
    ·have hE:zBh c m w=(zBF c 2 w,m,zEff):=by unfold zBh;rw [<- hi,if_neg (by simp [hv]),if_pos ⟨hp,hs⟩]
     rw [hE];refine sZ func180 ntmps180 ?_;exact zCT (qX5 (hf) (hd) (zEQ i.op) (kernel_ok c hc) (zCr c 2 w hc)) trivial (kX3 @hp @hs @zEff.eq_1)
    by_cases hl3:32<=i.op/\i.op<=34
    ·have hE:zBh c m w=((zA4 c m i).1,(zA4 c m i).2,zEff):=by
      unfold zBh;rw [<- hi,if_neg (by simp [hv]),if_neg (by simp [hp,hs]),if_pos hl3]
     have hL:=zMB c m i hc hm hb (zBE hv);rw [hE];generalize zA4 c m i=Z at *
     refine sZ func180 ntmps180 ?_;exact zCT (qX5 (hf) (hd) (zEQ i.op) (kernel_ok c hc) (hL)) trivial (kX3 @hp @hs @zEff.eq_1)
    by_cases hs3:35<=i.op/\i.op<=36
    ·have hE:zBh c m w=((zAP c m i).1,(zAP c m i).2,zEff):=by
      unfold zBh;rw [<- hi,if_neg (by simp [hv]),if_neg (by simp [hp,hs]),if_neg hl3,if_pos hs3]
     have hL:=zKO c m i hc hm hb (zBE hv);rw [hE];generalize zAP c m i=Z at *
     refine sZ func180 ntmps180 ?_;exact zCT (qX5 (hf) (hd) (zEQ i.op) (kernel_ok c hc) (hL)) trivial (kX3 @hp @hs @zEff.eq_1)
    have hE:zBh c m w=((zAG c i).1,m,(zAG c i).2):=by
     unfold zBh;rw [<- hi,if_neg (by simp [hv]),if_neg (by simp [hp,hs]),if_neg hl3,if_neg hs3]
    have hL:=zHx c i hc hv (by omega)
    unfold ExOk at hL;rw [hE];generalize zAG c i=Z at *
    refine sZ func180 ntmps180 ?_;exact zCT (qX5 (hf) (hd) (zEQ i.op) (kernel_ok c hc) (hL)) trivial (kX3 @hp @hs @zEff.eq_1)
   | false =>
    by_cases hl3:32<=i.op/\i.op<=34
    ·have hE:zBh c m w=((zA4 c m i).1,(zA4 c m i).2,zEff):=by
      unfold zBh;rw [<- hi,if_neg (by simp [hv]),if_neg (by simp [hp,hp]),if_pos hl3]
     have hL:=zMB c m i hc hm hb (zBE hv);rw [hE];generalize zA4 c m i=Z at *
     refine sZ func180 ntmps180 ?_;exact zCT (qX5 (hf) (hd) (zEQ i.op) (kernel_ok c hc) (hL)) trivial (kX3 @hp @hp @zEff.eq_1)
    by_cases hs3:35<=i.op/\i.op<=36
    ·have hE:zBh c m w=((zAP c m i).1,(zAP c m i).2,zEff):=by
      unfold zBh;rw [<- hi,if_neg (by simp [hv]),if_neg (by simp [hp,hp]),if_neg hl3,if_pos hs3]
     have hL:=zKO c m i hc hm hb (zBE hv);rw [hE];generalize zAP c m i=Z at *
     refine sZ func180 ntmps180 ?_;exact zCT (qX5 (hf) (hd) (zEQ i.op) (kernel_ok c hc) (hL)) trivial (kX3 @hp @hp @zEff.eq_1)
    have hE:zBh c m w=((zAG c i).1,m,(zAG c i).2):=by
     unfold zBh;rw [<- hi,if_neg (by simp [hv]),if_neg (by simp [hp,hp]),if_neg hl3,if_neg hs3]
    have hL:=zHx c i hc hv (by omega)
    unfold ExOk at hL;rw [hE];generalize zAG c i=Z at *
    refine sZ func180 ntmps180 ?_;exact zCT (qX5 (hf) (hd) (zEQ i.op) (kernel_ok c hc) (hL)) trivial (kX3 @hp @hp @zEff.eq_1)
 rw [if_pos hk];refine sZ func180 ntmps180 ?_;exact zCT (qX2 (hf) (zCr c k c.pc hc)) trivial (kX2 @hk @zEff.eq_1)
end Go.Proofs.YthjpcmecgjfilaaGreat
end
