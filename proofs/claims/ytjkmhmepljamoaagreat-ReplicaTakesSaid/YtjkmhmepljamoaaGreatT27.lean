/- A part of the proof of ReplicaTakes. -/
import Derived.Test.YtjkmhmepljamoaaGreatT23
set_option linter.all false
set_option maxHeartbeats 16000000
set_option maxRecDepth 100000
section
namespace Go.Proofs.YtjkmhmepljamoaaGreat
open Go.Ab Go.RowKit Tryz
theorem Dc{C D E G:Prop}(c:C)(d:D)(e:E)(t:C->D->E->G:=by intro c d e;(refine af1 e ?_;intros;apply wr);repeat' ((first|(refine AB rfl (fun h=>?_) (fun h=>?_)<;>(first|(simp[e]at h;done)|(simp[e]at h)|skip)<;>(first|(exfalso;omega)|skip))|((first|refine .inl ⟨1,_,d.1,?_⟩|refine⟨1,_,d.1,?_⟩);simp[CZ,C9,noX,Ct,C5,e];first|refine And.intro AP ?_|skip)|((first|refine .inl ⟨1,_,d.2.1,?_⟩|refine⟨1,_,d.2.1,?_⟩);simp[CZ,C9,noX,Ct,C5,e];first|refine And.intro AP ?_|skip)|refine cc1 c.1 e ?_|refine cc1 c.2.1 e ?_|refine cc1 c.2.2.1 e ?_|refine cc1 c.2.2.2.1 e ?_|refine cc1 c.2.2.2.2.1 e ?_|refine cc1 c.2.2.2.2.2.1 e ?_|(refine AG 6 [0,0,0,1,11,31] [(5,([[],[],[],[0],[0,1,3]],[(2,3)])),(1,([],[]))] ?_)|exact rt1 e|fail)<;>(refine af1 e ?_;intros;apply wr))):G:=t c d e
theorem GK(op:Int):AC prog 236 [iv op] (.bool (OT op)):=by
 refine sZ func236 ntmps236 ?_;exact wx1 trivial trivial @OT.eq_1
theorem Ek{op:Int}(h:AI op≠0):((1<=op/\op<=13)\/(16<=op/\op<=23))\/op=24\/(32<=op/\op<=36)\/(op=40\/op=41\/op=42\/op=43\/op=44\/op=45)\/op=48\/op=49\/op=56\/op=57\/op=58\/op=59\/op=60\/op=61\/op=62\/op=63\/op=64:=by
 apply Classical.byContradiction;intro hn;apply h;unfold AI;repeat rw[if_neg (by omega)]
theorem DC{i:InstD}(h:validD i=true):AI i.op≠0:=by
 unfold validD at h;simp only[eU,decide_eq_true_eq]at h;exact h.1.1.1.1.1
theorem CG{i:InstD}(h:validD i=true):OkI i:=by
 obtain⟨_,⟨a0,a1⟩,⟨b0,b1⟩,⟨c0,c1⟩,_⟩:=GM h;exact⟨a0,a1,b0,b1,c0,c1⟩
theorem NQ{i:InstD}(h:validD i=true):Bz (AI i.op)<=i.imm/\i.imm<=Ak (AI i.op):=by
 unfold validD at h;simp only[eU,decide_eq_true_eq]at h;exact⟨h.1.2,h.2⟩
theorem KA(c:CpuD)(i:InstD)(hc:OkC c)(hv:validD i=true)(hn:¬(32<=i.op/\i.op<=36)):Fy c i:=by
 have hi:=CG hv;have hm:=NQ hv;rcases Ek (DC hv)with h|h|h|h|h|h|h|h|h|h|h|h|h|h|h
 ·exact exA_ok c i hc hi h
 ·exact aA c i hc hi h
 ·exact absurd h hn
 ·exact exB_ok c i hc hi h
 ·exact aB c i hc hi h
 ·exact aC c i hc hi h
 ·exact aD c i hc hi h
 ·exact aE c i hc hi h
 ·rw[h]at hm;exact aF c i hc hi h (by have:=hm.1;simp[Bz,AI]at this;omega) (by have:=hm.2;simp[Ak,AI]at this;omega)
 ·rw[h]at hm;exact aG c i hc hi h (by have:=hm.1;simp[Bz,AI]at this;omega) (by have:=hm.2;simp[Ak,AI]at this;omega)
 ·rw[h]at hm;exact aH c i hc hi h (by have:=hm.1;simp[Bz,AI]at this;omega) (by have:=hm.2;simp[Ak,AI]at this;omega)
 ·rw[h]at hm;exact aI c i hc hi h (by have:=hm.1;simp[Bz,AI]at this;omega) (by have:=hm.2;simp[Ak,AI]at this;omega)
 ·exact aJ c i hc hi h
 ·exact aK c i hc hi h
 exact aL c i hc hi h
theorem Ss(c:CpuD)(l:List Int)(hc:OkC c)(hl:OkW l)(hb:l.length<=100000):
  AC prog 179 [.st c.row,DJ l] (.tup [.st (Aw c l).1.row,DJ (Aw c l).2.1,.st (Aw c l).2.2.row]):=by
 have hf:=WU c l hc hl hb;have hm:=CE (c:=c) (va:=c.pc) (s:=4) (acc:=1) hl;have hn:=BI c l c.pc 4 1;have hX:Aw c l=(if(AE c l c.pc 4 1).2.2≠0 then(BN c (AE c l c.pc 4 1).2.2 c.pc,(AE c l c.pc 4 1).2.1,Ax)else CW c (AE c l c.pc 4 1).2.1 (wAt (AE c l c.pc 4 1).2.1 ((AE c l c.pc 4 1).1/4))):=rfl;unfold MR at hf;rw[hX];clear hX;generalize AE c l c.pc 4 1=R at *;obtain⟨a,m,k⟩:=R;simp only at hf hm hn ⊢;rw[<- hn]at hb;by_cases hk:k=0
 ·subst hk;simp only[if_true]at hf;rw[if_neg (by simp)];generalize wAt m (a/4)=w at *;have hd:=decode_ok w;unfold Zj at hd;obtain⟨i,hi⟩:∃i,i=DW w:=⟨_,rfl⟩;rw[<- hi]at hd;cases hv:validD i with
  | false =>
   have hE:CW c m w=(BN c 1 w,m,Ax):=by unfold CW;rw[<- hi,if_pos hv]
   rw[hv]at hd;rw[hE];simp only[fU,if_false]at hd;refine sZ func179 ntmps179 ?_;exact Dc (qX3 (hf) (hd) (Dy c 1 w hc)) trivial @Ax.eq_1
  | true =>
   rw[hv]at hd;simp only[if_true]at hd;cases hp:OT i.op with
   | true =>
    by_cases hs:c.csr 0%2=0
    ·have hE:CW c m w=(BN c 2 w,m,Ax):=by unfold CW;rw[<- hi,if_neg (by simp[hv]),if_pos ⟨hp,hs⟩]
     rw[hE];refine sZ func179 ntmps179 ?_;exact Dc (qX5 (hf) (hd) (GK i.op) (kernel_ok c hc) (Dy c 2 w hc)) trivial (kX3 @hp @hs @Ax.eq_1)
    by_cases hl3:32<=i.op/\i.op<=34
    ·have hE:CW c m w=((Ac c m i).1,(Ac c m i).2,Ax):=by
      unfold CW;rw[<- hi,if_neg (by simp[hv]),if_neg (by simp[hp,hs]),if_pos hl3]
     have hL:=P3 c m i hc hm hb (CG hv);rw[hE];generalize Ac c m i=Z at *;refine sZ func179 ntmps179 ?_;exact Dc (qX5 (hf) (hd) (GK i.op) (kernel_ok c hc) (hL)) trivial (kX3 @hp @hs @Ax.eq_1)
    by_cases hs3:35<=i.op/\i.op<=36
    ·have hE:CW c m w=((AX c m i).1,(AX c m i).2,Ax):=by
      unfold CW;rw[<- hi,if_neg (by simp[hv]),if_neg (by simp[hp,hs]),if_neg hl3,if_pos hs3]
     have hL:=NF c m i hc hm hb (CG hv);rw[hE];generalize AX c m i=Z at *;refine sZ func179 ntmps179 ?_;exact Dc (qX5 (hf) (hd) (GK i.op) (kernel_ok c hc) (hL)) trivial (kX3 @hp @hs @Ax.eq_1)
    have hE:CW c m w=((AD c i).1,m,(AD c i).2):=by
     unfold CW;rw[<- hi,if_neg (by simp[hv]),if_neg (by simp[hp,hs]),if_neg hl3,if_neg hs3]
    have hL:=KA c i hc hv (by omega);unfold Fy at hL;rw[hE];generalize AD c i=Z at *;refine sZ func179 ntmps179 ?_;exact Dc (qX5 (hf) (hd) (GK i.op) (kernel_ok c hc) (hL)) trivial (kX3 @hp @hs @Ax.eq_1)
   | false =>
    by_cases hl3:32<=i.op/\i.op<=34
    ·have hE:CW c m w=((Ac c m i).1,(Ac c m i).2,Ax):=by
      unfold CW;rw[<- hi,if_neg (by simp[hv]),if_neg (by simp[hp,hp]),if_pos hl3]
     have hL:=P3 c m i hc hm hb (CG hv);rw[hE];generalize Ac c m i=Z at *;refine sZ func179 ntmps179 ?_;exact Dc (qX5 (hf) (hd) (GK i.op) (kernel_ok c hc) (hL)) trivial (kX3 @hp @hp @Ax.eq_1)
    by_cases hs3:35<=i.op/\i.op<=36
    ·have hE:CW c m w=((AX c m i).1,(AX c m i).2,Ax):=by
      unfold CW;rw[<- hi,if_neg (by simp[hv]),if_neg (by simp[hp,hp]),if_neg hl3,if_pos hs3]
     have hL:=NF c m i hc hm hb (CG hv);rw[hE];generalize AX c m i=Z at *;refine sZ func179 ntmps179 ?_;exact Dc (qX5 (hf) (hd) (GK i.op) (kernel_ok c hc) (hL)) trivial (kX3 @hp @hp @Ax.eq_1)
    have hE:CW c m w=((AD c i).1,m,(AD c i).2):=by
     unfold CW;rw[<- hi,if_neg (by simp[hv]),if_neg (by simp[hp,hp]),if_neg hl3,if_neg hs3]
    have hL:=KA c i hc hv (by omega);unfold Fy at hL;rw[hE];generalize AD c i=Z at *;refine sZ func179 ntmps179 ?_;exact Dc (qX5 (hf) (hd) (GK i.op) (kernel_ok c hc) (hL)) trivial (kX3 @hp @hp @Ax.eq_1)
 rw[if_pos hk];refine sZ func179 ntmps179 ?_;exact Dc (qX2 (hf) (Dy c k c.pc hc)) trivial (kX2 @hk @Ax.eq_1)
end Go.Proofs.YtjkmhmepljamoaaGreat
end
