/- A part of the proof of ReplicaDisk. -/
import Derived.Test.YtjkmhmepljamoaaGreatK19
set_option linter.all false
set_option maxHeartbeats 16000000
set_option maxRecDepth 100000
section
namespace Go.Proofs.YtjkmhmepljamoaaGreat
open Go.Ab Go.RowKit Tryz
theorem Dg{C D E G:Prop}(c:C)(d:D)(e:E)(t:C->D->E->G:=by intro c d e;(refine af1 e ?_;intros;apply wr);repeat' ((first|(refine AB rfl (fun h=>?_) (fun h=>?_)<;>(first|(simp[e]at h;done)|(simp[e]at h)|skip)<;>(first|(exfalso;omega)|skip))|((first|refine .inl ⟨1,_,d.1,?_⟩|refine⟨1,_,d.1,?_⟩);simp[C0,Cd,noX,Cx,C9,e];first|refine And.intro AQ ?_|skip)|((first|refine .inl ⟨1,_,d.2.1,?_⟩|refine⟨1,_,d.2.1,?_⟩);simp[C0,Cd,noX,Cx,C9,e];first|refine And.intro AQ ?_|skip)|refine cc1 c.1 e ?_|refine cc1 c.2.1 e ?_|refine cc1 c.2.2.1 e ?_|refine cc1 c.2.2.2.1 e ?_|refine cc1 c.2.2.2.2.1 e ?_|refine cc1 c.2.2.2.2.2.1 e ?_|(refine AD 6 [0,0,0,1,11,31] [(5,([[],[],[],[0],[0,1,3]],[(2,3)])),(1,([],[]))] ?_)|exact rt1 e|fail)<;>(refine af1 e ?_;intros;apply wr))):G:=t c d e
theorem GW(op:Int):AC prog 236 [iv op] (.bool (Oc op)):=by
 refine sZ func236 ntmps236 ?_;exact wx1 trivial trivial @Oc.eq_1
theorem El{op:Int}(h:AK op≠0):((1<=op/\op<=13)\/(16<=op/\op<=23))\/op=24\/(32<=op/\op<=36)\/(op=40\/op=41\/op=42\/op=43\/op=44\/op=45)\/op=48\/op=49\/op=56\/op=57\/op=58\/op=59\/op=60\/op=61\/op=62\/op=63\/op=64:=by
 apply Classical.byContradiction;intro hn;apply h;unfold AK;repeat rw[nG]
theorem DG{i:InstD}(h:validD i=true):AK i.op≠0:=by
 unfold validD at h;simp only[gX,decide_eq_true_eq]at h;exact h.1.1.1.1.1
theorem CJ{i:InstD}(h:validD i=true):OkI i:=by
 obtain⟨_,⟨a0,a1⟩,⟨b0,b1⟩,⟨c0,c1⟩,_⟩:=G0 h;exact⟨a0,a1,b0,b1,c0,c1⟩
theorem N9{i:InstD}(h:validD i=true):By (AK i.op)<=i.imm/\i.imm<=Al (AK i.op):=by
 unfold validD at h;simp only[gX,decide_eq_true_eq]at h;exact⟨h.1.2,h.2⟩
theorem KW(c:CpuD)(i:InstD)(hc:OkC c)(hv:validD i=true)(hn:¬(32<=i.op/\i.op<=36)):GN c i:=by
 have hi:=CJ hv;have hm:=N9 hv;rcases El (DG hv)with h|h|h|h|h|h|h|h|h|h|h|h|h|h|h
 ·exact exA_ok c i hc hi h
 ·exact bE c i hc hi h
 ·exact absurd h hn
 ·exact exB_ok c i hc hi h
 ·exact bF c i hc hi h
 ·exact bG c i hc hi h
 ·exact bH c i hc hi h
 ·exact bI c i hc hi h
 ·rw[h]at hm;exact bJ c i hc hi h (by have:=hm.1;simp[By,AK]at this;omega) (by have:=hm.2;simp[Al,AK]at this;omega)
 ·rw[h]at hm;exact bK c i hc hi h (by have:=hm.1;simp[By,AK]at this;omega) (by have:=hm.2;simp[Al,AK]at this;omega)
 ·rw[h]at hm;exact bL c i hc hi h (by have:=hm.1;simp[By,AK]at this;omega) (by have:=hm.2;simp[Al,AK]at this;omega)
 ·rw[h]at hm;exact bM c i hc hi h (by have:=hm.1;simp[By,AK]at this;omega) (by have:=hm.2;simp[Al,AK]at this;omega)
 ·exact bO c i hc hi h
 ·exact bP c i hc hi h
 exact bQ c i hc hi h
theorem TQ(c:CpuD)(l:List Int)(hc:OkC c)(hl:OkW l)(hb:l.length<=100000):
  AC prog 179 [.st c.row,DO l] (.tup [.st (Az c l).1.row,DO (Az c l).2.1,.st (Az c l).2.2.row]):=by
 have hf:=Wi c l hc hl hb;have hm:=CG (c:=c) (va:=c.pc) (s:=4) (acc:=1) hl;have hn:=BO c l c.pc 4 1;have hX:Az c l=(if(AG c l c.pc 4 1).2.2≠0 then(BP c (AG c l c.pc 4 1).2.2 c.pc,(AG c l c.pc 4 1).2.1,BB)else CY c (AG c l c.pc 4 1).2.1 (wAt (AG c l c.pc 4 1).2.1 ((AG c l c.pc 4 1).1/4))):=rfl;unfold Mb at hf;rw[hX];clear hX;generalize AG c l c.pc 4 1=R at *;obtain⟨a,m,k⟩:=R;simp only at hf hm hn ⊢;rw[<- hn]at hb;by_cases hk:k=0
 ·subst hk;simp only[if_true]at hf;rw[if_neg (by simp)];generalize wAt m (a/4)=w at *;have hd:=decode_ok w;unfold aL at hd;obtain⟨i,hi⟩:∃i,i=D1 w:=⟨_,rfl⟩;rw[<- hi]at hd;cases hv:validD i with
  | false =>
   have hE:CY c m w=(BP c 1 w,m,BB):=by unfold CY;rw[<- hi,if_pos hv]
   rw[hv]at hd;rw[hE];simp only[iR,if_false]at hd;refine sZ func179 ntmps179 ?_;exact Dg (qX3 (hf) (hd) (EC c 1 w hc)) trivial @BB.eq_1
  | true =>
   rw[hv]at hd;simp only[if_true]at hd;cases hp:Oc i.op with
   | true =>
    by_cases hs:c.csr 0%2=0
    ·have hE:CY c m w=(BP c 2 w,m,BB):=by unfold CY;rw[<- hi,if_neg (by simp[hv]),if_pos ⟨hp,hs⟩]
     rw[hE];refine sZ func179 ntmps179 ?_;exact Dg (qX5 (hf) (hd) (GW i.op) (kernel_ok c hc) (EC c 2 w hc)) trivial (kX3 @hp @hs @BB.eq_1)
    by_cases hl3:32<=i.op/\i.op<=34
    ·have hE:CY c m w=((Af c m i).1,(Af c m i).2,BB):=by
      unfold CY;rw[<- hi,if_neg (by simp[hv]),if_neg (by simp[hp,hs]),if_pos hl3]
     have hL:=Pk c m i hc hm hb (CJ hv);rw[hE];generalize Af c m i=Z at *;refine sZ func179 ntmps179 ?_;exact Dg (qX5 (hf) (hd) (GW i.op) (kernel_ok c hc) (hL)) trivial (kX3 @hp @hs @BB.eq_1)
    by_cases hs3:35<=i.op/\i.op<=36
    ·have hE:CY c m w=((AX c m i).1,(AX c m i).2,BB):=by
      unfold CY;rw[<- hi,if_neg (by simp[hv]),if_neg (by simp[hp,hs]),if_neg hl3,if_pos hs3]
     have hL:=NZ c m i hc hm hb (CJ hv);rw[hE];generalize AX c m i=Z at *;refine sZ func179 ntmps179 ?_;exact Dg (qX5 (hf) (hd) (GW i.op) (kernel_ok c hc) (hL)) trivial (kX3 @hp @hs @BB.eq_1)
    have hE:CY c m w=((AE c i).1,m,(AE c i).2):=by
     unfold CY;rw[<- hi,if_neg (by simp[hv]),if_neg (by simp[hp,hs]),if_neg hl3,if_neg hs3]
    have hL:=KW c i hc hv (by omega);unfold GN at hL;rw[hE];generalize AE c i=Z at *;refine sZ func179 ntmps179 ?_;exact Dg (qX5 (hf) (hd) (GW i.op) (kernel_ok c hc) (hL)) trivial (kX3 @hp @hs @BB.eq_1)
   | false =>
    by_cases hl3:32<=i.op/\i.op<=34
    ·have hE:CY c m w=((Af c m i).1,(Af c m i).2,BB):=by
      unfold CY;rw[<- hi,if_neg (by simp[hv]),if_neg (by simp[hp,hp]),if_pos hl3]
     have hL:=Pk c m i hc hm hb (CJ hv);rw[hE];generalize Af c m i=Z at *;refine sZ func179 ntmps179 ?_;exact Dg (qX5 (hf) (hd) (GW i.op) (kernel_ok c hc) (hL)) trivial (kX3 @hp @hp @BB.eq_1)
    by_cases hs3:35<=i.op/\i.op<=36
    ·have hE:CY c m w=((AX c m i).1,(AX c m i).2,BB):=by
      unfold CY;rw[<- hi,if_neg (by simp[hv]),if_neg (by simp[hp,hp]),if_neg hl3,if_pos hs3]
     have hL:=NZ c m i hc hm hb (CJ hv);rw[hE];generalize AX c m i=Z at *;refine sZ func179 ntmps179 ?_;exact Dg (qX5 (hf) (hd) (GW i.op) (kernel_ok c hc) (hL)) trivial (kX3 @hp @hp @BB.eq_1)
    have hE:CY c m w=((AE c i).1,m,(AE c i).2):=by
     unfold CY;rw[<- hi,if_neg (by simp[hv]),if_neg (by simp[hp,hp]),if_neg hl3,if_neg hs3]
    have hL:=KW c i hc hv (by omega);unfold GN at hL;rw[hE];generalize AE c i=Z at *;refine sZ func179 ntmps179 ?_;exact Dg (qX5 (hf) (hd) (GW i.op) (kernel_ok c hc) (hL)) trivial (kX3 @hp @hp @BB.eq_1)
 rw[if_pos hk];refine sZ func179 ntmps179 ?_;exact Dg (qX2 (hf) (EC c k c.pc hc)) trivial (kX2 @hk @BB.eq_1)
end Go.Proofs.YtjkmhmepljamoaaGreat
end
