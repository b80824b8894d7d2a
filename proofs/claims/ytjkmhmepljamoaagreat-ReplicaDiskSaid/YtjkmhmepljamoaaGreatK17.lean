/- A part of the proof of ReplicaDisk. -/
import Derived.Test.YtjkmhmepljamoaaGreatK08
set_option linter.all false
set_option maxHeartbeats 16000000
set_option maxRecDepth 100000
section
namespace Go.Proofs.YtjkmhmepljamoaaGreat
open Go.Ab Go.RowKit Tryz
theorem Es{C D E G:Prop}(c:C)(d:D)(e:E)(t:C->D->E->G:=by intro c d e;(refine af1 e ?_;intros;apply wr);repeat' ((first|(refine AB rfl (fun h=>?_) (fun h=>?_)<;>(first|(simp[e]at h;done)|(simp[e]at h)|skip)<;>(first|(exfalso;omega)|skip))|((first|refine .inl ⟨1,_,d.1,?_⟩|refine⟨1,_,d.1,?_⟩);simp[C0,Cd,noX,Cx,C9,e];first|refine And.intro AQ ?_|skip)|((first|refine .inl ⟨1,_,d.2.1,?_⟩|refine⟨1,_,d.2.1,?_⟩);simp[C0,Cd,noX,Cx,C9,e];first|refine And.intro AQ ?_|skip)|refine cc1 c.1 e ?_|refine cc1 c.2.1 e ?_|refine cc1 c.2.2.1 e ?_|refine cc1 c.2.2.2.1 e ?_|refine cc1 c.2.2.2.2.1 e ?_|refine cc1 c.2.2.2.2.2.1 e ?_|(refine AD (rid:=9) 7 [0,1,0,4,3,19,63] [(6,([[],[0],[],[2],[0,1],[0,1,4]],[(3,1)])),(1,([],[]))] ?_)|(refine AD (rid:=10) 10 [0,1,0,0,8,0,60,127,255,511] [(7,([[],[0],[],[],[3],[],[2,3,4,5]],[(1,6)])),(1,([],[])),(1,([],[])),(1,([],[]))] ?_)|exact rt1 e|fail)<;>(refine af1 e ?_;intros;apply wr))):G:=t c d e
theorem Jl{l:List Int}{root va acc a e:Int}(h:F4 l root va acc=some (a,e))(hr:W32 root)(hv:W32 va):AS l e 4=true/\W32 e/\W32 a/\a/128<pagesD l/\a%128=va%128:=by
 unfold F4 at h;split at h
 ·rename_i q;obtain⟨q1,q2,q3,q4⟩:=q;injection h with h;injection h with ha he;subst ha he;have:=Ad l;have h0:=hr.1;have h1:=hv.1;refine⟨IT q2 h0 q1 h1,⟨by omega,by omega⟩,⟨by omega,by omega⟩,by omega,by omega⟩
 cases h
theorem fR{l:List Int}{e acc:Int}(h:OkW l):OkW (EI l e acc):=by
 unfold EI;refine eZ h ?_;unfold Km;split<;>(unfold ior;rw[IntKind.wrap_u32];constructor<;>omega)
theorem V2(l:List Int)(e acc:Int):(EI l e acc).length=l.length:=by simp[EI]
theorem CG{c:CpuD}{l:List Int}{va s acc:Int}(h:OkW l):OkW (AG c l va s acc).2.1:=by
 unfold AG;split
 ·exact h
 split
 ·split
  ·exact h
  exact fR h
 split<;>exact h
theorem BO(c:CpuD)(l:List Int)(va s acc:Int):(AG c l va s acc).2.1.length=l.length:=by
 unfold AG;split
 ·rfl
 split
 ·split
  ·rfl
  exact V2 _ _ _
 split<;>rfl
theorem Cp{l l':List Int}(h:l.length=l'.length):pagesD l=pagesD l':=by unfold pagesD;rw[h]
theorem BW{l l':List Int}(h:l.length=l'.length)(a s:Int):AS l a s=AS l' a s:=by unfold AS;rw[Cp h]
theorem C5{c:CpuD}{l:List Int}{va s acc:Int}(hs:s=1\/s=4)(ha:0<acc+3)(hc:OkC c)(hv:W32 va)(h:(AG c l va s acc).2.2=0):AS l (AG c l va s acc).1 s=true/\W32 (AG c l va s acc).1:=by
 unfold AG at h ⊢;split at h
 ·simp at h
 rename_i h1;rw[if_neg h1];split at h
 ·rename_i h2;rw[if_pos h2];split at h
  ·simp at h;omega
  rename_i a e q;obtain⟨f1,f2,f3,f4,f5⟩:=Jl q (hc.csr 6) hv;refine⟨?_,f3⟩;unfold AS;simp only[gX,Bool.or_eq_true,decide_eq_true_eq];rcases hs with rfl|rfl<;>omega
 rename_i h2;rw[if_neg h2];split at h
 ·rename_i h3;rw[if_pos h3];exact⟨h3,hv⟩
 simp at h;omega
theorem Hb(c:CpuD)(l:List Int)(va s acc:Int)(hs:s=1\/s=4)(ha:acc=1\/acc=2\/acc=3)(hc:OkC c)(hv:W32 va)(hl:OkW l)(hb:l.length<=100000):
  AC prog 296 [.st c.row,DO l,uv va,iv s,iv acc] (.tup [uv (AG c l va s acc).1,DO (AG c l va s acc).2.1,iv (AG c l va s acc).2.2]):=by
 have c4:=iand4 (hc.csr 0);have m4:va.tmod s=va%s:=Int.tmod_eq_emod_of_nonneg hv.1;have ws:IntKind.u32.wrap s=s:=by rcases hs with rfl|rfl<;>decide
 have s0:¬s=0:=by rcases hs with rfl|rfl<;>decide
 have sx:¬s=1->s=4:=by rcases hs with rfl|rfl<;>simp
 have hcl:=DL (ints .u32 l) false 1 (.inl rfl) (by rw[AN];exact hb);by_cases h1:va%s=0
 ·by_cases h2:FU c=true
  ·have p1:c.csr 0%2=0:=by unfold FU at h2;simp at h2;exact h2.1
   have p2:c.csr 0/4%2=1:=by unfold FU at h2;simp at h2;exact h2.2
   have hw:=fZ l (c.csr 6) va acc (hc.csr 6) hv ha;cases q:F4 l (c.csr 6) va acc with
   | none =>
    have e:AG c l va s acc=(0,l,acc+3):=by unfold AG;rw[nG,if_pos h2,q]
    rw[show Cl l (c.csr 6) va acc=.st [uv 0,uv 0,iv (acc+3)] by unfold Cl;rw[q]]at hw;rw[e];have n3:¬acc+3=0:=by omega
    refine sZ func296 ntmps296 ?_;exact Es (qX4 (Cz acc ha) (kernel_ok c hc) (hw) (hcl)) trivial (kX9 @c4 @m4 @ws @s0 @sx @h1 @p1 @p2 @n3)
   | some w =>
    obtain⟨a,e⟩:=w;obtain⟨f1,f2,f3,f4,f5⟩:=Jl q (hc.csr 6) hv;have e':AG c l va s acc=(a,EI l e acc,0):=by unfold AG;rw[nG,if_pos h2,q]
    rw[show Cl l (c.csr 6) va acc=.st [uv a,uv e,iv 0] by unfold Cl;rw[q]]at hw;rw[e'];have ht:=Y7 l e acc f1 f2 hl hb;refine sZ func296 ntmps296 ?_;exact Es (qX4 (Cz acc ha) (kernel_ok c hc) (hw) (ht)) trivial (kX8 @c4 @m4 @ws @s0 @sx @h1 @p1 @p2)
  have p:c.csr 0%2=0->¬c.csr 0/4%2=1:=by
   intro p1 p2;apply h2;unfold FU;simp[p1,p2]
  have p':c.csr 0%2=0->c.csr 0/4%2=0:=fun z=>by have:=p z;omega
  have hL:=Gj l va s hs hv;cases h3:AS l va s with
  | true =>
   have e:AG c l va s acc=(va,l,0):=by unfold AG;rw[nG,if_neg h2,if_pos h3]
   rw[e];rw[h3]at hL;by_cases p1:c.csr 0%2=0
   ·have p2:=p' p1;refine sZ func296 ntmps296 ?_;exact Es (qX4 (Cz acc ha) (kernel_ok c hc) (hL) (hcl)) trivial (kX8 @c4 @m4 @ws @s0 @sx @h1 @p1 @p2)
   refine sZ func296 ntmps296 ?_;exact Es (qX4 (Cz acc ha) (kernel_ok c hc) (hL) (hcl)) trivial (kX7 @c4 @m4 @ws @s0 @sx @h1 @p1)
  | false =>
   have e:AG c l va s acc=(0,l,acc+3):=by unfold AG;rw[nG,if_neg h2,if_neg (by simp[h3])]
   rw[e];rw[h3]at hL;by_cases p1:c.csr 0%2=0
   ·have p2:=p' p1;refine sZ func296 ntmps296 ?_;exact Es (qX4 (Cz acc ha) (kernel_ok c hc) (hL) (hcl)) trivial (kX8 @c4 @m4 @ws @s0 @sx @h1 @p1 @p2)
   refine sZ func296 ntmps296 ?_;exact Es (qX4 (Cz acc ha) (kernel_ok c hc) (hL) (hcl)) trivial (kX7 @c4 @m4 @ws @s0 @sx @h1 @p1)
 have e:AG c l va s acc=(0,l,3):=by unfold AG;rw[if_pos h1]
 rw[e];refine sZ func296 ntmps296 ?_;exact Es (qX2 (Cz acc ha) (hcl)) trivial (kX5 @m4 @ws @s0 @sx @h1)
def Mb(c:CpuD)(l:List Int):Int×List Int×Int :=
 (if(AG c l c.pc 4 1).2.2=0 then wAt (AG c l c.pc 4 1).2.1 ((AG c l c.pc 4 1).1/4)else 0,(AG c l c.pc 4 1).2.1,(AG c l c.pc 4 1).2.2)
theorem Wi(c:CpuD)(l:List Int)(hc:OkC c)(hl:OkW l)(hb:l.length<=100000):
  AC prog 234 [.st c.row,DO l] (.tup [uv (Mb c l).1,DO (Mb c l).2.1,iv (Mb c l).2.2]):=by
 have hr:=Hb c l c.pc 4 1 (.inr rfl) (.inl rfl) hc hc.pc hl hb;have hi:=C5 (c:=c) (l:=l) (va:=c.pc) (s:=4) (acc:=1) (.inr rfl) (by decide) hc hc.pc;have hn:=BO c l c.pc 4 1;unfold Mb;generalize AG c l c.pc 4 1=R at *;obtain⟨a,m,k⟩:=R;simp only at hr hi hn ⊢;by_cases hk:k=0
 ·obtain⟨i1,i2⟩:=hi hk;have hL:=Gj m a 4 (.inr rfl) i2;rw[BW hn,i1]at hL;simp only[if_true]at hL;rw[show Bw m a 4=wAt m (a/4) by simp[Bw]]at hL;refine sZ func234 ntmps234 ?_;exact wx1 (qX2 (hr) (hL)) trivial @hk
 refine sZ func234 ntmps234 ?_;exact wx1 (qX1 (hr)) trivial @hk
end Go.Proofs.YtjkmhmepljamoaaGreat
end
