/- A part of the proof of ReplicaDisk. -/
import Derived.Test.YtjkmhmepljamoaaGreatK02
import Derived.Below
import Derived.ChangeArms
import Derived.ChangeOld
import Derived.ChangeSlices
import Derived.DataElems
import Derived.DataReads
import Derived.DataShut
import Derived.Lib.SmallJoins
import Derived.OpenShut
import Derived.OwnWalkIn
import Derived.ProofKit
import Derived.ShutString
import Derived.SliceStrings
import Derived.TacticsIn
import Derived.WalkKit
set_option linter.all false
set_option maxHeartbeats 16000000
set_option maxRecDepth 100000
section
namespace Go.Ab
open Go.RowKit
section
variable {P:Program}
end
end Go.Ab
namespace Go.Ab
open Go.RowKit
theorem Yx(A B:Nat->Bool)(T:List (Nat×V))(t:Nat):∀(l:List HI)(i:Nat),(∀j,j<l.length->A (i+j)=true->B (i+j)=true)->lkT (eT A i l++T) t=.poi\/lkT (eT A i l++T) t=lkT (eT B i l++T) t
 | [],i,_=>.inr rfl
 | x::l,i,h=>by
  have ih:=Yx A B T t l (i+1) (fun j hj hA=>by
   have:=h (j+1) (by simpa using hj) (by rw[show i+(j+1)=i+1+j by omega];exact hA);rwa[show i+(j+1)=i+1+j by omega]at this)
  simp only[eT];cases x.dst with
  | none=>simpa using ih
  | some d =>
   simp only[iT,jA,lkT];split
   ·cases hA:A i with
    | false=>exact .inl rfl
    | true =>
     have hB:=h 0 (by simp) (by simpa using hA);simp only[Nat.add_zero]at hB;rw[hB];exact .inr rfl
   exact ih
theorem OD(A B:Nat->Bool):∀(l:List HI)(i:Nat),(∀j,j<l.length->A (i+j)=B (i+j))->eT A i l=eT B i l
 | [],i,_=>rfl
 | x::l,i,h=>by
  have h0:=h 0 (by simp);simp only[Nat.add_zero]at h0;simp only[eT,h0];rw[OD A B l (i+1) (fun j hj=>by
   have:=h (j+1) (by simpa using hj);rwa[show i+(j+1)=i+1+j by omega]at this)]
theorem Yw[Glo](L:Nat->Bool)(T:List (Nat×V))(t:Nat){k:Nat}{x:HI}:∀(l:List HI)(i:Nat),i<=k->l[k-i]? =some x->(l.filterMap (·.dst)).Nodup ->
  lkT (eT (fun j=>decide (j=k)||L j) i l++T) t=.poi\/lkT (eT (fun j=>decide (j=k)||L j) i l++T) t=(match x.dst with|some d=>lkT ((d,x.v)::(eT L i l++T)) t|none=>lkT (eT L i l++T) t)
 | [],i,_,h,_=>by simp at h
 | y::l,i,hik,h,hn=>by
  by_cases he:i=k
  ·subst he;simp only[Nat.sub_self,iS,gQ]at h;subst h;have hrest:eT (fun j=>decide (j=i)||L j) (i+1) l=eT L (i+1) l:=OD _ _ l (i+1) (fun j _=>by simp;omega);simp only[eT,hrest];cases y.dst with
   | none=>exact .inr rfl
   | some d =>
    refine .inr ?_;simp only[iT,jA,lkT,decide_true,Bool.true_or,cond_true];split<;>simp_all
  have hlt:i+1<=k:=by omega
  have hx:l[k-(i+1)]? =some x:=by
   rw[show k-i=(k-(i+1))+1 by omega]at h;simpa using h
  have hn':(l.filterMap (·.dst)).Nodup:=by
   cases hd:y.dst with
   | none=>simpa[List.filterMap_cons,hd]using hn
   | some d=>rw[List.filterMap_cons,hd]at hn;exact(List.nodup_cons.1 hn).2
  have ih:=Yw L T t l (i+1) hlt hx hn';have hdec:(decide (i=k)||L i)=L i:=by simp[he]
  simp only[eT,hdec];cases hd:y.dst with
  | none=>simpa using ih
  | some d =>
   simp only[iT,jA];cases hxd:x.dst with
   | none =>
    rw[hxd]at ih;simp only[lkT]at ih ⊢;split
    ·exact .inr rfl
    exact ih
   | some d' =>
    have hne:d'≠d:=fun e=>by
     rw[List.filterMap_cons,hd]at hn;exact(List.nodup_cons.1 hn).1 (List.mem_filterMap.2 ⟨x,g9 hx,by rw[hxd,e]⟩)
    rw[hxd]at ih;simp only[lkT]at ih ⊢;by_cases h1:t=d
    ·subst h1;rw[if_pos rfl,if_neg (fun e=>hne e.symm),if_pos rfl];exact .inr rfl
    rw[if_neg h1];by_cases h2:t=d'
    ·rw[if_pos h2]at ih ⊢;exact ih
    rw[if_neg h2]at ih;rw[if_neg h2,if_neg h1];exact ih
theorem TD(L:Nat->Bool):∀(l:List HI)(i:Nat)(b:List (Nat×Option Ob)×Nat),eO L i l b=b\/∃j x,l[j]? =some x/\x.eff=true/\L (i+j)=true/\(eO L i l b).1=x.ob/\(eO L i l b).2=x.nx
 | [],i,b=>.inl rfl
 | x::l,i,b=>by
  simp only[eO];rcases TD L l (i+1) (bif x.eff&&L i then(x.ob,x.nx)else b)with h|⟨j,y,h1,h2,h3,h4,h5⟩
  ·cases hc:(x.eff&&L i)with
   | false=>rw[hc]at h;exact .inl (by simpa using h)
   | true =>
    rw[hc]at h;simp only[cond_true]at h ⊢;simp only[gX]at hc;exact .inr ⟨0,x,rfl,hc.1,by simpa using hc.2,by rw[h],by rw[h]⟩
  exact .inr ⟨j+1,y,by simpa using h1,h2,by rw[show i+(j+1)=i+1+j by omega];exact h3,h4,h5⟩
theorem OC[Glo](L:Nat->Bool){k:Nat}{x:HI}(hx:x.eff=true)(hk:L k=true):∀(l:List HI)(i:Nat)(b:List (Nat×Option Ob)×Nat),i<=k->l[k-i]? =some x->(∀j y,l[j]? =some y->k<i+j->y.eff=true->L (i+j)=false)->eO L i l b=(x.ob,x.nx)
 | [],i,b,_,h,_=>by simp at h
 | y::l,i,b,hik,h,hno=>by
  by_cases he:i=k
  ·subst he;simp only[Nat.sub_self,iS,gQ]at h;subst h;simp only[eO,hx,hk,Bool.and_self,cond_true];rcases TD L l (i+1) (y.ob,y.nx)with h|⟨j,z,h1,h2,h3,_⟩
   ·exact h
   have:=hno (j+1) z (by simpa using h1) (by omega) h2;rw[show i+(j+1)=i+1+j by omega]at this;rw[this]at h3;cases h3
  simp only[eO];refine OC L hx hk l (i+1) _ (by omega) (by
   rw[show k-i=(k-(i+1))+1 by omega]at h;simpa using h) (fun j z hz hlt he'=>?_)
  have:=hno (j+1) z (by simpa using hz) (by omega) he';rwa[show i+(j+1)=i+1+j by omega]at this
theorem LC(L:Nat->Bool):∀(l:List HI)(i:Nat)(b:List (Nat×Option Ob)×Nat),(eO L i l b=b/\∀j x,l[j]? =some x->x.eff=true->L (i+j)=false) \/
  ∃j x,l[j]? =some x/\x.eff=true/\L (i+j)=true/\(∀j' y,j<j'->l[j']? =some y->y.eff=true->L (i+j')=false)/\eO L i l b=(x.ob,x.nx)
 | [],i,b=>.inl ⟨rfl,fun j x h=>by simp at h⟩
 | x::l,i,b=>by
  simp only[eO];rcases LC L l (i+1) (bif x.eff&&L i then(x.ob,x.nx)else b)with⟨h1,h2⟩|⟨j,y,h1,h2,h3,h4,h5⟩
  ·have hlater:∀j' y,0<j'->(x::l)[j']? =some y->y.eff=true->L (i+j')=false:=fun j' y hj hy he=>by
    obtain⟨k,rfl⟩:∃k,j'=k+1:=⟨j'-1,by omega⟩;have:=h2 k y (by simpa using hy) he;rwa[show i+1+k=i+(k+1) by omega]at this
   cases hc:(x.eff&&L i)with
   | false =>
    rw[hc]at h1;refine .inl ⟨by simpa using h1,fun j y hy he=>?_⟩;cases j with
    | zero=>simp at hy;subst hy;simpa[he]using hc
    | succ k=>exact hlater (k+1) y (by omega) hy he
   | true =>
    rw[hc]at h1;simp only[gX]at hc;exact .inr ⟨0,x,rfl,hc.1,by simpa using hc.2,hlater,by simpa using h1⟩
  refine .inr ⟨j+1,y,by simpa using h1,h2,by rw[show i+(j+1)=i+1+j by omega];exact h3,fun j' z hj hz he=>?_,h5⟩;obtain⟨k,rfl⟩:∃k,j'=k+1:=⟨j'-1,by omega⟩;have:=h4 k z (by omega) (by simpa using hz) he;rwa[show i+1+k=i+(k+1) by omega]at this
theorem aT[Glo](L:Nat->Bool)(l:List HI)(i:Nat)(b:List (Nat×Option Ob)×Nat)(h:∀j x,l[j]? =some x->x.eff=true->L (i+j)=false):eO L i l b=b:=by
 rcases LC L l i b with⟨h1,_⟩|⟨j,x,h1,h2,h3,_⟩
 ·exact h1
 rw[h j x h1 h2]at h3;cases h3
section
variable {P:Program} {base:Nat} {Xa:Nat->Prop} {w0:W0} {w w':World} {st:St} {a:Act} {M M':Mp} {X X':Nat->Prop} {n n':Nat}
theorem RelM.weakT[Glo](h:RelM base Xa w0 st a w M){T:List (Nat×V)}(hT:∀t,lkT T t=.poi\/lkT T t=lkT st.tmp t):RelM base Xa w0 {st with tmp:=T} a w M :=
 ⟨h.below,h.hbase,h.xa,h.gh,h.pin,h.defers,h.size,fun t=>by
  rcases hT t with e|e
  ·simp only[e];exact .poi _ _
  simp only[e];exact h.tmps t,h.obs,h.dist⟩
theorem JC[Glo]{s S:St}(hT:∀t,lkT s.tmp t=.poi\/lkT s.tmp t=lkT S.tmp t)(x:Operand)(h:Mt (ev s x)=false):ev s x=ev S x:=by
 cases x with
 | tmp t =>
  rcases hT t with e|e
  ·simp only[ev,e,Mt]at h;cases h
  exact e
 | _=>rfl
theorem Nt{v:V}{cs:List V}(h:Ez v=some cs):Mt v=false:=by cases v<;>first|rfl|(simp[Ez]at h)
theorem KX[Glo]{s S:St}(hT:∀t,lkT s.tmp t=.poi\/lkT s.tmp t=lkT S.tmp t)(place:Nat->Option (Nat×Nat)):∀(parts:List (Nat×Operand))(cs cs':List V),EO s place cs parts=some cs'->EO S place cs parts=some cs'
 | [],cs,cs',h=>h
 | (i,x)::r,cs,cs',h=>by
  simp only[EO]at h ⊢;split at h
  ·exact h
  rename_i off m hp;split at h
  ·rename_i ds hds;rw[<- JC hT x (Nt hds),hds];simp only;split at h
   ·rename_i hc;rw[if_pos hc];exact KX hT place r _ cs' h
   simp at h
  simp at h
theorem RF[Glo]{o:Oper}{s S:St}{K:V->List (Nat×Option Ob)->Nat->Prop}(h:LD P o s K)(hT:∀t,lkT s.tmp t=.poi\/lkT s.tmp t=lkT S.tmp t)(hob:s.ob=S.ob)(hnx:s.nx=S.nx):LD P o S K:=by
 unfold LD at h ⊢;split at h
 ·rw[<- hob,<- hnx];exact h
 ·rename_i t x ho;split at h
  ·rename_i cs hc;rw[<- JC hT x (Nt hc),hc,<- hob,<- hnx];exact h
  exact h.elim
 ·rename_i t x y ho;split at h
  ·rename_i m ag id sz i off ds hty hx hy;rw[<- JC hT x (by rw[hx];rfl),hx,<- JC hT y (Nt hy),hy,hty,<- hob,<- hnx];exact h
  exact h.elim
 ·rename_i t len parts ho;split at h
  ·rename_i e sz bb hsl;split at h
   ·rename_i zs hz;split at h
    ·rename_i cs hf;simp only[KX hT _ _ _ _ hf];rw[<- hob,<- hnx];exact h
    exact h.elim
   exact h.elim
  exact h.elim
 ·rename_i c ho;split at h
  ·rename_i f hcal;split at h
   ·rename_i fid hf;obtain⟨hp,h⟩:=h;have hf':ev S f=.fn fid:=by rw[<- JC hT f (by rw[hf];rfl)];exact hf
    have hargs:c.args.toList.map (ev s)=c.args.toList.map (ev S):=List.map_congr_left fun y hy=>JC hT y (by
     have:=List.all_eq_true.1 hp y hy;simpa using this)
    have hp':(c.args.toList.all fun x=>!Mt (ev S x))=true:=by
     rw[List.all_eq_true]at hp ⊢;intro y hy;have:=hp y hy;rw[<- JC hT y (by simpa using this)];exact this
    rw[hf'];simp only;refine⟨hp',?_⟩;rw[<- hargs,<- hob];obtain⟨hg,nf,r,hm,ha⟩:=h;refine⟨hg,nf,r,hm,?_⟩;cases nf<;>simp only[Cd]at ha ⊢<;>rw[<- hob,<- hnx]<;>exact ha
   exact h.elim
  ·split at h
   ·rename_i x y t t' hargs htys;obtain⟨ht,h⟩:=h;refine⟨ht,?_⟩;unfold Zz at h;split at h
    ·rename_i e sz bb hsl;split at h
     ·rename_i p ys hsrc;have hy:ev s y=ev S y:=JC hT y (by cases hv:ev s y<;>first|rfl|(rw[hv]at hsrc;simp[YR]at hsrc));have hx:ev s x=ev S x:=JC hT x (by cases hv:ev s x<;>first|rfl|(rw[hv]at h;exact h.2.elim));have hsrc':YR S sz (ev S y)=some (p,ys):=by
       rw[<- hy,<- hsrc];unfold YR;rw[<- hob]
      unfold Zz;rw[hsl];simp only[hsrc'];rw[<- hx,<- hy,<- hob,<- hnx];exact h
     exact h.elim
    exact h.elim
   exact h.elim
  exact h.elim
 exact h.elim
theorem O0[Glo]{o:Oper}{K:St->Prop}(h:LD P o st fun v ob nx=>K ({st with nx:=nx,ob:=ob}.put o.dst v)):opV P o K st:=by
 unfold LD at h;split at h
 ·rename_i t ho;unfold opV;simp only[ho,pv];exact h
 ·rename_i t x ho;unfold opV;simp only[ho,pv];exact h
 ·rename_i t x y ho;unfold opV;simp only[ho,pv];exact h
 ·rename_i t len parts ho;unfold opV;simp only[ho,pv];exact h
 ·rename_i c ho;obtain⟨callee,args,tys⟩:=c;split at h
  ·rename_i f hcal;simp only at hcal;subst hcal;unfold opV;simp only[ho,pv];split at h
   ·rename_i fid hf;obtain⟨hp,hg,nf,r,hm,ha⟩:=h;unfold Qw;simp only[hf];refine⟨hg,.inl ⟨nf,r,hm,?_⟩⟩;cases nf<;>exact ha
   exact h.elim
  ·rename_i hcal;simp only at hcal;subst hcal;split at h
   ·rename_i x y t t' hargs htys;simp only at hargs htys;unfold opV;simp only[ho,pv,bv,hargs,htys];obtain⟨ht,h⟩:=h;rw[if_pos ht];unfold Zz at h;unfold appV;split at h
    ·rename_i e sz bb hsl;split at h
     ·rename_i p ys hsrc;simp only[hsl,hsrc];exact h
     exact h.elim
    exact h.elim
   exact h.elim
  exact h.elim
 exact h.elim
theorem M4[Glo]{o:Oper}{s S:St}{x:HI}{QC:Exit->Act->World->Prop}(h:LD P o s fun v ob nx=>v=x.v/\ob=x.ob/\nx=x.nx)(hT:∀t,lkT s.tmp t=.poi\/lkT s.tmp t=lkT S.tmp t)(hob:s.ob=S.ob)(hnx:s.nx=S.nx)
  (hok:okO P S.n o=true) (hR:RelM base Xa w0 S a w M):o.wp P a w (Nx base Xa w0 S.n (fun st'=>st'={S with nx:=x.nx,ob:=x.ob}.put o.dst x.v)) QC :=
 Gq (O0 (FD (RF h hT hob hnx) fun v ob nx ⟨h1,h2,h3⟩=>by rw[h1,h2,h3])) hok hR
theorem OH[Glo]{o:Oper}{s S:St}{x:HI}{b want:Bool}{QC:Exit->Act->World->Prop}(h:FM P o b want s fun v ob nx=>v=x.v/\ob=x.ob/\nx=x.nx)(hT:∀t,lkT s.tmp t=.poi\/lkT s.tmp t=lkT S.tmp t)(hob:s.ob=S.ob)(hnx:s.nx=S.nx)
  (hok:okO P S.n o=true) (hR:RelM base Xa w0 S a w M):if(b==want)=true then o.wp P a w (Nx base Xa w0 S.n (fun st'=>st'={S with nx:=x.nx,ob:=x.ob}.put o.dst x.v)) QC
   else Nx base Xa w0 S.n (fun st'=>st'={S with nx:=x.nx,ob:=x.ob}.put o.dst x.v) (a.put o.dst undef) w:=by
 have hd:∀d,o.dst=some d->d<S.n:=fun d hd=>by
  unfold okO at hok;simp only[hd,gX,decide_eq_true_eq]at hok;exact hok.1
 rcases h with h|⟨r,h⟩
 ·split
  ·rename_i hbw;exact M4 (h.1 (by simpa using hbw)) hT hob hnx hok hR
  rename_i hbw;obtain⟨h1,h2,h3⟩:=h.2 (by cases b<;>cases want<;>simp_all);rw[<- h1,<- h2,<- h3,hob,hnx];exact Nx.of rfl (hR.put hd (.poi _ _)) rfl
 refine N6 (r:=r) ?_ hd hR;unfold uniE at h;split at h
 ·rename_i c ho;split at h
  ·rename_i f hcal;split at h
   ·rename_i fid hf;obtain⟨hp,hm,hobs,h1,h2,h3⟩:=h;have hf':ev S f=.fn fid:=by rw[<- JC hT f (by rw[hf];rfl)];exact hf
    have hargs:c.args.toList.map (ev s)=c.args.toList.map (ev S):=List.map_congr_left fun y hy=>JC hT y (by
     have:=List.all_eq_true.1 hp y hy;simpa using this)
    unfold uniV;simp only[ho,hcal,hf'];rw[hargs,hob]at hm h2;rw[hnx]at hobs h1 h3;exact⟨hm,hobs,by rw[<- h1,<- h2,<- h3]⟩
   exact h.elim
  exact h.elim
 exact h.elim
theorem HU[Glo]{o:Oper}{s:St}{K:V->List (Nat×Option Ob)->Nat->Prop}(h:LD P o s K):isEff o.op=true:=by
 unfold LD at h;split at h
 ·rename_i ho;rw[ho];rfl
 ·rename_i ho;rw[ho];rfl
 ·rename_i ho;rw[ho];rfl
 ·rename_i ho;rw[ho];rfl
 ·rename_i c ho;split at h
  ·rename_i hc;rw[ho];simp only[isEff,hc]
  ·rename_i hc;rw[ho];simp only[isEff,hc]
  exact h.elim
 exact h.elim
theorem Kr[Glo]{ops:List (Option Tmp)}{o:Oper}{s:St}{x:HI}(h:SF P ops o s x)(hx:x.eff=true):isEff o.op=true:=by
 obtain⟨_,h⟩:=h;unfold hstep at h;split at h
 ·split at h
  ·obtain⟨_,h,_⟩:=h;rw[hx]at h;cases h
  exact HU h
 split at h
 ·split at h
  ·split at h
   ·obtain⟨_,h,_⟩:=h;rw[hx]at h;cases h
   exact h.1
  exact h.elim
 exact h.elim
end
end Go.Ab
namespace Go.Ab
open Go.RowKit
section
variable {P:Program} {base:Nat} {Xa:Nat->Prop} {w0:W0} {w w':World} {st:St} {a:Act} {M M':Mp} {X X':Nat->Prop} {n n':Nat}
theorem Mq[Glo]{o:Oper}{p:Prop}{v:V}{N:Nat}(h:hpv P st o.op=some (p,v))(hp:p)(hR:RelX base st a w M X N)(hcv:∀s d x,o.op=.convert s d x->(P.underlying s).isSome=true):
  ∃u,(execOp a.eval o).run P w=.ok (.value u) w/\R M w (X) N v u:=by
 unfold hpv at h;split at h
 ·rename_i t parts ho;split at h
  ·rename_i zs hz;split at h
   ·rename_i cs hf;simp only[gQ,Prod.mk.injEq]at h;obtain⟨rfl,rfl⟩:=h;obtain⟨arr,h1,h2⟩:=MN hz hf hp hR;refine⟨.agg arr,?_,.st _ _ _ (by rw[h2.len];simp) (fun u hu=>h2.one u (by simpa using hu)) (fun j u hu=>?_)⟩
    ·simp[execOp,ho,h1]
    have:=h2.rel j u hu;simpa[gZ,gP]using this
   simp at h
  simp at h
 ·rename_i t x lo hi mx ho;split at h
  ·rename_i id hx;split at h
   ·rename_i b e sz bb l hh hb hs hlo hhi hmx;simp only[gQ,Prod.mk.injEq]at h;obtain⟨rfl,rfl⟩:=h;obtain⟨p0,rfl,p1,p2,p3,p4⟩:=hp;have hxR:=CU hR x;rw[hx]at hxR;obtain⟨hid,hv⟩:=Ik hxR;obtain⟨hid',hok⟩:=hR.obs id b hb;obtain⟨vals,hrow,_,_⟩:=hok.row;rcases hrow.sl (EJ hxR)with⟨_,h2⟩|⟨g,O,cap,cur,hval,_,_,hnc,_⟩
    ·exact absurd (iF h2) p1
    obtain⟨inf,zz,hund,hinf,_,_,hisz,_,hpos⟩:=Bd hs;have hxe:a.eval x=.slice (some ⟨g,O,none⟩) b.xs.length cap:=by rw[<- hv,hval]
    have sb:∀(k:IntKind)(i:Int)(y:Nat)(code:BoundsCode),0<=i->i<=y->(Instr.sliceBound (.int k i) y code).run P w=.ok i.toNat w:=fun k i y code h1 h2=>by
     simp[Instr.sliceBound,asIntOf,h1,h2]
    have hbd:(Instr.sliceBounds true b.xs.length cap (lo.map a.eval) (hi.map a.eval) (mx.map a.eval)).run P w=.ok ((l.getD 0).toNat,(hh.getD b.xs.length).toNat,cap) w:=by
     rcases CS hmx hR with⟨_,e3⟩|⟨k3,i3,h3,_⟩
     ·rw[e3];rcases CS hlo hR with⟨rfl,e1⟩|⟨k1,i1,rfl,e1⟩<;>rcases CS hhi hR with⟨rfl,e2⟩|⟨k2,i2,rfl,e2⟩<;>rw[e1,e2]<;>simp only[Option.getD_none,Option.getD_some]at p2 p3 p4 ⊢
      ·simp[Instr.sliceBounds]
      ·have:=sb k2 i2 cap .sliceAcap (by omega) (by omega);simp[Instr.sliceBounds,this]
      ·have:=sb k1 i1 b.xs.length .sliceB (by omega) (by omega);simp[Instr.sliceBounds,this]
      have h2:=sb k2 i2 cap .sliceAcap (by omega) (by omega);have h1:=sb k1 i1 i2.toNat .sliceB (by omega) (by omega);simp[Instr.sliceBounds,h1,h2]
     simp at h3
    have hlit:∀j,(⟨g,O,none⟩:Addr).add j=⟨g,O+j,none⟩:=fun j=>Addr.add_lit _ _ _;refine⟨_,?_,.part _ id b.sz (l.getD 0).toNat ((hh.getD b.xs.length).toNat-(l.getD 0).toNat) g O b.xs.length cap hid hval (by omega)⟩;rw[execOp];simp only[ho,hxe,Instr.sliceAt,Instr.slice,Sem.run_bind,run_underlying hund,Result.andThen_ok,hbd,sizeOf,typeInfo,hinf,hisz];by_cases hc:cap=(l.getD 0).toNat
    ·simp[hc,hinf,hisz]
    simp[hc,hlit,hinf,hisz]
   simp at h
  exact I9 (o:=o) (by rw[ho];exact h) hp hR hcv
 ·rename_i t m k ok ho;split at h
  ·rename_i sz ag z q id hm hk hem;split at h
   ·rename_i b hb;simp only[gQ,Prod.mk.injEq]at h;obtain⟨rfl,rfl⟩:=h;obtain⟨rfl,p2⟩:=hp;have hkv:=CU hR k;rw[hk]at hkv;have hke:=Ea hkv;have hmv:=CU hR m;rw[hem]at hmv;obtain⟨g,es,clk,hue,_,_,hg,_,hmo,hE,_⟩:=K7 hR hb hmv;obtain⟨u,h1,h2⟩:=LU hm hg hE hmo p2 q ok;refine⟨u,?_,h2.mono (by split<;>omega) (fun _ _=>rfl) (fun _ h=>h) (fun _ _=>rfl)⟩;simp[execOp,ho,hke,hue,h1]
   simp at h
  simp at h
 exact I9 h hp hR hcv
theorem bY[Glo]{ops:Array Oper}{o:Oper}{s S:St}{x:HI}{QC:Exit->Act->World->Prop}(h:SF P (slotsOf ops.toList) o s x)(hT:∀t,lkT s.tmp t=.poi\/lkT s.tmp t=lkT S.tmp t)(hob:s.ob=S.ob)(hnx:s.nx=S.nx)(hok:okO P S.n o=true)(hR:RelM base Xa w0 S a w M):
  if Region.wanted o (yielded ops a.tmps)=true then o.wp P a w (Nx base Xa w0 S.n (fun st'=>st'=(bif x.eff then {S with nx:=x.nx,ob:=x.ob}else S).put o.dst x.v)) QC
   else Nx base Xa w0 S.n (fun st'=>st'=(bif x.eff then {S with nx:=x.nx,ob:=x.ob}else S).put o.dst x.v) (a.put o.dst undef) w:=by
 have hd:∀d,o.dst=some d->d<S.n:=fun d hd=>by
  unfold okO at hok;simp only[hd,gX,decide_eq_true_eq]at hok;exact hok.1
 have hcv:∀s d x,o.op=.convert s d x->(P.underlying s).isSome=true:=fun s d x h=>by
  unfold okO at hok;simp only[h,gX]at hok;exact hok.2
 have hX:RelX base s a w M (Xf base Xa w M S.ob) S.nx:=⟨fun t=>by
   rcases hT t with e|e
   ·rw[e];exact .poi _ _
   ·rw[e];exact hR.tmps t,fun id b hb=>by
   rw[hob]at hb;exact hR.obs id b hb,hR.gin⟩
 obtain⟨_,h⟩:=h;unfold hstep at h;split at h
 ·rename_i hg;rw[if_pos (by simp[Region.wanted,hg])];split at h
  ·rename_i p v hpv;obtain⟨hp,he,hv,_⟩:=h;rw[<- he,<- hv];obtain⟨u,h1,h2⟩:=Mq hpv hp hX hcv;exact AU h1 (Nx.of rfl (hR.put hd h2) rfl)
  have hE:=HU h;have hx:x.eff=true:=by
   obtain⟨v,ob,nx,hk,_⟩:=LE h;exact hk.1.symm
  rw[hx];exact M4 (FD h fun v ob nx ⟨_,h2,h3⟩=>⟨h2,h3 rfl⟩) hT hob hnx hok hR
 rename_i j want0 hg;split at h
 ·rename_i d hj;split at h
  ·rename_i b want hb;have hb':gdV (lkT S.tmp d) want0=some (b,want):=by
    rcases hT d with e|e
    ·rw[e]at hb;simp[gdV]at hb
    rw[<- e];exact hb
   rw[Jc]at hj;rw[Nc hg hj hb' hR];split at h
   ·rename_i p v hpv;obtain⟨h,he,hv,_⟩:=h;rw[<- he,<- hv];by_cases hbw:b=want
    ·rw[if_pos (by simp[hbw])];obtain⟨hp,hall⟩:=h hbw;obtain⟨u,h1,h2⟩:=Mq hpv hp (RL hX _ hall) hcv;exact AU h1 (Nx.of rfl (hR.put hd (.gd _ _ _ _ (fun _=>h2) (fun e=>by simp[hbw]at e))) rfl)
    rw[if_neg (by simpa using hbw)];exact Nx.of rfl (hR.put hd (.gd _ _ _ _ (fun h'=>absurd (by simpa using h') hbw) (fun _=>rfl))) rfl
   have hx:x.eff=true:=by
    obtain⟨v,ob,nx,hk,_⟩:=JI h.2;exact hk.1.symm
   rw[hx];exact OH (GU h.2 fun v ob nx ⟨_,h2,h3⟩=>⟨h2,h3 rfl⟩) hT hob hnx hok hR
  exact h.elim
 exact h.elim
theorem Yv(A:Nat->Bool)(T:List (Nat×V))(t:Nat):∀(l:List HI)(i:Nat),(∀j,j<l.length->A (i+j)=false)->lkT (eT A i l++T) t=.poi\/lkT (eT A i l++T) t=lkT T t
 | [],i,_=>.inr rfl
 | x::l,i,h=>by
  have ih:=Yv A T t l (i+1) (fun j hj=>by
   have:=h (j+1) (by simpa using hj);rwa[show i+(j+1)=i+1+j by omega]at this)
  have h0:=h 0 (by simp);simp only[Nat.add_zero]at h0;simp only[eT,h0,cond_false];cases x.dst with
  | none=>simpa using ih
  | some d =>
   simp only[iT,jA,lkT];split
   ·exact .inl rfl
   exact ih
end
end Go.Ab
namespace Go.Ab
open Go.RowKit
section
variable {P:Program} {ops:Array Oper} {Q:Exit->Act->World->Prop}
structure LinExt(ops:Array Oper)(m:Region.Mode)(done:Nat->Bool)(R:List Nat):Prop where
 mem:∀i∈R,i<ops.size/\done i=false
 nodup:R.Nodup
 all:∀i,i<ops.size->done i=false->i∈R
 pre:∀l1 i l2,R=l1++i::l2->∀o,ops[i]? =some o->∀e∈o.after,Region.binds m e=true->done e.on=true\/e.on∈l1
theorem Tx[Glo](m:Region.Mode)(rk:Nat->Nat)(hacyc:∀(i:Nat) (o:Oper),ops[i]? =some o->∀e∈o.after,Region.binds m e=true->e.on<ops.size/\rk e.on<rk i):
  ∀(fuel t:Nat)(listed:Array Bool),listed.size=ops.size->(List.range ops.size).countP (fun i=>!listed.getD i true)<=fuel->LinExt ops m (fun i=>listed.getD i true) (Region.linearise.go m ops fuel t listed [])
 | 0,t,listed,hsz,hf=>by
  simp only[Region.linearise.go,List.reverse_nil];refine⟨by simp,by simp,fun i hi hd=>?_,fun l1 i l2 h=>by simp at h⟩;have h0:(List.range ops.size).countP (fun i=>!listed.getD i true)=0:=by omega
  have:=List.countP_eq_zero.1 h0 i (List.mem_range.2 hi);rw[hd]at this;simp at this
 | fuel+1,t,listed,hsz,hf=>by
  rw[Region.linearise.go];generalize hrs:(List.range ops.size).filter (fun i=>!listed.getD i true&&((ops[i]?).map (·.after.all fun e=>!Region.binds m e||listed.getD e.on false)).getD false)=rs;have hmem:∀i,i∈rs↔i<ops.size/\listed.getD i true=false/\((ops[i]?).map (·.after.all fun e=>!Region.binds m e||listed.getD e.on false)).getD false=true:=fun i=>by
   rw[<- hrs,List.mem_filter,List.mem_range];simp
  split
  ·rename_i i hi;have hir:=(hmem i).1 (g9 hi);rw[Tc];simp only[List.reverse_cons,List.reverse_nil,jA,List.singleton_append];obtain⟨o,ho⟩:∃o,ops[i]? =some o:=⟨ops[i]'hir.1,i9 hir.1⟩;have hpre:∀e∈o.after,Region.binds m e=true->listed.getD e.on true=true:=fun e he hb=>by
    have h:=hir.2.2;rw[ho]at h;simp only[Option.map_some,Option.getD_some,Array.all_eq_true']at h;have:=h e he;simp only[hb,Bool.not_true,Bool.false_or]at this;have hlt:e.on<listed.size:=by
     rw[hsz];exact(hacyc i o ho e he hb).1
    simpa[Array.getD,hlt]using this
   have hset:∀j,j<ops.size->(listed.setIfInBounds i true).getD j true=(decide (j=i)||listed.getD j true):=fun j hj=>by
    simp only[gZ,Array.getElem?_setIfInBounds];by_cases e:j=i
    ·subst e;simp;split<;>rfl
    rw[nG];simp[e]
   have ih:=Tx m rk hacyc fuel (t/rs.length) (listed.setIfInBounds i true) (by simpa using hsz) (by
    have:=MV (fun j=>!listed.getD j true) (fun j=>!(listed.setIfInBounds i true).getD j true) (List.range ops.size) (fun j hj hq=>by
     rw[hset j (List.mem_range.1 hj)]at hq;simp only[Bool.not_or,gX]at hq;exact hq.2) i (List.mem_range.2 hir.1) (by simpa using hir.2.1) (by rw[hset i hir.1];simp)
    omega)
   obtain⟨q1,q2,q3,q4⟩:=ih;have hne:∀j,j<ops.size->(listed.setIfInBounds i true).getD j true=false->j≠i/\listed.getD j true=false:=fun j hj h=>by
    rw[hset j hj]at h;simpa using h
   refine⟨fun j hj=>?_,List.nodup_cons.2 ⟨fun hc=>?_,q2⟩,fun j hj hd=>?_,fun l1 j l2 h o' ho' e he hb=>?_⟩
   ·rcases List.mem_cons.1 hj with rfl|hj
    ·exact⟨hir.1,hir.2.1⟩
    obtain⟨h1,h2⟩:=q1 j hj;exact⟨h1,(hne j h1 h2).2⟩
   ·obtain⟨h1,h2⟩:=q1 i hc;exact(hne i h1 h2).1 rfl
   ·by_cases e:j=i
    ·subst e;exact g7 ..
    refine gW _ (q3 j hj ?_);rw[hset j hj];simp[e,hd]
   cases l1 with
   | nil =>
    simp only[jA,List.cons.injEq]at h;obtain⟨rfl,_⟩:=h;rw[ho]at ho';simp only[gQ]at ho';subst ho';exact .inl (hpre e he hb)
   | cons x l1 =>
    simp only[iT,List.cons.injEq]at h;obtain⟨rfl,h⟩:=h;have hlt:=(hacyc j o' ho' e he hb).1;rcases q4 l1 j l2 h o' ho' e he hb with h1|h1
    ·rw[hset _ hlt]at h1;simp only[Bool.or_eq_true,decide_eq_true_eq]at h1;rcases h1 with h1|h1
     ·exact .inr (by rw[h1];exact g7 ..)
     exact .inl h1
    exact .inr (gW _ h1)
  rename_i hnone;have hrs0:rs=[]:=by
   rcases Nat.eq_zero_or_pos rs.length with h|h
   ·exact iF h
   rw[gR (Nat.mod_lt t h)]at hnone;cases hnone
  simp only[List.reverse_nil];have key:∀(r i:Nat),rk i=r->i<ops.size->listed.getD i true=true:=fun r=>by
   induction r using Nat.strongRecOn with
   | _ r ih =>
    intro i hr hi;cases hli:listed.getD i true with
    | true=>rfl
    | false =>
     exfalso;have:i∈rs:=(hmem i).2 ⟨hi,hli,by
      rw[i9 hi];simp only[Option.map_some,Option.getD_some,Array.all_eq_true'];intro e he;cases hb:Region.binds m e with
      | false=>rfl
      | true =>
       obtain⟨hlt,hlt2⟩:=hacyc i _ (i9 hi) e he hb;have:=ih (rk e.on) (by omega) e.on rfl hlt;have hlt':e.on<listed.size:=by omega
       have h2:listed.getD e.on false=true:=by
        rw[gZ,i9 hlt']at this ⊢;exact this
       rw[h2];simp⟩
     rw[hrs0]at this;cases this
  refine⟨by simp,by simp,fun i hi hd=>?_,fun l1 i l2 h=>by simp at h⟩;have:=key _ i rfl hi;rw[this]at hd;cases hd
theorem K3[Glo](pre:Nat->Nat->Prop)(Good:(Nat->Bool)->Act->World->Prop)
  (step:∀L a w,Good L a w->∀(i:Nat)(o:Oper),ops[i]? =some o->L i=false->(∀j,pre j i->L j=true) ->
   if Region.wanted o (yielded ops a.tmps)=true then o.wp P a w (Good fun j=>decide (j=i)||L j) Q else Good (fun j=>decide (j=i)||L j) (a.put o.dst undef) w)
  (hend:∀L a w,Good L a w->(∀i,i<ops.size->L i=true)->Q .normal a w) :
  ∀(R:List Nat)(L:Nat->Bool)(a:Act)(w:World),(∀i∈R,i<ops.size/\L i=false)->R.Nodup->(∀i,i<ops.size->L i=false->i∈R) ->
   (∀l1 i l2,R=l1++i::l2->∀j,pre j i->L j=true\/j∈l1)->Good L a w->wpOps P ops Q R a w
 | [],L,a,w,_,_,hall,_,hg=>by
  simp only[wpOps];refine hend L a w hg fun i hi=>?_;cases h:L i with
  | true=>rfl
  | false=>have:=hall i hi h;simp at this
 | i::R,L,a,w,hmem,hnd,hall,hpre,hg=>by
  obtain⟨hi,hLi⟩:=hmem i (g7 ..);obtain⟨o,ho⟩:∃o,ops[i]? =some o:=⟨ops[i]'hi,i9 hi⟩;have hs:=step L a w hg i o ho hLi (fun j hj=>by
   rcases hpre [] i R rfl j hj with h|h
   ·exact h
   simp at h)
  have hnd':=List.nodup_cons.1 hnd;have next:∀a' w',Good (fun j=>decide (j=i)||L j) a' w'->wpOps P ops Q R a' w':=fun a' w' hg' =>
   K3 pre Good step hend R _ a' w' (fun j hj=>by
     refine⟨(hmem j (gW _ hj)).1,?_⟩;simp only[Bool.or_eq_false_iff,decide_eq_false_iff_not];exact⟨fun e=>hnd'.1 (e▸hj),(hmem j (gW _ hj)).2⟩) hnd'.2 (fun j hj hd=>by
     simp only[Bool.or_eq_false_iff,decide_eq_false_iff_not]at hd;rcases List.mem_cons.1 (hall j hj hd.2)with h|h
     ·exact absurd h hd.1
     ·exact h) (fun l1 j l2 h k hk=>by
     rcases hpre (i::l1) j l2 (by rw[h];rfl) k hk with h'|h'
     ·exact .inl (by simp[h'])
     rcases List.mem_cons.1 h' with rfl|h'
     ·exact .inl (by simp)
     exact .inr h') hg'
  simp only[wpOps,ho];split
  ·rename_i hw;rw[if_pos hw]at hs;exact .inl (DR hs next)
  rename_i hw;rw[if_neg hw]at hs;exact next _ _ hs
end
structure SegOk(P:Program)(n:Nat)(seg:List Oper)(prs:List (List Nat)):Prop where
 ok:∀o∈seg,okO P n o=true
 prlt:∀i j,j∈prs.getD i []->j<i
 chain:∀(i j:Nat)(o o':Oper),seg[i]? =some o->seg[j]? =some o'->isEff o.op=true->isEff o'.op=true->j<i->j∈prs.getD i []
 nodup:(seg.filterMap (·.dst)).Nodup
def usesOb:Op->Bool
 | .load _ _=>true
 | .indexAddr _ _ _=>true
 | .convert _ _ _=>true
 | .slice _ _ _ _ _=>true
 | .lookup _ _ _ _=>true
 | .call _=>true
 | _=>false
theorem ZA[Glo]{s s':St}(hT:s.tmp=s'.tmp):ev s=ev s':=by funext x;cases x<;>simp[ev,hT]
theorem P6[Glo]{s s':St}(hT:s.tmp=s'.tmp)(place:Nat->Option (Nat×Nat)):∀(parts:List (Nat×Operand))(cs:List V),EO s place cs parts=EO s' place cs parts
 | [],cs=>rfl
 | (i,x)::r,cs=>by simp only[EO,ZA hT,P6 hT place r]
theorem Tk[Glo]{P:Program}{s s':St}{op:Op}(hu:usesOb op=false)(hT:s.tmp=s'.tmp):hpv P s op=hpv P s' op:=by
 have he:=ZA hT;cases op<;>first|(simp[usesOb]at hu;done)|(simp only[hpv,pv,he];done)|(simp only[hpv,pv,he,P6 hT];done)|rfl
theorem T9{s s':St}(hT:s.tmp=s'.tmp):∀l:List Operand,(IX s l).tmp=(IX s' l).tmp
 | []=>hT
 | x::r=>by
  have ih:=T9 hT r;cases x with
  | tmp t =>
   simp only[IX,hT];split
   ·simp only[ih]
   exact ih
  | _=>simpa only[IX]using ih
theorem NC{s s':St}(hT:s.tmp=s'.tmp):∀l:List Operand,Gp s l↔Gp s' l
 | []=>Iff.rfl
 | x::r=>by
  have ih:=NC hT r;cases x with
  | tmp t=>simp only[Gp,hT,ih]
  | _=>simpa only[Gp]using ih
theorem Tl[Glo]{P:Program}{ops:List (Option Tmp)}{o:Oper}{s s':St}{K:Bool->V->List (Nat×Option Ob)->Nat->Prop}(hu:usesOb o.op=false)(hE:isEff o.op=false)(hT:s.tmp=s'.tmp)(h:hstep P ops o s K):hstep P ops o s' K:=by
 unfold hstep at h ⊢;split at h
 ·rw[<- Tk hu hT];split at h
  ·exact h
  rw[HU h]at hE;cases hE
 split at h
 ·rename_i d hd;rw[<- hT];split at h
  ·rename_i b hb;rw[<- Tk hu (T9 hT _)];split at h
   ·exact⟨fun e=>⟨(h.1 e).1,(NC hT _).1 (h.1 e).2⟩,h.2⟩
   rw[h.1]at hE;cases hE
  exact h.elim
 exact h.elim
theorem RO[Glo]{P:Program}{ops:List (Option Tmp)}{o:Oper}{s:St}{K K':Bool->V->List (Nat×Option Ob)->Nat->Prop}(h:hstep P ops o s K)(hK:∀e v ob nx,K e v ob nx->K' e v ob nx):hstep P ops o s K':=by
 unfold hstep at h ⊢;split at h
 ·split at h
  ·exact⟨h.1,hK _ _ _ _ h.2⟩
  exact FD h fun _ _ _=>hK _ _ _ _
 split at h
 ·split at h
  ·split at h
   ·exact⟨h.1,hK _ _ _ _ h.2⟩
   exact⟨h.1,GU h.2 fun _ _ _=>hK _ _ _ _⟩
  exact h
 exact h
theorem Tj[Glo]{P:Program}{s:St}{op:Op}(h:isEff op=true):hpv P s op=none:=by
 cases op<;>first|rfl|(simp[isEff]at h;done)|skip
 rename_i c;obtain⟨callee,args,tys⟩:=c;cases callee with
 | value f=>rfl
 | invoke r m=>simp[isEff]at h
 | builtin b=>cases b<;>first|(simp[isEff]at h;done)|simp[hpv,pv,bv]
theorem SV[Glo]{P:Program}{ops:List (Option Tmp)}{o:Oper}{s:St}{x:HI}(h:SF P ops o s x)(hx:x.eff=false):isEff o.op=false:=by
 cases hE:isEff o.op with
 | false=>rfl
 | true =>
  exfalso;obtain⟨_,h⟩:=h;unfold hstep at h;split at h
  ·rw[Tj hE]at h;obtain⟨v,ob,nx,hk,_⟩:=LE h;rw[hx]at hk;cases hk.1
  split at h
  ·split at h
   ·rw[Tj hE]at h;obtain⟨v,ob,nx,hk,_⟩:=JI h.2;rw[hx]at hk;cases hk.1
   exact h.elim
  exact h.elim
structure HeadInv [Glo] (base:Nat) (Xa:Nat->Prop) (w0:W0) (st:St) (l:List HI) (prs:List (List Nat)) (L:Nat->Bool) (a:Act) (w:World):Prop where
 clo:∀j,j<l.length->L j=true->∀k∈prs.getD j [],L k=true
 rel:Rel base Xa w0 (stS st L l) a w
structure SegF [Glo] (P:Program) (opsA:List (Option Tmp)) (seg:List Oper) (prs:List (List Nat)) (st:St) (l:List HI):Prop where
 low:∀(i:Nat)(o:Oper)(x:HI),seg[i]? =some o->l[i]? =some x->SF P opsA o (stS st (fun j=>(prs.getD i []).contains j) l) x
 more:∀(i j:Nat)(o o':Oper)(x y:HI),seg[i]? =some o->seg[j]? =some o'->l[i]? =some x->l[j]? =some y->isEff o.op=false->usesOb o.op=true->isEff o'.op=true->j∉prs.getD i []->i∉prs.getD j [] ->
  hstep P opsA o ⟨st.n,eT (fun k=>(prs.getD i []).contains k) 0 l++st.tmp,y.nx,y.ob,st.pn⟩ (fun eff v _ _=>eff=false/\v=x.v)
section
variable {P:Program} {base:Nat} {Xa:Nat->Prop} {w0:W0} {w w':World} {st:St} {a:Act} {M M':Mp}
theorem Te[Glo]{opsA seg:List Oper}{prs:List (List Nat)}{l:List HI}{QC:Exit->Act->World->Prop}(hD:SegOk P st.n seg prs)(hl:l.length=seg.length)
  (hF:SegF P (slotsOf opsA) seg prs st l) (hnd:(l.filterMap (·.dst)).Nodup)
  {L:Nat->Bool} (hg:HeadInv base Xa w0 st l prs L a w) {i:Nat} {o:Oper} (ho:seg[i]? =some o) (hLi:L i=false) (hprL:∀j∈prs.getD i [],L j=true) :
  if Region.wanted o (yielded opsA.toArray a.tmps)=true then o.wp P a w (HeadInv base Xa w0 st l prs fun j=>decide (j=i)||L j) QC else HeadInv base Xa w0 st l prs (fun j=>decide (j=i)||L j) (a.put o.dst undef) w:=by
 obtain⟨g1,⟨M,hM⟩⟩:=hg;have hpr:=hD.prlt;have hil:=(List.getElem?_eq_some_iff.1 ho).1;obtain⟨x,hx⟩:∃x,l[i]? =some x:=⟨l[i]'(by omega),gR (by omega)⟩;have hsf:=hF.low i o x ho hx;have hdst:=hsf.1;have hsub:∀j,(prs.getD i []).contains j=true->L j=true:=fun j hj=>hprL j (by simpa using hj);have heffL:∀(j:Nat)(y:HI),l[j]? =some y->y.eff=true->x.eff=true->(i<j->L j=false)/\(j<i->j∈prs.getD i []):=fun j y hy hye hxe=>by
  have hjl:=(List.getElem?_eq_some_iff.1 hy).1;obtain⟨o',ho'⟩:∃o',seg[j]? =some o':=⟨seg[j]'(by omega),gR _⟩;have e1:=Kr hsf hxe;have e2:=Kr (hF.low j o' y ho' hy) hye;refine⟨fun hij=>?_,fun hji=>hD.chain i j o o' ho ho' e1 e2 hji⟩;cases hLj:L j with
  | false=>rfl
  | true =>
   have:=g1 j (by omega) hLj i (hD.chain j i o' o ho' ho e2 e1 hij);rw[this]at hLi;cases hLi
 obtain⟨s,hs1,hs2,hs3,hs4⟩:∃s:St,SF P (slotsOf opsA) o s x/\s.tmp=eT (fun j=>(prs.getD i []).contains j) 0 l++st.tmp/\s.ob=(stS st L l).ob/\s.nx=(stS st L l).nx:=by
  rcases LC L l 0 (st.ob,st.nx)with⟨e,hno⟩|⟨j,y,hy,hye,hLj,hlast,e⟩
  ·have e2:=aT (fun j=>(prs.getD i []).contains j) l 0 (st.ob,st.nx) (fun j y hy he=>by
    cases hc:(prs.getD i []).contains (0+j)with
    | false=>rfl
    | true=>have:=hsub _ hc;rw[hno j y hy he]at this;cases this)
   exact⟨_,hsf,rfl,by simp only[stS,e,e2],by simp only[stS,e,e2]⟩
  rw[i6]at hLj;by_cases hji:j∈prs.getD i []
  ·have e2:eO (fun j=>(prs.getD i []).contains j) 0 l (st.ob,st.nx)=(y.ob,y.nx):=OC (fun j=>(prs.getD i []).contains j) (k:=j) hye (by simpa using hji) l 0 _ (Nat.zero_le _) (by simpa using hy) (fun j' z hz hjj he=>by
    rw[i6]at hjj ⊢;cases hc:(prs.getD i []).contains j' with
    | false=>rfl
    | true =>
     have h1:=hsub _ hc;have h2:=hlast j' z hjj hz he;rw[i6,h1]at h2;cases h2)
   exact⟨_,hsf,rfl,by simp only[stS,e,e2],by simp only[stS,e,e2]⟩
  have hij:i∉prs.getD j []:=fun hc=>by
   have:=g1 j (List.getElem?_eq_some_iff.1 hy).1 hLj i hc;rw[this]at hLi;cases hLi
  have hxe:x.eff=false:=by
   cases hxe:x.eff with
   | false=>rfl
   | true =>
    exfalso;obtain⟨q1,q2⟩:=heffL j y hy hye hxe;rcases Nat.lt_trichotomy i j with hc|hc|hc
    ·rw[q1 hc]at hLj;cases hLj
    ·subst hc;rw[hLi]at hLj;cases hLj
    exact hji (q2 hc)
  have hjl:=(List.getElem?_eq_some_iff.1 hy).1;obtain⟨o',ho'⟩:∃o',seg[j]? =some o':=⟨seg[j]'(by omega),gR _⟩;have hE:=SV hsf hxe;have hE':=Kr (hF.low j o' y ho' hy) hye;refine⟨⟨st.n,eT (fun k=>(prs.getD i []).contains k) 0 l++st.tmp,y.nx,y.ob,st.pn⟩,⟨hdst,?_⟩,rfl,by simp only[stS,e],by simp only[stS,e]⟩;cases hu:usesOb o.op with
  | false=>exact Tl (s:=stS st (fun j=>(prs.getD i []).contains j) l) hu hE rfl hsf.2
  | true =>
   refine RO (hF.more i j o o' x y ho ho' hx hy hE hu hE' hji hij) ?_;rintro e v ob nx ⟨rfl,h2⟩;exact⟨hxe.symm,h2,fun h=>by cases h⟩
 have hT:∀t,lkT s.tmp t=.poi\/lkT s.tmp t=lkT (stS st L l).tmp t:=fun t=>by
  rw[hs2];exact Yx _ _ st.tmp t l 0 (fun j _ hA=>by rw[i6]at hA ⊢;exact hsub j hA)
 have hs:=bY (ops:=opsA.toArray) (QC:=QC) (by simpa using hs1) hT hs3 hs4 (hD.ok o (g9 ho)) hM;have hob':(stS st (fun j=>decide (j=i)||L j) l).ob=(bif x.eff then x.ob else(stS st L l).ob)/\(stS st (fun j=>decide (j=i)||L j) l).nx=(bif x.eff then x.nx else(stS st L l).nx):=by
  cases hxe:x.eff with
  | false =>
   have:eO (fun j=>decide (j=i)||L j) 0 l (st.ob,st.nx)=eO L 0 l (st.ob,st.nx):=IS l l _ _ 0 _ rfl (fun j y y' hy hy'=>by
    rw[hy]at hy';simp only[gQ]at hy';subst hy';simp only[i6];refine⟨?_,fun _=>⟨trivial,trivial⟩⟩;by_cases hji:j=i
    ·subst hji;rw[hx]at hy;simp only[gQ]at hy;subst hy;rw[hxe];rfl
    simp[hji])
   simp only[stS,this];exact⟨rfl,rfl⟩
  | true =>
   have:eO (fun j=>decide (j=i)||L j) 0 l (st.ob,st.nx)=(x.ob,x.nx):=OC (fun j=>decide (j=i)||L j) (k:=i) hxe (by simp) l 0 _ (Nat.zero_le _) (by simpa using hx) (fun j y hy hij hye=>by
    rw[i6]at hij ⊢;have:=(heffL j y hy hye hxe).1 hij;rw[this];simp;omega)
   simp only[stS,this];exact⟨rfl,rfl⟩
 have next:∀a' w',Nx base Xa w0 (stS st L l).n (fun st'=>st'=(bif x.eff then {stS st L l with nx:=x.nx,ob:=x.ob}else stS st L l).put o.dst x.v) a' w'->HeadInv base Xa w0 st l prs (fun j=>decide (j=i)||L j) a' w':=by
  rintro a' w' ⟨s',h1,rfl,M',hM'⟩;have hrel:Rel base Xa w0 (stS st (fun j=>decide (j=i)||L j) l) a' w':=by
   have hw:=hM'.weakT (T:=eT (fun j=>decide (j=i)||L j) 0 l++st.tmp) (fun t=>by
    have:=Yw L st.tmp t (k:=i) (x:=x) l 0 (Nat.zero_le _) (by simpa using hx) hnd;refine this.imp (fun e=>e) fun e=>e.trans ?_;rw[hdst];cases o.dst<;>cases x.eff<;>rfl)
   refine⟨M',?_⟩;have e:({(bif x.eff then {stS st L l with nx:=x.nx,ob:=x.ob}else stS st L l).put o.dst x.v with tmp:=eT (fun j=>decide (j=i)||L j) 0 l++st.tmp}:St)=stS st (fun j=>decide (j=i)||L j) l:=by
    obtain⟨q1,q2⟩:=hob';have:stS st (fun j=>decide (j=i)||L j) l=⟨st.n,eT (fun j=>decide (j=i)||L j) 0 l++st.tmp,(stS st (fun j=>decide (j=i)||L j) l).nx,(stS st (fun j=>decide (j=i)||L j) l).ob,st.pn⟩:=rfl;rw[this,q1,q2];cases o.dst<;>cases x.eff<;>rfl
   rw[e]at hw;exact hw
  refine⟨fun j hj hLj k hk=>?_,hrel⟩;simp only[Bool.or_eq_true,decide_eq_true_eq]at hLj ⊢;rcases hLj with rfl|hLj
  ·exact .inr (hprL k hk)
  exact .inr (g1 j hj hLj k hk)
 split
 ·rename_i hw;rw[if_pos hw]at hs;exact DR hs next
 rename_i hw;rw[if_neg hw]at hs;exact next _ _ hs
end
end Go.Ab
namespace Go.Ab
open Go.RowKit
def segsL[Glo](P:Program)(ops:List (Option Tmp)):List (Nat×List (List Nat)×List (Nat×Nat))->List Oper->(St->Prop)->St->Prop
 | [],_,K,st=>K st
 | (1,_)::r,o::t,K,st=>Ll P ops o (segsL P ops r t K) st
 | (len,prs,prp)::r,t,K,st=>Gc P ops prs st (fun done=>J2 P ops prs st (t.take len) done prp/\segsL P ops r (t.drop len) K (stS st (fun _=>true) done)) (t.take len) []
def CE(ops:List Oper)(ord:List Nat):List Oper:=ord.map fun i=>ops.getD i default
def segsOk(t:List Oper)(N:Nat)(pa:List (List Nat)):Nat->List (Nat×List (List Nat)×List (Nat×Nat))->Bool
 | c,[]=>decide (c=N)
 | c,(len,prs,prp)::r=>decide (1<=len)&&decide (prs.length<=len) &&
   (List.range len).all (fun i=>(List.range c).all (fun j=>(pa.getD (c+i) []).contains j)&&(prs.getD i []).all (fun j=>decide (j<i)&&(pa.getD (c+i) []).contains (c+j))) &&
   (decide (len=1)||((List.range len).all (fun i=>(List.range i).all (fun j=>match t[c+i]?,t[c+j]? with|some o,some o'=>!(isEff o.op&&isEff o'.op)||(prs.getD i []).contains j|_,_=>true)) &&
    (List.range len).all (fun i=>(List.range len).all (fun j=>match t[c+i]?,t[c+j]? with|some o,some o'=>isEff o.op||!(usesOb o.op)||!(isEff o'.op)||(prs.getD i []).contains j||(prs.getD j []).contains i||prp.contains (i,j)|_,_=>true)) &&
    decide (((t.drop c).take len).filterMap (·.dst)).Nodup))&&segsOk t N pa (c+len) r
def Gu(P:Program)(n:Nat)(ops:List Oper)(m:Region.Mode)(ex:List (Nat×Nat))(ord:List Nat)(pa:List (List Nat))(segs:List (Nat×List (List Nat)×List (Nat×Nat))):Bool :=
 ops.all (okO P n)&&decide (ord.length=ops.length)&&decide ord.Nodup&&ord.all (fun i=>decide (i<ops.length))&&(List.range ops.length).all (fun i=>ord.contains i)&&decide (pa.length<=ops.length) &&
 (List.range ops.length).all (fun k=>match ops[ord.getD k 0]? with
  | none=>false
  | some o=>o.after.toList.all (fun e=>!(Region.binds m e)||(decide (e.on<ops.length)&&decide (ord.idxOf e.on<k))) &&
   (pa.getD k []).all (fun j=>decide (j<k)&&(o.after.toList.any (fun e=>Region.binds m e&&(decide (ord.idxOf e.on=j)||(pa.getD (ord.idxOf e.on) []).contains j)) ||
    ex.any (fun q=>decide (q.2=ord.getD k 0)&&decide (q.1<ops.length)&&(decide (ord.idxOf q.1=j)||(pa.getD (ord.idxOf q.1) []).contains j))))) &&
 segsOk (CE ops ord) ops.length pa 0 segs
structure SegsOk(t:List Oper)(N:Nat)(pa:List (List Nat))(c len:Nat)(prs:List (List Nat))(prp:List (Nat×Nat)):Prop where
 pos:1<=len
 cut:∀i,i<len->∀j,j<c->j∈pa.getD (c+i) []
 sub:∀i j,j∈prs.getD i []->j<i/\(c+j)∈pa.getD (c+i) []
 chain:len≠1->∀i j o o',i<len->t[c+i]? =some o->t[c+j]? =some o'->isEff o.op=true->isEff o'.op=true->j<i->j∈prs.getD i []
 more:len≠1->∀i j o o',i<len->j<len->t[c+i]? =some o->t[c+j]? =some o'->isEff o.op=false->usesOb o.op=true->isEff o'.op=true->j∉prs.getD i []->i∉prs.getD j []->(i,j)∈prp
 nodup:len≠1->(((t.drop c).take len).filterMap (·.dst)).Nodup
theorem Eo{t:List Oper}{N c len:Nat}{pa prs:List (List Nat)}{prp:List (Nat×Nat)}{r:List (Nat×List (List Nat)×List (Nat×Nat))}(h:segsOk t N pa c ((len,prs,prp)::r)=true):SegsOk t N pa c len prs prp/\segsOk t N pa (c+len) r=true:=by
 simp only[segsOk,gX,decide_eq_true_eq,List.all_eq_true,List.mem_range,Bool.or_eq_true]at h;obtain⟨⟨⟨⟨h1,h2⟩,h3⟩,h4⟩,h5⟩:=h;refine⟨⟨h1,fun i hi j hj=>by simpa using(h3 i hi).1 j hj,fun i j hj=>?_,fun hne i j o o' hi ho ho' he he' hji=>?_,fun hne i j o o' hi hj ho ho' hE hu hE' hji hij=>?_,fun hne=>?_⟩,h5⟩
 ·have hi:i<len:=by
   rcases Nat.lt_or_ge i len with hc|hc
   ·exact hc
   rw[gP,iV (by omega)]at hj;simp at hj
  have:=(h3 i hi).2 j hj;exact⟨this.1,by simpa using this.2⟩
 ·rcases h4 with h4|h4
  ·exact absurd h4 hne
  have:=h4.1.1 i hi j hji;rw[ho,ho']at this;simpa[he,he']using this
 ·rcases h4 with h4|h4
  ·exact absurd h4 hne
  have:=h4.1.2 i hi j hj;rw[ho,ho']at this;simp only[hE,hu,hE',Bool.false_or,Bool.not_true,Bool.or_eq_true,List.contains_iff_mem]at this;rcases this with(h|h)|h
  ·exact absurd h hji
  ·exact absurd h hij
  exact h
 rcases h4 with h4|h4
 ·exact absurd h4 hne
 exact h4.2
theorem EB[Glo]{t:List Oper}{N:Nat}{pa:List (List Nat)}:∀{r:List (Nat×List (List Nat)×List (Nat×Nat))}{c:Nat},segsOk t N pa c r=true->c<=N
 | [],c,h=>by simp[segsOk]at h;omega
 | (len,prs,prp)::r,c,h=>by have:=EB (Eo h).2;omega
section
variable {P:Program} {base:Nat} {Xa:Nat->Prop} {w0:W0} {w w':World} {st:St} {a:Act} {M M':Mp}
inductive Run [Glo] (P:Program) (base:Nat) (Xa:Nat->Prop) (w0:W0) (n:Nat) (ops t:List Oper) (N:Nat) (pa:List (List Nat)) (K:St->Prop) (L:Nat->Bool) (a:Act) (w:World):Prop where
 | at_ (c:Nat) (r:List (Nat×List (List Nat)×List (Nat×Nat))) (hr:segsOk t N pa c r=true) (h1:∀j,j<c->L j=true) (h2:∀j,c<=j->j<N->L j=false) (s:St) (hn:s.n=n) (hK:segsL P (slotsOf ops) r (t.drop c) K s) (hR:Rel base Xa w0 s a w):Run P base Xa w0 n ops t N pa K L a w
 | in_ (c len:Nat) (prs:List (List Nat)) (prp:List (Nat×Nat)) (r:List (Nat×List (List Nat)×List (Nat×Nat))) (hs:SegsOk t N pa c len prs prp) (hne:len≠1) (hr:segsOk t N pa (c+len) r=true) (h1:∀j,j<c->L j=true) (h2:∀j,c+len<=j->j<N->L j=false) (s:St) (hn:s.n=n) (l:List HI) (hl:l.length=len)
   (hF:SegF P (slotsOf ops) ((t.drop c).take len) prs s l)
   (hK:segsL P (slotsOf ops) r (t.drop (c+len)) K (stS s (fun _=>true) l)) (hI:HeadInv base Xa w0 s l prs (fun j=>L (c+j)) a w):Run P base Xa w0 n ops t N pa K L a w
theorem Q6[Glo]{s:St}{l:List HI}(L L':Nat->Bool)(h:∀i,i<l.length->L i=L' i):stS s L l=stS s L' l:=by
 simp only[stS];rw[OD L L' l 0 (fun j hj=>by rw[i6];exact h j hj),IS l l L L' 0 _ rfl (fun j x x' hx hx'=>by
  rw[hx]at hx';simp only[gQ]at hx';subst hx';rw[i6,h j (List.getElem?_eq_some_iff.1 hx).1];exact⟨rfl,fun _=>⟨rfl,rfl⟩⟩)]
theorem HeadInv.congr[Glo]{s:St}{l:List HI}{prs:List (List Nat)}{L L':Nat->Bool}(h:HeadInv base Xa w0 s l prs L a w)(hp:∀i j,j∈prs.getD i []->j<i)(hL:∀i,i<l.length->L i=L' i):HeadInv base Xa w0 s l prs L' a w:=by
 have e:=Q6 (s:=s) L L' hL;obtain⟨h1,h2⟩:=h;rw[e]at h2;exact⟨fun j hj hLj k hk=>by have:=hp j k hk;rw[<- hL k (by omega)];exact h1 j hj (by rw[hL j hj];exact hLj) k hk,h2⟩
theorem HeadInv.begin[Glo]{s:St}{l:List HI}{prs:List (List Nat)}{L:Nat->Bool}(hL:∀i,i<l.length->L i=false)(hR:Rel base Xa w0 s a w):HeadInv base Xa w0 s l prs L a w:=by
 have e0:eO L 0 l (s.ob,s.nx)=(s.ob,s.nx):=by
  rcases TD L l 0 (s.ob,s.nx)with e|⟨j,y,h1,_,h3,_⟩
  ·exact e
  rw[i6,hL j (List.getElem?_eq_some_iff.1 h1).1]at h3;cases h3
 have hob:(stS s L l).ob=s.ob:=by simp only[stS,e0]
 have hnx:(stS s L l).nx=s.nx:=by simp only[stS,e0]
 refine⟨fun j hj hLj=>(by rw[hL j hj]at hLj;cases hLj),?_⟩;obtain⟨M,hM⟩:=hR;have hw:=hM.weakT (T:=eT L 0 l++s.tmp) (fun t=>Yv L s.tmp t l 0 (fun j hj=>by rw[i6];exact hL j hj));have e:({s with tmp:=eT L 0 l++s.tmp}:St)=stS s L l:=by
  have:stS s L l=⟨s.n,eT L 0 l++s.tmp,(stS s L l).nx,(stS s L l).ob,s.pn⟩:=rfl;rw[this,hnx,hob]
 rw[e]at hw;exact⟨M,hw⟩
variable {ops t:List Oper} {N:Nat} {pa:List (List Nat)} {K:St->Prop} {L:Nat->Bool} {QC:Exit->Act->World->Prop} {n:Nat}
theorem Run.congr[Glo]{L':Nat->Bool}(h:Run P base Xa w0 n ops t N pa K L a w)(hL:∀i,i<N->L i=L' i):Run P base Xa w0 n ops t N pa K L' a w:=by
 cases h with
 | at_ c r hr h1 h2 s hn hK hR =>
  have:=EB hr;exact .at_ c r hr (fun j hj=>by rw[<- hL j (by omega)];exact h1 j hj) (fun j hj hjN=>by rw[<- hL j hjN];exact h2 j hj hjN) s hn hK hR
 | in_ c len prs prp r hs hne hr h1 h2 s hn l hl hF hK hI =>
  have:=EB hr;exact .in_ c len prs prp r hs hne hr (fun j hj=>by rw[<- hL j (by omega)];exact h1 j hj) (fun j hj hjN=>by rw[<- hL j hjN];exact h2 j hj hjN) s hn l hl hF hK
   (hI.congr (fun i j hj=>(hs.sub i j hj).1) fun i hi=>hL (c+i) (by omega))
theorem Run.norm[Glo](h:Run P base Xa w0 n ops t N pa K L a w):(∃c r,segsOk t N pa c r=true/\(∀j,j<c->L j=true)/\(∀j,c<=j->j<N->L j=false)/\∃s,s.n=n/\segsL P (slotsOf ops) r (t.drop c) K s/\Rel base Xa w0 s a w) \/
  ∃c len prs prp r,SegsOk t N pa c len prs prp/\len≠1/\segsOk t N pa (c+len) r=true/\(∀j,j<c->L j=true)/\(∀j,c+len<=j->j<N->L j=false)/\(∃j,j<len/\L (c+j)=false)/\∃s,s.n=n/\∃l:List HI,l.length=len /\
   SegF P (slotsOf ops) ((t.drop c).take len) prs s l /\
   segsL P (slotsOf ops) r (t.drop (c+len)) K (stS s (fun _=>true) l)/\HeadInv base Xa w0 s l prs (fun j=>L (c+j)) a w:=by
 cases h with
 | at_ c r hr h1 h2 s hn hK hR=>exact .inl ⟨c,r,hr,h1,h2,s,hn,hK,hR⟩
 | in_ c len prs prp r hs hne hr h1 h2 s hn l hl hF hK hI =>
  by_cases hall:∀j,j<len->L (c+j)=true
  ·refine .inl ⟨c+len,r,hr,fun j hj=>?_,h2,stS s (fun _=>true) l,hn,hK,?_⟩
   ·rcases Nat.lt_or_ge j c with hc|hc
    ·exact h1 j hc
    have:=hall (j-c) (by omega);rwa[show c+(j-c)=j by omega]at this
   have e:=Q6 (s:=s) (l:=l) (fun j=>L (c+j)) (fun _=>true) (fun j hj=>hall j (by omega));have:=hI.rel;rwa[e]at this
  refine .inr ⟨c,len,prs,prp,r,hs,hne,hr,h1,h2,?_,s,hn,l,hl,hF,hK,hI⟩;obtain⟨j,hj⟩:=Classical.not_forall.1 hall;rw[Classical.not_imp]at hj;exact⟨j,hj.1,by simpa using hj.2⟩
theorem VN[Glo]{O:List (Option Tmp)}{o:Oper}{prs:List (List Nat)×List (Nat×Nat)}{r:List (Nat×List (List Nat)×List (Nat×Nat))}{u:List Oper}{s:St}:segsL P O ((1,prs)::r) (o::u) K s=Ll P O o (segsL P O r u K) s:=rfl
theorem He[Glo]{O:List (Option Tmp)}{len:Nat}{prs:List (List Nat)}{prp:List (Nat×Nat)}{r:List (Nat×List (List Nat)×List (Nat×Nat))}{u:List Oper}{s:St}(h:len≠1):segsL P O ((len,prs,prp)::r) u K s=Gc P O prs s (fun done=>J2 P O prs s (u.take len) done prp/\segsL P O r (u.drop len) K (stS s (fun _=>true) done)) (u.take len) []:=by
 match len,u,h with
 | 0,[],_=>rfl
 | 0,_::_,_=>rfl
 | _+2,[],_=>rfl
 | _+2,_::_,_=>rfl
 | 1,_,h=>exact absurd rfl h
theorem Run.inside[Glo](htN:t.length=N)(hok:∀o∈t,okO P n o=true){c len:Nat}{prs:List (List Nat)}{prp:List (Nat×Nat)}{r:List (Nat×List (List Nat)×List (Nat×Nat))}(hs:SegsOk t N pa c len prs prp)(hne:len≠1)(hr:segsOk t N pa (c+len) r=true)
  (h1:∀j,j<c->L j=true) (h2:∀j,c+len<=j->j<N->L j=false) {s:St} (hn:s.n=n) {l:List HI} (hl:l.length=len)
  (hF:SegF P (slotsOf ops) ((t.drop c).take len) prs s l)
  (hK:segsL P (slotsOf ops) r (t.drop (c+len)) K (stS s (fun _=>true) l)) (hI:HeadInv base Xa w0 s l prs (fun j=>L (c+j)) a w) {k:Nat} {o:Oper} (ho:t[k]? =some o) (hck:c<=k) (hkl:k<c+len) (hLk:L k=false) (hpa:∀j∈pa.getD k [],L j=true) :
  if Region.wanted o (yielded ops.toArray a.tmps)=true then o.wp P a w (Run P base Xa w0 n ops t N pa K fun j=>decide (j=k)||L j) QC else Run P base Xa w0 n ops t N pa K (fun j=>decide (j=k)||L j) (a.put o.dst undef) w:=by
 have hcl:=EB hr;have hseg:((t.drop c).take len).length=len:=by simp;omega
 have hgo:((t.drop c).take len)[k-c]? =some o:=by
  rw[iL,nH,iP,show c+(k-c)=k by omega];exact ho
 have hD:SegOk P s.n ((t.drop c).take len) prs:=⟨fun o ho=>by rw[hn];exact hok o (List.mem_of_mem_drop (i5 ho)),fun i j hj=>(hs.sub i j hj).1,fun i j o o' ho ho' he he' hji=>by
   have hi:=(List.getElem?_eq_some_iff.1 ho).1;rw[hseg]at hi;rw[iL,if_pos hi,iP]at ho;rw[iL,nH,iP]at ho';exact hs.chain hne i j o o' hi ho ho' he he' hji,hs.nodup hne⟩
 have hnd:(l.filterMap (·.dst)).Nodup:=by
  have:l.filterMap (·.dst)=((t.drop c).take len).filterMap (·.dst):=by
   have e:l.map (·.dst)=((t.drop c).take len).map (·.dst):=by
    apply List.ext_getElem?;intro i;rw[iG,iG];rcases Nat.lt_or_ge i len with hi|hi
    ·have q1:l[i]? =some (l[i]'(by omega)):=gR (by omega);have q2:((t.drop c).take len)[i]? =some (((t.drop c).take len)[i]'(by omega)):=gR _;rw[q1,q2];simp only[Option.map_some];rw[(hF.low i _ _ q2 q1).1]
    rw[iV (by omega),iV (by omega)];rfl
   have f:∀{α:Type}(l:List α)(g:α->Option Tmp),l.filterMap g=(l.map g).filterMap id:=fun l g=>by rw[List.filterMap_map];rfl
   rw[f l,f ((t.drop c).take len),e]
  rw[this];exact hs.nodup hne
 have hstep:=Te (opsA:=ops) (QC:=QC) hD (by rw[hseg];exact hl) hF hnd hI hgo (by show L (c+(k-c))=false;rw[show c+(k-c)=k by omega];exact hLk) (fun j hj=>hpa (c+j) (by
  have:=(hs.sub _ _ hj).2;rwa[show c+(k-c)=k by omega]at this))
 have next:∀a' w',HeadInv base Xa w0 s l prs (fun j=>decide (j=k-c)||L (c+j)) a' w'->Run P base Xa w0 n ops t N pa K (fun j=>decide (j=k)||L j) a' w':=fun a' w' hI' =>
  .in_ c len prs prp r hs hne hr (fun j hj=>by simp[h1 j hj]) (fun j hj hjN=>by simp[h2 j hj hjN];omega) s hn l hl hF hK (hI'.congr (fun i j hj=>(hs.sub i j hj).1) fun i _=>by
   congr 1;exact decide_eq_decide.2 (by omega))
 split
 ·rename_i hw;rw[if_pos hw]at hstep;exact DR hstep next
 rename_i hw;rw[if_neg hw]at hstep;exact next _ _ hstep
theorem NS[Glo]{prs:List (List Nat)}{s:St}{seg:List Oper}{l:List HI}:∀{prp:List (Nat×Nat)}(_:J2 P (slotsOf ops) prs s seg l prp){i j:Nat}(_:(i,j)∈prp){o:Oper}{x y:HI}(_:seg[i]? =some o)(_:l[i]? =some x)(_:l[j]? =some y),
  hstep P (slotsOf ops) o ⟨s.n,eT (fun k=>(prs.getD i []).contains k) 0 l++s.tmp,y.nx,y.ob,s.pn⟩ (fun eff v _ _=>eff=false/\v=x.v)
 | [],_,i,j,hm,_,_,_,_,_,_=>by simp at hm
 | (i',j')::r,h,i,j,hm,o,x,y,ho,hx,hy=>by
  obtain⟨h1,h2⟩:=h;rcases List.mem_cons.1 hm with e|hm
  ·simp only[Prod.mk.injEq]at e;obtain⟨rfl,rfl⟩:=e;rw[ho,hx,hy]at h1;exact h1
  exact NS h2 hm ho hx hy
theorem Run.step[Glo](htN:t.length=N)(hok:∀o∈t,okO P n o=true)(h:Run P base Xa w0 n ops t N pa K L a w){k:Nat}{o:Oper}(ho:t[k]? =some o)(hLk:L k=false)(hpa:∀j∈pa.getD k [],L j=true):
  if Region.wanted o (yielded ops.toArray a.tmps)=true then o.wp P a w (Run P base Xa w0 n ops t N pa K fun j=>decide (j=k)||L j) QC else Run P base Xa w0 n ops t N pa K (fun j=>decide (j=k)||L j) (a.put o.dst undef) w:=by
 have hkN:k<N:=by have:=(List.getElem?_eq_some_iff.1 ho).1;omega
 have cutAll:∀(r:List (Nat×List (List Nat)×List (Nat×Nat)))(c:Nat),segsOk t N pa c r=true->c<=k->∀j,j<c->j∈pa.getD k []:=fun r=>by
  induction r with
  | nil=>intro c hr hck;simp[segsOk]at hr;omega
  | cons x r ih =>
   intro c hr hck j hj;obtain⟨len,prs,prp⟩:=x;obtain⟨hs,hr'⟩:=Eo hr;rcases Nat.lt_or_ge k (c+len)with hc|hc
   ·have:=hs.cut (k-c) (by omega) j hj;rwa[show c+(k-c)=k by omega]at this
   exact ih (c+len) hr' hc j (by omega)
 rcases h.norm with⟨c,r,hr,h1,h2,s,hn,hK,hR⟩|⟨c,len,prs,prp,r,hs,hne,hr,h1,h2,⟨j0,hj0,hLj0⟩,s,hn,l,hl,hF,hK,hI⟩
 ·have hck:c<=k:=by
   rcases Nat.lt_or_ge k c with hc|hc
   ·rw[h1 k hc]at hLk;cases hLk
   exact hc
  cases r with
  | nil=>simp[segsOk]at hr;omega
  | cons x r =>
   obtain⟨len,prs,prp⟩:=x;obtain⟨hs,hr'⟩:=Eo hr;have hle:=EB hr';have hpos:=hs.pos;have hkl:k<c+len:=by
    rcases Nat.lt_or_ge k (c+len)with hc|hc
    ·exact hc
    have:=hpa c (cutAll r (c+len) hr' hc c (by omega));rw[h2 c (g8 _) (by omega)]at this;cases this
   by_cases hne:len=1
   ·subst hne;have hkc:k=c:=by omega
    subst hkc;have hdrop:t.drop k=o::t.drop (k+1):=by
     rw[List.drop_eq_getElem_cons (by omega)];congr 1;exact(List.getElem?_eq_some_iff.1 ho).2
    rw[hdrop,VN]at hK;obtain⟨M,hM⟩:=hR;have hst:=Hg (ops:=ops.toArray) (QC:=QC) hK (by rw[hn];exact hok o (g9 ho)) hM
    have next:∀a' w',Nx base Xa w0 s.n (segsL P (slotsOf ops) r (t.drop (k+1)) K) a' w'->Run P base Xa w0 n ops t N pa K (fun j=>decide (j=k)||L j) a' w':=fun a' w' ⟨s',q1,q2,q3⟩ =>
     .at_ (k+1) r hr' (fun j hj=>by
      simp only[Bool.or_eq_true,decide_eq_true_eq];rcases Nat.lt_or_ge j k with hc|hc
      ·exact .inr (h1 j hc)
      exact .inl (by omega)) (fun j hj hjN=>by simp[h2 j (by omega) hjN];omega) s' (q1.trans hn) q2 q3
    split
    ·rename_i hw;rw[if_pos hw]at hst;exact DR hst next
    rename_i hw;rw[if_neg hw]at hst;exact next _ _ hst
   rw[He hne]at hK;obtain⟨l,hl,hK',hF⟩:=PZ (fun i j hj=>(hs.sub i j hj).1) _ _ hK;simp only[jA,List.length_nil,i6,List.drop_drop]at hK' hF;obtain⟨hre,hK'⟩:=hK';have hl':l.length=len:=by rw[hl];simp;omega
   have hSF:SegF P (slotsOf ops) ((t.drop c).take len) prs s l:=⟨hF,fun i j o o' x y ho ho' hx hy hE hu hE' hji hij=>by
    have hi:=(List.getElem?_eq_some_iff.1 hx).1;have hj:=(List.getElem?_eq_some_iff.1 hy).1;have ho1:=ho;have ho2:=ho';rw[iL,nH,iP]at ho1 ho2;exact NS hre (hs.more hne i j o o' (by omega) (by omega) ho1 ho2 hE hu hE' hji hij) ho hx hy⟩
   exact Run.inside htN hok hs hne hr' h1 (fun j hj hjN=>h2 j (by omega) hjN) hn hl' hSF hK' (HeadInv.begin (fun i hi=>h2 (c+i) (by omega) (by omega)) hR) ho hck hkl hLk hpa
 have hck:c<=k:=by
  rcases Nat.lt_or_ge k c with hc|hc
  ·rw[h1 k hc]at hLk;cases hLk
  exact hc
 have hkl:k<c+len:=by
  rcases Nat.lt_or_ge k (c+len)with hc|hc
  ·exact hc
  have:=hpa (c+j0) (cutAll r (c+len) hr hc (c+j0) (by omega));rw[hLj0]at this;cases this
 exact Run.inside htN hok hs hne hr h1 h2 hn hl hF hK hI ho hck hkl hLk hpa
theorem Run.done[Glo](h:Run P base Xa w0 n ops t N pa K L a w)(hall:∀j,j<N->L j=true):∃s,s.n=n/\K s/\Rel base Xa w0 s a w:=by
 rcases h.norm with⟨c,r,hr,h1,h2,s,hn,hK,hR⟩|⟨c,len,prs,prp,r,hs,hne,hr,h1,h2,⟨j0,hj0,hLj0⟩,_⟩
 ·cases r with
  | nil=>exact⟨s,hn,hK,hR⟩
  | cons x r =>
   obtain⟨len,prs,prp⟩:=x;obtain⟨hs,hr'⟩:=Eo hr;have:=EB hr';have:=hs.pos;have h3:=h2 c (g8 _) (by omega);rw[hall c (by omega)]at h3;cases h3
 have:=EB hr;rw[hall (c+j0) (by omega)]at hLj0;cases hLj0
end
end Go.Ab
namespace Go.Ab
open Go.RowKit
section
variable {P:Program} {st:St}
theorem R1{R l1 l2:List Nat}{x y:Nat}(h:R=l1++y::l2)(hx:R.idxOf x<R.idxOf y):x∈l1:=by
 subst h;have h1:(l1++y::l2).idxOf y<=l1.length:=by
  rw[List.idxOf_append];split
  ·rename_i hm;exact Nat.le_of_lt (List.idxOf_lt_length_of_mem hm)
  simp
 have h2:(l1++y::l2).idxOf x<l1.length:=by omega
 rw[List.idxOf_append]at h2;split at h2
 ·rename_i hm;exact hm
 omega
theorem NG[Glo]{ops:List Oper}{K:St->Prop}{QC:Exit->Act->World->Prop}{base:Nat}{Xa:Nat->Prop}{w0:W0}(m:Region.Mode)(ex:List (Nat×Nat))(ord:List Nat)(pa:List (List Nat))(segs:List (Nat×List (List Nat)×List (Nat×Nat)))
  (hck:Gu P st.n ops m ex ord pa segs=true) (hv:segsL P (slotsOf ops) segs (CE ops ord) K st) (hQ:∀s a w,s.n=st.n->K s->Rel base Xa w0 s a w->QC .normal a w) {R:List Nat}
  (hE:LinExt ops.toArray m (fun i=>(Array.replicate ops.toArray.size false).getD i true) R) (hex:∀q∈ex,R.idxOf q.1<R.idxOf q.2) {a:Act} {w:World} (hR:Rel base Xa w0 st a w) :
  wpOps P ops.toArray QC R a w:=by
 simp only[Gu,gX,decide_eq_true_eq,List.all_eq_true,List.mem_range]at hck;obtain⟨⟨⟨⟨⟨⟨⟨c1,c2⟩,c3⟩,c4⟩,c5⟩,c6⟩,c7⟩,c8⟩:=hck;have hsz:ops.toArray.size=ops.length:=by simp
 have hget:∀(i:Nat)(o:Oper),ops.toArray[i]? =some o↔ops[i]? =some o:=fun i o=>by simp
 have hmem:∀i,i<ops.length->i∈ord:=fun i hi=>by simpa using c5 i hi
 have hpos:∀i,i<ops.length->ord.idxOf i<ops.length:=fun i hi=>by rw[<- c2];exact List.idxOf_lt_length_of_mem (hmem i hi)
 have hat:∀i,i<ops.length->ord.getD (ord.idxOf i) 0=i:=fun i hi=>by
  have hlt:=List.idxOf_lt_length_of_mem (hmem i hi);rw[gP,gR hlt];exact List.getElem_idxOf hlt
 have hlt:∀k,k<ops.length->ord.getD k 0<ops.length:=fun k hk=>by
  rw[gP,gR (by omega)];exact c4 _ (List.getElem_mem _)
 have hidx:∀k,k<ops.length->ord.idxOf (ord.getD k 0)=k:=fun k hk=>by
  rw[gP,gR (by omega)];exact c3.idxOf_getElem k (by omega)
 have hperm:∀k o,k<ops.length->ops[ord.getD k 0]? =some o->(CE ops ord)[k]? =some o:=fun k o hk ho=>by
  have e:ord[k]? =some (ord.getD k 0):=by rw[gP,gR (by omega)];rfl
  simp only[CE,iG,e,Option.map_some];rw[gP,ho];rfl
 have htN:(CE ops ord).length=ops.length:=by simp[CE,c2]
 have hokt:∀o∈CE ops ord,okO P st.n o=true:=fun o ho=>by
  simp only[CE,List.mem_map]at ho;obtain⟨i,hi,rfl⟩:=ho;have:=c4 i hi;rw[gP,gR this];exact c1 _ (List.getElem_mem _)
 let pre:Nat->Nat->Prop:=fun j i=>(∃o e,ops[i]? =some o/\e∈o.after/\Region.binds m e=true/\e.on=j)\/(j,i)∈ex
 have hedge:∀i o,ops[i]? =some o->∀j∈pa.getD (ord.idxOf i) [],∃j',pre j' i/\j'<ops.length/\(ord.idxOf j'=j\/j∈pa.getD (ord.idxOf j') []):=fun i o ho j hj=>by
  have hi:=(List.getElem?_eq_some_iff.1 ho).1;have:=c7 (ord.idxOf i) (hpos i hi);rw[hat i hi,ho]at this;simp only[gX,List.all_eq_true,Bool.or_eq_true,decide_eq_true_eq,i7,List.any_eq_true]at this;obtain⟨_,h⟩:=this.2 j hj;rcases h with⟨e,he,hb,hc⟩|⟨q,hq,⟨h1,h2⟩,hc⟩
  ·refine⟨e.on,.inl ⟨o,e,ho,by simpa using he,hb,rfl⟩,?_,hc.imp id (by simp)⟩;rcases this.1 e he with h|h
   ·rw[hb]at h;cases h
   exact h.1
  exact⟨q.1,.inr (by rw[<- h1];exact hq),h2,hc.imp id (by simp)⟩
 let Good:(Nat->Bool)->Act->World->Prop:=fun L a w=>(∀k,k<ops.length->L (ord.getD k 0)=true->∀j∈pa.getD k [],L (ord.getD j 0)=true)/\Run P base Xa w0 st.n ops (CE ops ord) ops.length pa K (fun k=>L (ord.getD k 0)) a w
 have hpaN:∀k j,j∈pa.getD k []->k<ops.length/\j<k:=fun k j hj=>by
  have hk:k<ops.length:=by
   rcases Nat.lt_or_ge k ops.length with h|h
   ·exact h
   rw[gP,iV (by omega)]at hj;simp at hj
  refine⟨hk,?_⟩;have:=c7 k hk;split at this
  ·simp at this
  simp only[gX,List.all_eq_true,decide_eq_true_eq]at this;exact(this.2 j hj).1
 refine K3 pre Good ?_ ?_ R (fun i=>(Array.replicate ops.toArray.size false).getD i true) a w hE.mem hE.nodup hE.all (fun l1 i l2 h j hj=>?_) ?_
 ·intro L a w hg i o ho hLi hpre;rw[hget]at ho;have hi:=(List.getElem?_eq_some_iff.1 ho).1;have hk:=hpos i hi;have hpa:∀j∈pa.getD (ord.idxOf i) [],L (ord.getD j 0)=true:=fun j hj=>by
   obtain⟨j',hp,heN,hc⟩:=hedge i o ho j hj;have hLe:=hpre j' hp;rcases hc with rfl|hc
   ·rw[hat j' heN];exact hLe
   exact hg.1 _ (hpos _ heN) (by rw[hat j' heN];exact hLe) j hc
  have hst:=Run.step (QC:=QC) htN hokt hg.2 (k:=ord.idxOf i) (hperm _ o hk (by rw[hat i hi];exact ho)) (by simp only[hat i hi];exact hLi) hpa;have next:∀a' w',Run P base Xa w0 st.n ops (CE ops ord) ops.length pa K (fun k=>decide (k=ord.idxOf i)||L (ord.getD k 0)) a' w'->Good (fun j=>decide (j=i)||L j) a' w':=fun a' w' hr=>by
   refine⟨fun k hk' hLk j hj=>?_,hr.congr fun k hk'=>?_⟩
   ·simp only[Bool.or_eq_true,decide_eq_true_eq]at hLk ⊢;rcases hLk with h|h
    ·have:k=ord.idxOf i:=by rw[<- h,hidx k hk']
     subst this;exact .inr (hpa j hj)
    exact .inr (hg.1 k hk' h j hj)
   congr 1;refine decide_eq_decide.2 ⟨fun h=>?_,fun h=>?_⟩
   ·rw[h];exact hat i hi
   rw[<- h,hidx k hk']
  split
  ·rename_i hw;rw[if_pos hw]at hst;exact DR hst next
  rename_i hw;rw[if_neg hw]at hst;exact next _ _ hst
 ·intro L a w hg hall;rw[hsz]at hall;obtain⟨s,h1,h2,h3⟩:=hg.2.done fun j hj=>hall _ (hlt j hj);exact hQ s a w h1 h2 h3
 ·rcases hj with⟨o,e,ho,he,hb,rfl⟩|hq
  ·exact hE.pre l1 i l2 h o ((hget i o).2 ho) e he hb
  exact .inr (R1 h (hex _ hq))
 have hfalse:∀k,k<ops.length->(Array.replicate ops.toArray.size false).getD (ord.getD k 0) true=false:=fun k hk=>by
  have:=hlt k hk;generalize ord.getD k 0=i at this ⊢;simp[Array.getD,this]
 refine⟨fun k hk hLk=>(by have:=hfalse k hk;simp only[this]at hLk;cases hLk),.at_ 0 segs c8 (fun j hj=>absurd hj (by omega)) (fun j _ hj=>hfalse j hj) st rfl hv hR⟩
theorem QE[Glo]{ops:List Oper}{m:Region.Mode}{n:Nat}{ex:List (Nat×Nat)}{ord:List Nat}{pa:List (List Nat)}{segs:List (Nat×List (List Nat)×List (Nat×Nat))}(hck:Gu P n ops m ex ord pa segs=true)(t:Nat):
  LinExt ops.toArray m (fun i=>(Array.replicate ops.toArray.size false).getD i true) (Region.linearise m ops.toArray t):=by
 simp only[Gu,gX,decide_eq_true_eq,List.all_eq_true,List.mem_range]at hck;obtain⟨⟨⟨⟨⟨⟨⟨c1,c2⟩,c3⟩,c4⟩,c5⟩,c6⟩,c7⟩,c8⟩:=hck;refine Tx m (fun i=>ord.idxOf i) (fun i o ho e he hb=>?_) _ t _ (by simp) (iY List.countP_le_length (by simp));have ho':ops[i]? =some o:=by simpa using ho
 have hi:=(List.getElem?_eq_some_iff.1 ho').1;have hm:i∈ord:=by simpa using c5 i hi
 have hlt:=List.idxOf_lt_length_of_mem hm;have hat:ord.getD (ord.idxOf i) 0=i:=by
  rw[gP,gR hlt];exact List.getElem_idxOf hlt
 have:=c7 (ord.idxOf i) (by omega);rw[hat,ho']at this;simp only[gX,List.all_eq_true,Bool.or_eq_true,decide_eq_true_eq,i7]at this;rcases this.1 e (by simpa using he)with h|h
 ·rw[hb]at h;cases h
 exact⟨by simpa using h.1,h.2⟩
theorem X2[Glo]{ops:List Oper}{K:St->Prop}{QC:Exit->Act->World->Prop}{base:Nat}{Xa:Nat->Prop}{w0:W0}(m:Region.Mode)(ord:List Nat)(pa:List (List Nat))(segs:List (Nat×List (List Nat)×List (Nat×Nat)))
  (hck:Gu P st.n ops m [] ord pa segs=true) (hv:segsL P (slotsOf ops) segs (CE ops ord) K st) (hQ:∀s a w,s.n=st.n->K s->Rel base Xa w0 s a w->QC .normal a w) (t:Nat) {a:Act} {w:World} (hR:Rel base Xa w0 st a w) :
  wpOps P ops.toArray QC (Region.linearise m ops.toArray t) a w:=NG m [] ord pa segs hck hv hQ (QE hck t) (by simp) hR
inductive PT where
 | leaf (ord:List Nat) (pa:List (List Nat)) (segs:List (Nat×List (List Nat)×List (Nat×Nat)))
 | node (x y:Nat) (l r:PT)
def PT.ok(P:Program)(n:Nat)(ops:List Oper)(m:Region.Mode):List (Nat×Nat)->PT->Bool
 | ex,.leaf ord pa segs=>Gu P n ops m ex ord pa segs
 | ex,.node x y l r=>decide (x<ops.length)&&decide (y<ops.length)&&decide (x≠y)&&PT.ok P n ops m ((x,y)::ex) l&&PT.ok P n ops m ((y,x)::ex) r
def PT.run[Glo](P:Program)(ops:List Oper)(K:St->Prop)(st:St):PT->Prop
 | .leaf ord _ segs=>segsL P (slotsOf ops) segs (CE ops ord) K st
 | .node _ _ l r=>PT.run P ops K st l/\PT.run P ops K st r
theorem PT.ext[Glo]{ops:List Oper}{m:Region.Mode}{n:Nat}(t:Nat):∀(T:PT)(ex:List (Nat×Nat)),PT.ok P n ops m ex T=true->LinExt ops.toArray m (fun i=>(Array.replicate ops.toArray.size false).getD i true) (Region.linearise m ops.toArray t)
 | .leaf ord pa segs,ex,h=>QE h t
 | .node x y l r,ex,h=>by
  simp only[PT.ok,gX]at h;exact PT.ext t l _ h.1.2
theorem Lo[Glo]{ops:List Oper}{K:St->Prop}{QC:Exit->Act->World->Prop}{base:Nat}{Xa:Nat->Prop}{w0:W0}(m:Region.Mode)(hQ:∀s a w,s.n=st.n->K s->Rel base Xa w0 s a w->QC .normal a w){R:List Nat}
  (hE:LinExt ops.toArray m (fun i=>(Array.replicate ops.toArray.size false).getD i true) R) {a:Act} {w:World} (hR:Rel base Xa w0 st a w) :
  ∀(T:PT)(ex:List (Nat×Nat)),PT.ok P st.n ops m ex T=true->PT.run P ops K st T->(∀q∈ex,R.idxOf q.1<R.idxOf q.2)->wpOps P ops.toArray QC R a w
 | .leaf ord pa segs,ex,h,hv,hex=>NG m ex ord pa segs h hv hQ hE hex hR
 | .node x y l r,ex,h,hv,hex=>by
  simp only[PT.ok,gX,decide_eq_true_eq]at h;obtain⟨⟨⟨⟨h1,h2⟩,h3⟩,h4⟩,h5⟩:=h;have hx:x∈R:=hE.all x (by simpa using h1) (by simp[Array.getD,h1]);have hy:y∈R:=hE.all y (by simpa using h2) (by simp[Array.getD,h2]);have hxi:=List.getElem_idxOf (List.idxOf_lt_length_of_mem hx);have hyi:=List.getElem_idxOf (List.idxOf_lt_length_of_mem hy);rcases Nat.lt_trichotomy (R.idxOf x) (R.idxOf y)with hc|hc|hc
  ·exact Lo m hQ hE hR l _ h4 hv.1 (by simpa using⟨hc,fun a b hab=>hex (a,b) hab⟩)
  ·exfalso;apply h3;rw[<- hxi,<- hyi];simp only[hc]
  exact Lo m hQ hE hR r _ h5 hv.2 (by simpa using⟨hc,fun a b hab=>hex (a,b) hab⟩)
theorem WP[Glo]{rid:Nat}{ops:List Oper}{Q:Exit->St->Prop}(ord:List Nat)(pa:List (List Nat))(segs:List (Nat×List (List Nat)×List (Nat×Nat)))(hd:(P.follows .mixedOrders||!(Region.departs ops.toArray))=true)
  (hck:Gu P st.n ops .any [] ord pa segs=true) (hv:segsL P (slotsOf ops) segs (CE ops ord) (Q .normal) st):awp P (.region rid ops.toArray true) Q st:=by
 intro base Xa w0 a w hR;refine wp_region_draw fun t=>?_;have hsch:Region.schedule (P.follows .mixedOrders) ops.toArray t=Region.linearise .any ops.toArray t:=by
  unfold Region.schedule;rw[if_pos hd]
 rw[hsch];have hR':Rel base Xa w0 st a {w with drawn:=w.drawn+1}:=by
  obtain⟨M,hM⟩:=hR;exact⟨M,hM.world ⟨rfl,rfl,rfl,g8 _,fun _ _=>rfl⟩⟩
 exact X2 .any ord pa segs hck hv (fun s a w h1 h2 h3=>⟨s,h1,h2,h3⟩) t hR'
theorem S8[Glo]{rid:Nat}{ops:List Oper}{Q:Exit->St->Prop}(ord:List Nat)(pa:List (List Nat))(segs:List (Nat×List (List Nat)×List (Nat×Nat)))(hd:(P.follows .mixedOrders||!(Region.departs ops.toArray))=true)(hp:CE ops ord=ops)
  (hck:Gu P st.n ops .any [] ord pa segs=true) (hv:segsL P (slotsOf ops) segs ops (Q .normal) st):awp P (.region rid ops.toArray true) Q st:=WP ord pa segs hd hck (by rw[hp];exact hv)
theorem BH[Glo]{rid:Nat}{ops:List Oper}{Q:Exit->St->Prop}(T:PT)(hd:(P.follows .mixedOrders||!(Region.departs ops.toArray))=true)
  (hck:PT.ok P st.n ops .any [] T=true) (hv:PT.run P ops (Q .normal) st T):awp P (.region rid ops.toArray true) Q st:=by
 intro base Xa w0 a w hR;refine wp_region_draw fun t=>?_;have hsch:Region.schedule (P.follows .mixedOrders) ops.toArray t=Region.linearise .any ops.toArray t:=by
  unfold Region.schedule;rw[if_pos hd]
 rw[hsch];have hR':Rel base Xa w0 st a {w with drawn:=w.drawn+1}:=by
  obtain⟨M,hM⟩:=hR;exact⟨M,hM.world ⟨rfl,rfl,rfl,g8 _,fun _ _=>rfl⟩⟩
 exact Lo .any (fun s a w h1 h2 h3=>⟨s,h1,h2,h3⟩) (PT.ext t T [] hck) hR' T [] hck hv (by simp)
@[simp] theorem segsL_nil[Glo]{ops:List (Option Tmp)}{u:List Oper}{K:St->Prop}:segsL P ops [] u K st=K st:=rfl
@[simp] theorem segsL_1[Glo]{ops:List (Option Tmp)}{K:St->Prop}{o:Oper}{prs:List (List Nat)×List (Nat×Nat)}{r:List (Nat×List (List Nat)×List (Nat×Nat))}{u:List Oper}:segsL P ops ((1,prs)::r) (o::u) K st=Ll P ops o (segsL P ops r u K) st:=rfl
@[simp] theorem segsL_2[Glo]{ops:List (Option Tmp)}{K:St->Prop}{len:Nat}{prs:List (List Nat)}{prp:List (Nat×Nat)}{r:List (Nat×List (List Nat)×List (Nat×Nat))}{u:List Oper}:segsL P ops ((len+2,prs,prp)::r) u K st=Gc P ops prs st (fun done=>J2 P ops prs st (u.take (len+2)) done prp/\segsL P ops r (u.drop (len+2)) K (stS st (fun _=>true) done)) (u.take (len+2)) []:=He (by omega)
end
end Go.Ab
namespace Go.Ab
open Go.RowKit
theorem AT[Glo]{P:Program}{c:Code}{Q:Exit->St->Prop}{st:St}(t e s:Nat)(hs:0<s){tt:Bool}(ht:lkT st.tmp t=.sl 0 tt [])
  (h:awp P c Q {st with nx:=st.nx+1,tmp:=(t,.own st.nx)::st.tmp,ob:=(st.nx,some ⟨e,s,false,false,[]⟩)::st.ob}):awp P c Q st:=fun base Xa w0 a w ⟨M,hM⟩=>by
 obtain⟨M',hM',hn,hR⟩:=hM.grow (ob1:=st.ob) (fun _ _ h=>h) none (fun _ _ h=>by cases h) (fun _ _ _ _ _ h=>by cases h) (fun _ h=>by cases h) (World.grownBy.refl w none) (.slice none 0 0) (fun g h=>by cases h)
  ⟨e,s,false,false,[]⟩ (fun _=>hs) (by simp) [] (World.ownsG_nil w base e s) (by simp) (fun j u h=>by simp at h)
 have hv:=hM.tmps t;rw[ht]at hv;obtain⟨A,c',f,hu,_,_,_,hnil,_⟩:=SH hv;obtain⟨rfl,rfl⟩:=hnil rfl;have:=h base Xa w0 a w ⟨M',hR.below,hR.hbase,hR.xa,hR.gh,hR.pin,hR.defers,hR.size,fun t'=>by
  simp only[lkT];split
  ·rename_i e';subst e';rw[hu];exact .own _ _ _ _ _ (by simp) hn
  exact hR.tmps t',hR.obs,hR.dist⟩
 exact this
theorem B0[Glo]{P:Program}{dst:Option Tmp}{f:Operand}{args:Array Operand}{tys:Array TypeId}{ty:TypeId}{pos:String}{aft:Array Edge}{gd:Option (Nat×Bool)}{b want:Bool}{K:St->Prop}{st:St}{fid:FuncId}{args':List V}{r:V}
  (hm:AC P fid args' r) (hf:ev st f=.fn fid) (hw:b=want->ND (args.toList.map (ev st))/\wkT (((args.toList.map (ev st)).map unG).map (pur st.ob)) args') (hobs:BY st.nx r.fcells=[])
  (hK:K ({st with nx:=st.nx+r.fcells.length,ob:=fzs (((args.toList.map (ev st)).map unG).flatMap fun v:V=>BJ v.cells) st.ob}.put dst (.gd (b==want) (opn st.nx r)))) :
  K1 P ⟨dst,.call ⟨.value f,args,tys⟩,ty,pos,aft,gd⟩ b want K st:=by
 refine .inr ⟨r,?_⟩;simp only[uniV,hf];exact⟨fun e=>⟨(hw e).1,hm.wk (hw e).2⟩,hobs,hK⟩
theorem Bb[Glo]{P:Program}{o:Oper}{K:St->Prop}{st:St}(h:opV P o K st):K1 P o true true K st:=.inl ⟨fun _=>h,fun e=>(by cases e)⟩
theorem B8[Glo]{P:Program}{o:Oper}{K:St->Prop}{st:St}(h:opV P o K st):K1 P o false false K st:=.inl ⟨fun _=>h,fun e=>(by cases e)⟩
theorem Ba[Glo]{P:Program}{o:Oper}{K:St->Prop}{st:St}(h:K (st.put o.dst .poi)):K1 P o true false K st:=.inl ⟨fun e=>(by cases e),fun _=>h⟩
theorem B9[Glo]{P:Program}{o:Oper}{K:St->Prop}{st:St}(h:K (st.put o.dst .poi)):K1 P o false true K st:=.inl ⟨fun e=>(by cases e),fun _=>h⟩
def Jv(ks:List Nat):List Nat->List (Nat×V)->List (Nat×V)
 | _,[]=>[]
 | seen,(k,v)::r=>if(ks.contains k&&!seen.contains k)=true then(k,v)::Jv ks (k::seen) r else Jv ks seen r
theorem LS(ks:List Nat):∀(l:List (Nat×V))(seen:List Nat)(t:Nat),lkT (Jv ks seen l) t=.poi\/(seen.contains t=false/\lkT (Jv ks seen l) t=lkT l t)
 | [],_,_=>.inl rfl
 | (k,v)::r,seen,t=>by
  simp only[Jv];cases hc:ks.contains k&&!seen.contains k with
  | true =>
   simp only[if_true,lkT];simp only[gX,i7]at hc;split
   ·rename_i e;subst e;exact .inr ⟨hc.2,rfl⟩
   rename_i e;rcases LS ks r (k::seen) t with h|⟨h1,h2⟩
   ·exact .inl h
   refine .inr ⟨?_,h2⟩;simp only[List.contains_cons,Bool.or_eq_false_iff]at h1;exact h1.2
  | false =>
   simp only[iR,if_false,lkT];rcases LS ks r seen t with h|⟨h1,h2⟩
   ·exact .inl h
   by_cases e:t=k
   ·subst e;rw[h1]at hc;simp only[Bool.not_false,Bool.and_true]at hc;left;have:∀(l:List (Nat×V))(seen:List Nat),lkT (Jv ks seen l) t=.poi:=fun l=>by
     induction l with
     | nil=>intro _;rfl
     | cons p l ih =>
      intro seen;obtain⟨k',v'⟩:=p;simp only[Jv];cases hc':ks.contains k'&&!seen.contains k' with
      | true =>
       simp only[if_true,lkT];split
       ·rename_i e;subst e;rw[hc]at hc';simp at hc'
       exact ih _
      | false=>simp only[iR,if_false];exact ih _
    exact this r seen
   rw[if_neg e];exact .inr ⟨h1,h2⟩
theorem WN[Glo]{P:Program}{c:Code}{Q:Exit->St->Prop}{st:St}(ks:List Nat)(h:awp P c Q {st with tmp:=Jv ks [] st.tmp}):awp P c Q st:=fun base Xa w0 a w ⟨M,hM⟩=>h base Xa w0 a w ⟨M,hM.weakT fun t=>by
 rcases LS ks st.tmp [] t with h|h
 ·exact .inl h
 exact .inr h.2⟩
theorem BI[Glo]{P:Program}{dst:Option Tmp}{f:Operand}{args:Array Operand}{tys:Array TypeId}{ty:TypeId}{pos:String}{aft:Array Edge}{gd:Option (Nat×Bool)}{b want:Bool}{K:V->List (Nat×Option Ob)->Nat->Prop}{st:St}{fid:FuncId}{args':List V}{r:V}
  (hm:AC P fid args' r) (hf:ev st f=.fn fid) (hp:(args.toList.all fun x=>!Mt (ev st x))=true) (hw:b=want->ND (args.toList.map (ev st))/\wkT (((args.toList.map (ev st)).map unG).map (pur st.ob)) args') (hobs:BY st.nx r.fcells=[])
  (hK:K (.gd (b==want) (opn st.nx r)) (fzs (((args.toList.map (ev st)).map unG).flatMap fun v:V=>BJ v.cells) st.ob) (st.nx+r.fcells.length)) :
  FM P ⟨dst,.call ⟨.value f,args,tys⟩,ty,pos,aft,gd⟩ b want st K:=by
 refine .inr ⟨r,?_⟩;simp only[uniE,hf];exact⟨hp,fun e=>⟨(hw e).1,hm.wk (hw e).2⟩,hobs,hK⟩
theorem ET[Glo]{P:Program}{o:Oper}{K:V->List (Nat×Option Ob)->Nat->Prop}{st:St}(h:LD P o st K):FM P o true true st K:=.inl ⟨fun _=>h,fun e=>(by cases e)⟩
theorem EQ[Glo]{P:Program}{o:Oper}{K:V->List (Nat×Option Ob)->Nat->Prop}{st:St}(h:LD P o st K):FM P o false false st K:=.inl ⟨fun _=>h,fun e=>(by cases e)⟩
theorem ES[Glo]{P:Program}{o:Oper}{K:V->List (Nat×Option Ob)->Nat->Prop}{st:St}(h:K .poi st.ob st.nx):FM P o true false st K:=.inl ⟨fun e=>(by cases e),fun _=>h⟩
theorem ER[Glo]{P:Program}{o:Oper}{K:V->List (Nat×Option Ob)->Nat->Prop}{st:St}(h:K .poi st.ob st.nx):FM P o false true st K:=.inl ⟨fun e=>(by cases e),fun _=>h⟩
theorem S7[Glo]{P:Program}{c:Code}{Q:Exit->St->Prop}{n nx pn:Nat}{tmp T:List (Nat×V)}{ob:List (Nat×Option Ob)}(ks:List Nat)(hT:Jv ks [] tmp=T)(h:awp P c Q ⟨n,T,nx,ob,pn⟩):awp P c Q ⟨n,tmp,nx,ob,pn⟩:=WN ks (by rw[hT];exact h)
theorem Fw[Glo]{P:Program}{ops:List (Option Tmp)}{o:Oper}{prs:List (List Nat)×List (Nat×Nat)}{r:List (Nat×List (List Nat)×List (Nat×Nat))}{u:List Oper}{K:St->Prop}{st:St}
  (h:∀K':St->Prop,(∀s,segsL P ops r u K s->K' s)->Ll P ops o K' st):segsL P ops ((1,prs)::r) (o::u) K st:=h _ fun _ h=>h
theorem Fv[Glo]{P:Program}{ops:List (Option Tmp)}{u:List Oper}{K:St->Prop}{st:St}(h:K st):segsL P ops [] u K st:=h
theorem Fx[Glo]{P:Program}{ops:List (Option Tmp)}{n:Nat}{prs:List (List Nat)}{prp:List (Nat×Nat)}{r:List (Nat×List (List Nat)×List (Nat×Nat))}{u:List Oper}{K:St->Prop}{st:St}
  (h:∀KK:List HI->Prop,(∀done,J2 P ops prs st (u.take (n+2)) done prp/\segsL P ops r (u.drop (n+2)) K (stS st (fun _=>true) done)->KK done)->Gc P ops prs st KK (u.take (n+2)) []):segsL P ops ((n+2,prs,prp)::r) u K st:=by
 rw[He (by omega)];exact h _ fun _ h=>h
theorem EN[Glo]{P:Program}{ops:List (Option Tmp)}{r:List Oper}{o:Oper}{prs:List (List Nat)}{st0:St}{K:List HI->Prop}{done:List HI}
  (h:∀F:Bool->V->List (Nat×Option Ob)->Nat->Prop,(∀eff v ob nx,Gc P ops prs st0 K r (done++[⟨o.dst,eff,v,ob,nx⟩])->F eff v ob nx)->hstep P ops o (stS st0 (fun j=>(prs.getD done.length []).contains j) (done++(o::r).map ph)) F):Gc P ops prs st0 K (o::r) done:=h _ fun _ _ _ _ h=>h
theorem Fe[Glo]{P:Program}{ops:List (Option Tmp)}{prs:List (List Nat)}{st0:St}{K:List HI->Prop}{done:List HI}(h:K done):Gc P ops prs st0 K [] done:=h
theorem EX[Glo]{P:Program}{ops:List (Option Tmp)}{prs:List (List Nat)}{st0:St}{seg:List Oper}{done:List HI}{B:Prop}(h:B):J2 P ops prs st0 seg done []/\B:=⟨trivial,h⟩
theorem Dn[Glo]{P:Program}{ops:List (Option Tmp)}{prs:List (List Nat)}{st0:St}{seg:List Oper}{done:List HI}{i j:Nat}{r:List (Nat×Nat)}{B:Prop}(h1:J2 P ops prs st0 seg done [(i,j)])(h:J2 P ops prs st0 seg done r/\B):J2 P ops prs st0 seg done ((i,j)::r)/\B:=⟨⟨h1.1,h.1⟩,h.2⟩
theorem Yk[Glo]{P:Program}{c:Code}{Q:Exit->St->Prop}{st:St}(ids:List Nat)(h:awp P c Q {st with ob:=fzs ids st.ob}):awp P c Q st:=fun base Xa w0 a w ⟨M,hM⟩=>h base Xa w0 a w ⟨M,hM.fz ids⟩
def fzO(o:Ob):Ob:={o with fz:=true}
def Ta(ob:List (Nat×Option Ob)):List (Nat×Option Ob):=ob.map fun p=>(p.1,p.2.map fzO)
theorem Ej:∀(ob:List (Nat×Option Ob))(i:Nat),lookO (Ta ob) i=(lookO ob i).map fzO
 | [],_=>rfl
 | (k,o)::r,i=>by
  have ih:=Ej r i;simp only[Ta,iI,lookO]at ih ⊢;split
  ·rfl
  exact ih
theorem Ds[Glo]{P:Program}{c:Code}{Q:Exit->St->Prop}{st:St}(h:awp P c Q {st with ob:=Ta st.ob}):awp P c Q st:=fun base Xa w0 a w ⟨M,hM⟩=>h base Xa w0 a w ⟨M,hM.sub fun id o ho=>by
 rw[Ej]at ho;obtain⟨o',h1,rfl⟩:=Option.map_eq_some_iff.1 ho;exact⟨o'.fz,h1,fun h=>by cases h⟩⟩
theorem B5[Glo]{P:Program}{x y:Code}{Q:Exit->St->Prop}{st:St}(h:∀K:St->Prop,(∀s,awp P y Q s->K s)->awp P x (thn K Q) st):awp P (.seq x y) Q st:=S9 (h _ fun _ h=>h)
@[simp] theorem opsV_nil[Glo]{P:Program}{ops:List (Option Tmp)}{K:St->Prop}{st:St}:Px P ops [] K st=K st:=rfl
@[simp] theorem opsV_cons[Glo]{P:Program}{ops:List (Option Tmp)}{r:List Oper}{o:Oper}{K:St->Prop}{st:St}:Px P ops (o::r) K st=Ll P ops o (Px P ops r K) st:=rfl
@[simp] theorem drawV_nil[Glo]{P:Program}{ops:List (Option Tmp)}{prs:List (List Nat)}{st0:St}{K:List HI->Prop}{done:List HI}:Gc P ops prs st0 K [] done=K done:=rfl
@[simp] theorem drawV_cons[Glo]{P:Program}{ops:List (Option Tmp)}{r:List Oper}{o:Oper}{prs:List (List Nat)}{st0:St}{K:List HI->Prop}{done:List HI}:Gc P ops prs st0 K (o::r) done =
  hstep P ops o (stS st0 (fun j=>(prs.getD done.length []).contains j) (done++(o::r).map ph)) (addH (Gc P ops prs st0 K r) done o.dst):=rfl
@[simp] theorem addH_full{F:List HI->Prop}{done:List HI}{dst:Option Tmp}{eff:Bool}{v:V}{ob:List (Nat×Option Ob)}{nx:Nat}:addH F done dst eff v ob nx=F (done++[⟨dst,eff,v,ob,nx⟩]):=rfl
def Gh:V->Prop
 | .sl _ _ xs=>xs.length<=maxLen
 | _=>True
def OQ:List V->Prop
 | []=>True
 | c::r=>Gh c/\OQ r
def OP:List V->Prop
 | []=>True
 | v::r=>OQ v.cells/\OP r
theorem Pf{M:Mp}{w:World}{X:Nat->Prop}{n:Nat}{v:V}{u:Value}(h:R M w X n v u):Gh v:=by
 cases h with
 | sl _ _ _ xs A len c f hlen hc hm=>simp only[Gh];omega
 | _=>trivial
theorem Ph:∀{cs:List V},(∀c∈cs,Gh c)->OQ cs
 | [],_=>trivial
 | c::_,h=>⟨h c (g7 ..),Ph fun c hc=>h c (gW _ hc)⟩
theorem Pg[Glo]:∀{vs:List V},(∀v∈vs,∀c∈v.cells,Gh c)->OP vs
 | [],_=>trivial
 | v::_,h=>⟨Ph (h v (g7 ..)),Pg fun v hv=>h v (gW _ hv)⟩
theorem AC.lens[Glo]{P:Program}{f:FuncId}{args:List V}{r:V}(hc:D7 P f=true)(h:OP args->AC P f args r):AC P f args r:=by
 refine⟨hc,fun w Xa vals M hXa hs hr=>(h (Pg fun v hv c hcv=>?_)).2 w Xa vals M hXa hs hr⟩;obtain⟨j,hj⟩:=List.getElem?_of_mem hv;have hR:=hr j v hj;generalize vals.getD j undef=u at hR;have hone:=Pf hR;cases hR with
 | st _ cs arr hl h1 hh =>
  obtain⟨i,hi⟩:=List.getElem?_of_mem hcv;exact Pf (hh i c hi)
 | _=>simp only[V.cells,List.mem_singleton]at hcv;subst hcv;exact hone
attribute [simp] KL Vo Yp zc dstV szOk copyV clrV Gf gdV slotsOf Jv Ta fzO wk1 wkL wkC wkT wkR ND Ll opV pv ev lkT St.put lookO Ez XP of1 thn blk binV binI binS shI unV isSh bv mkV X1 dD IX Gp Op.operands Call.operands okG unG
 retQ Z2 resV V.cells Cn Yr LY Nl Eu DT pur spl EO HS fz1 fzs BJ YR UI appV appS Qw V.fcells opn O6 K8 UM O5 BY Bn Vq dG slcV
 retI St.startI isSt lkV
 hpv hstep LD J2 Zz stS eT eO Mt isEff ph St.start Vn Ec GE
end Go.Ab
namespace Go.Ab
open Go.RowKit
def again(I:Nat->St->Prop)(k:Nat)(s':St):Prop:=∃k' s'' ρ,k'<k/\Le ρ s' s''/\I k' s''
theorem EF{I:Nat->St->Prop}{k:Nat}{s':St}(k':Nat)(s'':St)(ρ:Nat->Nat)(h:k'<k)(hI:I k' s'')(hle:Le ρ s' s''):again I k s':=⟨k',s'',ρ,h,hle,hI⟩
theorem ME[Glo]{P:Program}{st:St}{Q:Exit->St->Prop}{c:Code}(I:Nat->St->Prop){k0:Nat}{st0:St}{ρ0:Nat->Nat}(hle:Le ρ0 st st0)(h0:I k0 st0)
  (round:∀k s,I k s->s.n=st.n->awp P c (thn (again I k) Q) s):awp P (.loop c) Q st:=WO I hle h0 round
theorem G5[Glo]{P:Program}{c:Code}{Q:Exit->St->Prop}{st:St}(t id:Nat){o:Ob}(ht:lkT st.tmp t=.own id)(ho:lookO st.ob id=some o)(hb:o.box=false)
  (h:awp P c Q {st with tmp:=(t,.sl o.sz false o.xs)::st.tmp,ob:=fzs [id] st.ob}):awp P c Q st:=fun base Xa w0 a w ⟨M,hM⟩=>by
 have hv:=hM.tmps t;rw[ht]at hv;have hone:(a.tmps.getD t undef).oneCell'=true:=by
  generalize a.tmps.getD t undef=u at hv ⊢;cases hv with
  | own _ _ A l c hid hv=>rfl
 have hC:Cs M w (Xf base Xa w M st.ob) st.nx [.own id] [a.tmps.getD t undef]:=⟨rfl,fun u hu=>by rw[List.mem_singleton.1 hu];exact hone,fun j c hc=>by
  match j,hc with
  | 0,hc=>simp only[iS,gQ]at hc;subst hc;exact hv
  | j+1,hc=>simp at hc⟩
 have hp:=(Cs.pur hM hC).rel 0 (DT st.ob (.own id)) rfl;have he:DT st.ob (.own id)=.sl o.sz false o.xs:=by simp only[DT,ho,hb,cond_false]
 rw[he]at hp;have hF:=hM.fz [id];refine h base Xa w0 a w ⟨M,hF.below,hF.hbase,hF.xa,hF.gh,hF.pin,hF.defers,hF.size,fun t'=>?_,hF.obs,hF.dist⟩;simp only[lkT];split
 ·rename_i e;subst e;exact hp.mono (Nat.zero_le _) (fun _ h=>absurd h (by omega)) (fun _ h=>h) (fun _ _=>rfl)
 exact hF.tmps t'
theorem Bt.mono[Glo]{P:Program}{f:FuncId}{args:List V}{nx:Nat}{ob:List (Nat×Option Ob)}{Post Post':V->Nat->List (Nat×Option Ob)->Prop}(h:Bt P f args nx ob Post)(hp:∀r nx' ob',Post r nx' ob'->Post' r nx' ob'):Bt P f args nx ob Post' :=
 ⟨h.1,fun base Xa w0 w M vals h0 hs hr=>(h.2 base Xa w0 w M vals h0 hs hr).mono fun e w' ⟨val,r,nx',ob',M',h1,h2,h3,h4⟩=>⟨val,r,nx',ob',M',h1,hp r nx' ob' h2,h3,h4⟩⟩
theorem Cc[Glo]{P:Program}{y:Code}{Q:Exit->St->Prop}{K:St->Prop}{G:Prop}{α:Type}(f:α->St)(pre:α->Prop)(hK:∀s,awp P y Q s->K s)(h1:∀x,pre x->awp P y Q (f x))
  (h2:(∀(x:α)(s:St)(ρ:Nat->Nat),pre x->Le ρ s (f x)->K s)->G):G:=h2 fun x s _ hp hle=>hK s (awp_le hle (h1 x hp))
def isFs(rc:TypeId->List V->Prop):List Field->List V->Prop
 | [],vs=>vs=[]
 | f::r,vs=>∃a b,vs=a++b/\rc f.type a/\isFs rc r b
def isA(rc:List V->Prop):Nat->List V->Prop
 | 0,vs=>vs=[]
 | n+1,vs=>∃a b,vs=a++b/\rc a/\isA rc n b
def isV(P:Program):Nat->TypeId->List V->Prop
 | 0,_,_=>False
 | d+1,t,vs=>match P.underlying t with
  | some .bool=>∃b,vs=[.bool b]
  | some (.int k)=>∃n,(k.min<=n/\n<=k.max)/\vs=[.int k n]
  | some .string=>∃s,vs=[.str s]
  | some (.slice e)=>∃xs,vs=[.sl (P.cellsOf e) false xs]/\∀x∈xs,isV P d e x
  | some (.struct fs)=>isFs (isV P d) fs.toList vs
  | some (.array n e)=>isA (isV P d e) n vs
  | _=>False
def fsOk(P:Program)(rc:TypeId->Bool)(tot:Nat):List Field->Nat->Bool
 | [],o=>decide (o=tot)
 | f::r,o=>decide (f.offset=o)&&decide (o+P.cellsOf f.type<=tot)&&rc f.type&&fsOk P rc tot r (o+P.cellsOf f.type)
def Gr(P:Program):Nat->TypeId->Bool
 | 0,_=>false
 | d+1,t=>match P.underlying t with
  | some .bool=>true
  | some (.int _)=>true
  | some .string=>true
  | some (.slice e)=>decide (0<P.cellsOf e)&&Gr P d e
  | some (.struct fs)=>fsOk P (Gr P d) (P.cellsOf t) fs.toList 0
  | some (.array n e)=>decide (P.cellsOf t=n*P.cellsOf e)&&Gr P d e
  | _=>false
end Go.Ab
namespace Go.Proofs.YtjkmhmepljamoaaGreat
open Go.Ab Go.ChangeShapes Go.WideShapes Go.ChangeAt Go.RowKit
section
theorem AA{n:Int}(h1:-9223372036854775808<=n:=by omega)(h2:n<=9223372036854775807:=by omega):IntKind.i64.wrap n=n:=by rw[IntKind.wrap_i64];omega
def strs(l:List (List UInt8)):List (List V):=l.map fun s=>[.str s]
theorem fK(l:List (List UInt8))(i:Nat)(h:i<l.length):(strs l)[i]? =some [.str l[i]]:=by simp[strs,h]
theorem BV(l:List (List UInt8)):(strs l).length=l.length:=by simp[strs]
theorem Q8(l:List (List UInt8))(s:List UInt8):strs l++[[.str s]]=strs (l++[s]):=by simp[strs]
theorem Qv(y:List UInt8):(AM y).length=y.length:=by simp[AM]
theorem Dl(y:List UInt8):(AM y).map Ec=y:=by
 induction y with
 | nil=>rfl
 | cons c y ih=>simp only[AM,iI]at ih ⊢;rw[ih];simp[Ec]
theorem Dk(y:List UInt8):∀z∈AM y,Ch z:=by
 intro z hz;simp only[AM,List.mem_map]at hz;obtain⟨c,_,rfl⟩:=hz;exact⟨c,rfl⟩
theorem Q9(l:List (List UInt8))(i:Nat)(z:List UInt8):(strs l).set i [.str z]=strs (l.set i z):=by simp[strs,List.map_set]
theorem MO(z:Int):Ch [.int .u8 (IntKind.u8.wrap z)]:=by
 refine⟨UInt8.ofNat (IntKind.u8.wrap z).toNat,?_⟩;have h:0<=IntKind.u8.wrap z/\IntKind.u8.wrap z<256:=by rw[IntKind.wrap_u8];omega
 have:((UInt8.ofNat (IntKind.u8.wrap z).toNat).toNat:Int)=IntKind.u8.wrap z:=by
  rw[UInt8.toNat_ofNat'];omega
 rw[this]
def ints(k:IntKind)(l:List Int):List (List V):=l.map fun n=>[.int k n]
theorem Wv(k:IntKind)(l:List Int):(ints k l).length=l.length:=by simp[ints]
theorem cB(k:IntKind)(l:List Int)(i:Nat)(h:i<l.length):(ints k l)[i]? =some [.int k l[i]]:=by simp[ints,h]
abbrev M0:Mp:=fun _=>undef
abbrev X0(w:World):Nat->Prop:=fun b=>b<w.heap.size
theorem says[Glo]{P:Program}{f:FuncId}{args:List V}{w:World}{vals:Array Value}(h:AC P f args (.bool true))(hg:GIn w (X0 w))(hs:vals.size=args.length)
  (hr:∀(j:Nat)(u:V),args[j]? =some u->R M0 w (X0 w) 0 u (vals.getD j undef)) :
  Calls P f vals w fun e w'=>e=.returned (.bool true)/\Below w.heap.size w w' :=
 (h.2 w (X0 w) vals M0 ⟨fun _ h=>h,hg,rfl⟩ hs hr).mono fun e w' ⟨val,he,hb,hres⟩=>by
  have:=(hres (fun j=>(Jk val).getD j undef) 0 (fun j _=>by simp)).1;have:=Et (b:=true) this;subst this;exact⟨he,hb⟩
theorem cell_lt{w:World}{ad:Addr}{v:Value}(h:w.cell? ad=some v):ad.block<w.heap.size:=by
 rcases Nat.lt_or_ge ad.block w.heap.size with h'|h'
 ·exact h'
 unfold World.cell? at h;simp[Array.getElem?_eq_none h']at h
theorem add_block(ad:Addr)(j:Nat):(ad.add j).block=ad.block:=by unfold Addr.add;split<;>rfl
variable {P:Program} {w:World} {base:Nat} {spare:Nat->Bool} {held:Bool} {H:Type} {enc:TypeId×Value->H}
theorem Vv(s:ByteArray):R M0 w (X0 w) 0 (.str s.data.toList) (.string s):=by
 have:s=⟨s.data.toList.toArray⟩:=by cases s;simp
 conv=>rhs;rw[this]
 exact .str _ _
theorem MA{v:V}{u:Value}(h:R M0 w (X0 w) 0 v u)(h1:u.oneCell'=true):Cs M0 w (X0 w) 0 [v] [u] :=
 ⟨rfl,fun x hx=>by rw[List.mem_singleton.1 hx];exact h1,fun j c hj=>by
  match j,hj with
  | 0,hj=>simp only[iS,gQ]at hj;subst hj;exact h
  | j+1,hj=>simp at hj⟩
theorem Yh{a b:List V}{p q:List Value}(ha:Cs M0 w (X0 w) 0 a p)(hb:Cs M0 w (X0 w) 0 b q):Cs M0 w (X0 w) 0 (a++b) (p++q):=by
 refine⟨by rw[gV,gV,ha.len,hb.len],fun u hu=>?_,fun j c hj=>?_⟩
 ·rcases List.mem_append.1 hu with h|h
  ·exact ha.one u h
  exact hb.one u h
 by_cases hl:j<a.length
 ·rw[iQ hl]at hj;have:=ha.rel j c hj;rw[gP]at this ⊢;rwa[iQ (by rw[<- ha.len];exact hl)]
 rw[iN (by omega)]at hj;have:=hb.rel _ c hj;rw[gP]at this ⊢;rw[iN (by rw[<- ha.len];omega),<- ha.len];exact this
theorem Bu(q:List (List V))(s:Nat)(h:∀y∈q,y.length=s):q.flatten.length=q.length*s:=by
 induction q with
 | nil=>simp
 | cons y q ih =>
  rw[List.flatten_cons,gV,ih (fun z hz=>h z (gW _ hz)),h y (g7 ..),iO,Nat.add_mul];omega
theorem Tv[Glo]{d:Nat}{t e:TypeId}(ht:P.underlying t=some (.slice e))(hpos:0<P.cellsOf e)
  (ih:∀n cs x,DataW.trod enc P w base spare held n e cs=some x->∃vs,isV P d e vs/\Cs M0 w (X0 w) 0 vs cs) {n:Nat} {cs:List Value} {x:DataW H×List MemPlace}
  (h:DataW.trod enc P w base spare held n t cs=some x):∃xs,(∀y∈xs,isV P d e y)/\Cs M0 w (X0 w) 0 [.sl (P.cellsOf e) false xs] cs:=by
 rcases DataW.trod_slice ht h with⟨rfl,_⟩|⟨a,len,cap,elems,rest,n,_,rfl,rfl,hb,hl,hm,hlen,hel,_,_⟩
 ·exact⟨[],by simp,MA (.sl _ _ false [] none 0 0 (fun _=>undef) rfl (g8 _) (by decide) (by simp) (fun h=>by omega) (by simp) (fun h=>by omega) (by simp)) rfl⟩
 have each:∀i,i<len->∃vs cs',isV P d e vs/\Cs M0 w (X0 w) 0 vs cs'/\cs'.length=P.cellsOf e/\∀j,j<P.cellsOf e->w.cell? (a.add (i*P.cellsOf e+j))=cs'[j]? :=fun i hi=>by
  have hE:=hel i hi;have:elems[i]? =some (elems[i]'(by omega)):=gR _;rw[this,Option.bind_eq_some_iff]at hE;obtain⟨c1,hc1,hy1⟩:=hE;obtain⟨_,hl1,hcell⟩:=World.cells?_some hc1;obtain⟨vs,h1,h2⟩:=ih _ _ _ hy1;exact⟨vs,c1,h1,h2,hl1,fun j hj=>by rw[<- hcell j hj,Addr.add_add]⟩
 let g:Nat->List V:=fun i=>if hi:i<len then Classical.choose (each i hi)else []
 have hg:∀i (hi:i<len),∃cs',isV P d e (g i)/\Cs M0 w (X0 w) 0 (g i) cs'/\cs'.length=P.cellsOf e/\∀j,j<P.cellsOf e->w.cell? (a.add (i*P.cellsOf e+j))=cs'[j]? :=fun i hi=>by
  have:=Classical.choose_spec (each i hi);simp only[g,hi,dif_pos];exact this
 have hgl:∀i,i<len->(g i).length=P.cellsOf e:=fun i hi=>by
  obtain⟨cs',_,h2,h3,_⟩:=hg i hi;rw[h2.len,h3]
 have hcl:∀k,k<len*P.cellsOf e->∃u,w.cell? (a.add k)=some u/\u.oneCell'=true/\∀v,(g (k/P.cellsOf e))[k%P.cellsOf e]? =some v->R M0 w (X0 w) 0 v u:=fun k hk=>by
  have hi:k/P.cellsOf e<len:=Nat.div_lt_of_lt_mul (by rwa[Nat.mul_comm]);obtain⟨cs',h1,h2,h3,h4⟩:=hg _ hi;have hj:=Nat.mod_lt k hpos;have:=h4 _ hj;rw[Nat.div_add_mod' k,gR (by omega)]at this;refine⟨_,this,h2.one _ (List.getElem_mem _),fun v hv=>?_⟩;have:=h2.rel _ v hv;rwa[gP,gR (by omega)]at this
 have hxl:((List.range len).map g).length=len:=by simp
 have hxm:∀y∈(List.range len).map g,∃i,i<len/\y=g i:=fun y hy=>by
  obtain⟨i,hi,rfl⟩:=List.mem_map.1 hy;exact⟨i,List.mem_range.1 hi,rfl⟩
 have hflat:∀(m:Nat),m<=len->∀(k:Nat)(v:V),((List.range m).map g).flatten[k]? =some v->k<m*P.cellsOf e/\(g (k/P.cellsOf e))[k%P.cellsOf e]? =some v:=by
  intro m;induction m with
  | zero=>intro _ k v hv;simp at hv
  | succ m ihm =>
   intro hm' k v hv;rw[List.range_succ,List.map_append,List.flatten_append]at hv;have hfl:((List.range m).map g).flatten.length=m*P.cellsOf e:=by
    rw[Bu ((List.range m).map g) (P.cellsOf e) fun y hy=>?_]
    ·simp
    obtain⟨i,hi,rfl⟩:=List.mem_map.1 hy;exact hgl i (by have:=List.mem_range.1 hi;omega)
   by_cases hk:k<m*P.cellsOf e
   ·rw[iQ (by omega)]at hv;obtain⟨h1,h2⟩:=ihm (by omega) k v hv;exact⟨by rw[Nat.add_mul];omega,h2⟩
   rw[iN (by omega),hfl]at hv;simp only[iI,List.map_nil,List.flatten_cons,List.flatten_nil,iU]at hv;have hlt:=(List.getElem?_eq_some_iff.1 hv).1;rw[hgl m (by omega)]at hlt;have e1:k/P.cellsOf e=m:=Nat.div_eq_of_lt_le (by omega) (by rw[Nat.add_mul];omega);have e2:k%P.cellsOf e=k-m*P.cellsOf e:=by
    have:=Nat.div_add_mod' k (P.cellsOf e);rw[e1]at this;omega
   exact⟨by rw[Nat.add_mul];omega,by rw[e1,e2];exact hv⟩
 refine⟨(List.range len).map g,fun y hy=>?_,MA (.sl _ _ false _ (some a) len cap (fun k=>(w.cell? (a.add k)).getD undef) hxl.symm hl hm (by simp) (fun h=>by omega) (fun y hy=>?_) (fun h0=>⟨a,rfl,?_,fun j hj=>?_⟩) fun j u hu=>?_) rfl⟩
 ·obtain⟨i,hi,rfl⟩:=hxm y hy;obtain⟨_,h1,_⟩:=hg i hi;exact h1
 ·obtain⟨i,hi,rfl⟩:=hxm y hy;exact hgl i hi
 ·obtain⟨u,hu,_⟩:=hcl 0 (Nat.mul_pos h0 hpos);have:=cell_lt hu;rwa[add_block]at this
 ·obtain⟨u,hu,h1,_⟩:=hcl j hj;rw[hu];exact⟨rfl,h1⟩
 obtain⟨h1,h2⟩:=hflat len (g8 _) j u hu;obtain⟨u',hu',_,h4⟩:=hcl j h1;rw[hu'];exact h4 u h2
theorem K2[Glo]{d:Nat}{tot:Nat}(ih:∀t,Gr P d t=true->∀n cs x,DataW.trod enc P w base spare held n t cs=some x->∃vs,isV P d t vs/\Cs M0 w (X0 w) 0 vs cs){n:Nat}{cs:List Value}(hl:cs.length=tot):
  ∀(fs:List Field)(o:Nat),o<=tot->fsOk P (Gr P d) tot fs o=true->(∀f∈fs,∃y,DataW.trod enc P w base spare held n f.type ((cs.drop f.offset).take (P.cellsOf f.type))=some y) ->
   ∃vs,isFs (isV P d) fs vs/\Cs M0 w (X0 w) 0 vs (cs.drop o)
 | [],o,_,hok,_=>by
  simp only[fsOk,decide_eq_true_eq]at hok;refine⟨[],rfl,?_⟩;rw[List.drop_of_length_le (by omega)];exact⟨rfl,by simp,by simp⟩
 | f::r,o,ho,hok,hf=>by
  simp only[fsOk,gX,decide_eq_true_eq]at hok;obtain⟨⟨⟨h1,hle⟩,h2⟩,h3⟩:=hok;obtain⟨y,hy⟩:=hf f (g7 ..);obtain⟨a,ha,hca⟩:=ih _ h2 _ _ _ hy;obtain⟨b,hb,hcb⟩:=K2 ih hl r _ hle h3 (fun f' hf'=>hf f' (gW _ hf'));refine⟨a++b,⟨a,b,rfl,ha,hb⟩,?_⟩;have:=Yh hca hcb;rw[h1,<- List.drop_drop,List.take_append_drop]at this;exact this
theorem Tu[Glo]{d:Nat}{e:TypeId}(ih:∀n cs x,DataW.trod enc P w base spare held n e cs=some x->∃vs,isV P d e vs/\Cs M0 w (X0 w) 0 vs cs){n:Nat}{cs:List Value}:
  ∀(k o:Nat),cs.length=o+k*P.cellsOf e->(∀i,i<k->∃y,DataW.trod enc P w base spare held n e ((cs.drop (o+i*P.cellsOf e)).take (P.cellsOf e))=some y) ->
   ∃vs,isA (isV P d e) k vs/\Cs M0 w (X0 w) 0 vs (cs.drop o)
 | 0,o,hl,_=>⟨[],rfl,by rw[List.drop_of_length_le (by omega)];exact⟨rfl,by simp,by simp⟩⟩
 | k+1,o,hl,h=>by
  obtain⟨y,hy⟩:=h 0 (by omega);rw[Nat.zero_mul,Nat.add_zero]at hy;obtain⟨a,ha,hca⟩:=ih _ _ _ hy;obtain⟨b,hb,hcb⟩:=Tu ih k (o+P.cellsOf e) (by rw[hl,Nat.add_mul];omega) (fun i hi=>by
   have:=h (i+1) (by omega);rw[Nat.add_mul,Nat.one_mul,show o+(i*P.cellsOf e+P.cellsOf e)=o+P.cellsOf e+i*P.cellsOf e by omega]at this;exact this)
  refine⟨a++b,⟨a,b,rfl,ha,hb⟩,?_⟩;have:=Yh hca hcb;rw[<- List.drop_drop,List.take_append_drop]at this;exact this
theorem opens[Glo]:∀(d:Nat)(t:TypeId),Gr P d t=true->∀n cs x,DataW.trod enc P w base spare held n t cs=some x->∃vs,isV P d t vs/\Cs M0 w (X0 w) 0 vs cs
 | 0,_,h=>by simp[Gr]at h
 | d+1,t,hok=>fun n cs x h=>by
  unfold Gr at hok;split at hok
  ·rename_i ht;obtain⟨b,rfl,_⟩:=DataW.trod_bool ht h;exact⟨_,by simp only[isV,ht];exact⟨b,rfl⟩,MA (.bool _ _) rfl⟩
  ·rename_i k ht;obtain⟨z,rfl,_,hw⟩:=DataW.trod_int ht h;exact⟨_,by simp only[isV,ht];exact⟨z,(Lit.wf_int_iff _ _).1 hw,rfl⟩,MA (.int _ _ _) rfl⟩
  ·rename_i ht;obtain⟨s,rfl,_,_⟩:=DataW.trod_string ht h;exact⟨_,by simp only[isV,ht];exact⟨s.data.toList,rfl⟩,MA (Vv s) rfl⟩
  ·rename_i e ht;simp only[gX,decide_eq_true_eq]at hok;obtain⟨xs,h1,h2⟩:=Tv ht hok.1 (opens d e hok.2) h;exact⟨_,by simp only[isV,ht];exact⟨xs,rfl,h1⟩,h2⟩
  ·rename_i fs ht;obtain⟨xs,n,_,rfl,hl,hlen,hf⟩:=DataW.trod_struct ht h;obtain⟨vs,h1,h2⟩:=K2 (tot:=P.cellsOf t) (n:=n) (opens d) hl fs.toList 0 (Nat.zero_le _) hok (fun f hf'=>by
    obtain⟨i,hi⟩:=List.getElem?_of_mem hf';have hi':i<xs.length:=by
     have:=(List.getElem?_eq_some_iff.1 hi).1;rw[hlen];simpa using this
    exact⟨xs[i],(hf i f (by simpa using hi)).trans (gR hi')⟩)
   exact⟨vs,by simp only[isV,ht];exact h1,by simpa using h2⟩
  ·rename_i n e ht;simp only[gX,decide_eq_true_eq]at hok;obtain⟨xs,m,_,rfl,hl,hlen,hf⟩:=DataW.trod_array ht h;obtain⟨vs,h1,h2⟩:=Tu (n:=m) (cs:=cs) (opens d e hok.2) n 0 (by omega) (fun i hi=>⟨xs[i]'(by omega),by
    have:=hf i hi;rw[i6,this];exact gR _⟩)
   exact⟨vs,by simp only[isV,ht];exact h1,by simpa using h2⟩
  simp at hok
theorem Ze[Glo]{t e:TypeId}{v:Value}{dd:DataW H}{p:List MemPlace}{r:Reach}{b0:Nat}(d:Nat)(hok:Gr P (d+1) t=true)(hs:P.underlying t=some (.slice e))(hv:Value.okWide P w r b0 t v)(h:DataW.Trod enc P w base spare held t v dd p):
  ∃xs,(∀x∈xs,isV P d e x)/\R M0 w (X0 w) 0 (.sl (P.cellsOf e) false xs) v:=by
 obtain⟨a,len,cap,rfl⟩:=okWide_slice hs hv;obtain⟨fuel,hf⟩:=h;obtain⟨vs,h1,h2⟩:=opens (d+1) t hok _ _ _ hf;unfold isV at h1;simp only[hs]at h1;obtain⟨xs,rfl,hx⟩:=h1;exact⟨xs,hx,h2.rel 0 _ rfl⟩
end
end Go.Proofs.YtjkmhmepljamoaaGreat
end
section
namespace Go.Ab
open Go.RowKit
def noDef(o:Oper):Bool:=match o.op with
 | .defer _=>false
 | _=>true
theorem XN{o:Oper}(h:noDef o=true):∀c,o.op≠.defer c:=fun c e=>by unfold noDef at h;rw[e]at h;cases h
section
variable {P:Program} {base:Nat} {Xa:Nat->Prop} {w0:W0} {K:St->Prop}
theorem cU{o:Oper}{a:Act}{w:World}{N:Act->World->Prop}{Q:Exit->Act->World->Prop}{F:Fence}(hF:F=Fence.wide\/∃l,F=Fence.wide.inRound l)(ho:∀c,o.op≠.defer c)(n:Nat)
  (h:o.wp P a w N fun _ _ _=>False):o.wpIn F n P a w N Q:=by
 have hfn:∀f,F.fn f:=fun f=>by rcases hF with rfl|⟨l,rfl⟩<;>trivial
 have hdp:F.depth.isSome=true->1<=n:=fun h=>by rcases hF with rfl|⟨l,rfl⟩<;>simp[Fence.wide,Fence.inRound]at h
 refine⟨fun f _=>hfn f,?_⟩;rw[Oper.semAt_plain F _ _ ho];unfold Oper.wp at h;revert h;generalize (execOp a.eval o).run P w=res;intro h;cases res with
 | ok nx w1 =>
  cases nx with
  | value v=>exact h
  | skip=>exact h
  | defer d=>exact h
  | enter f args =>
   have h':Calls P f args w1 fun|.returned v,w''=>N (a.put o.dst v) w''|.panicked chain,w''=>Q (.panic chain) a w''|.outgrown,_=>LetsOut Q:=by
    refine Calls.mono h fun e w' h=>?_;cases e with
    | returned v=>exact h
    | panicked c=>exact h.elim
    | outgrown=>obtain⟨_,_,h⟩:=h;exact h.elim
   refine⟨hdp,?_⟩;rcases hF with rfl|⟨l,rfl⟩
   ·exact callsIn_wide.2 h'
   exact(callsIn_wide (n:=n-1)).2 h'
  | row r args =>
   refine⟨hdp,?_⟩;have h':RowsIn Fence.wide (n-1) P r args w1 fun v w''=>N (a.put o.dst v) w'':=fun c cs _=>let ⟨v,w',q,s⟩:=h c cs;⟨v,w',q,stepsIn_wide.2 s⟩
   rcases hF with rfl|⟨l,rfl⟩
   ·exact h'
   exact h'
  | _=>exact h.elim
 | halt e w1=>cases e<;>exact h.elim
theorem UN[Glo]{ops:Array Oper}{QC:Exit->Act->World->Prop}{m:Nat}{F:Fence}{n:Nat}(hF:F=Fence.wide\/∃l,F=Fence.wide.inRound l)(rest:List Oper)
  (hQ:∀a w,Nx base Xa w0 m K a w->wpListIn F n P ops QC rest a w):∀(l:List Oper)(st:St)(a:Act)(w:World),st.n=m->Px P (slotsOf ops.toList) l K st->(l.all (okO P m))=true->l.all noDef=true->Rel base Xa w0 st a w->wpListIn F n P ops QC (l++rest) a w
 | [],st,a,w,hn,h,_,_,hR=>hQ a w ⟨st,hn,h,hR⟩
 | o::r,st,a,w,hn,h,hok,hnd,⟨M,hR⟩=>by
  simp only[List.all_cons,gX]at hok hnd;have next:∀a' w',Nx base Xa w0 st.n (Px P (slotsOf ops.toList) r K) a' w'->wpListIn F n P ops QC (r++rest) a' w':=fun a' w' ⟨st',h1,h2,h3⟩=>UN hF rest hQ r st' a' w' (h1.trans hn) h2 hok.2 hnd.2 h3
  have hs:=Hg (QC:=fun _ _ _=>False) h (by rw[hn];exact hok.1) hR;rw[iT];unfold wpListIn;split
  ·rename_i hw;rw[if_pos hw]at hs;exact cU hF (XN hnd.1) n (DR hs next)
  rename_i hw;rw[if_neg hw]at hs;exact⟨fun f _=>by rcases hF with rfl|⟨l,rfl⟩<;>trivial,next _ _ hs⟩
theorem O7[Glo]{ops:Array Oper}{QC:Exit->Act->World->Prop}{m:Nat}{F:Fence}{n:Nat}(hF:F=Fence.wide\/∃l,F=Fence.wide.inRound l)
  (hQ:∀a w,Nx base Xa w0 m K a w->QC .normal a w) (l:List Oper) (st:St) (a:Act) (w:World) (h1:st.n=m) (h2:Px P (slotsOf ops.toList) l K st) (h3:(l.all (okO P m))=true) (h4:l.all noDef=true) (h5:Rel base Xa w0 st a w):wpListIn F n P ops QC l a w:=by
 have:=UN (ops:=ops) (QC:=QC) (n:=n) hF [] hQ l st a w h1 h2 h3 h4 h5;rwa[iU]at this
end
structure LoopD where
 fn:FuncId
 ps:Array Tmp
 asg:Code
 body:Code
 T:List (Nat×V)
 n:Nat
 nx:Nat
 M0:Mp
 dl:Nat
def LoopD.at(Y:LoopD)(tm:Array Value)(s:LoopState):Obj:=.loop {state:=s,pending:=none,fn:=Y.fn,tmps:=tm,params:=Y.ps,assign:=Y.asg,body:=Y.body,defers:=Y.dl}
def yOk(l:Nat)(Y:LoopD)(w0:W0):Prop :=
 ∃tm A B,tm.size=Y.n/\w0.mks=A++(l,Y.at tm .ready)::B/\(∀t,w0.gh Y.M0 Y.nx (lkT Y.T t) (tm.getD t undef))/\∀i,i<Y.nx->w0.pm i=Y.M0 i
def GloB:Type:=Glo
@[reducible] def gly(g:GloB)(l:Nat)(Y:LoopD):Glo :=
 {(show Glo from g)with
  wok:=yOk l Y
  pmin:=Y.nx
  wokA:=fun{w0 pm gh mk} h hp hg=>by
   obtain⟨tm,A,B,h1,h2,h3,h4⟩:=h;exact⟨tm,mk++A,B,h1,by simp[h2],fun t=>hg _ _ _ _ (h3 t),fun i hi=>(hp i hi).trans (h4 i hi)⟩}
section
variable {P:Program} {base:Nat} {Xa:Nat->Prop} {w0:W0} {w:World} {st:St} {a:Act} {M:Mp} {g:GloB} {l:Nat} {Y:LoopD}
theorem RelM.ofY[ht:@Tot g](h:@RelM (gly g l Y) base Xa w0 st a w M):@RelM g base Xa w0 st a w M:=by
 obtain⟨h1,h2,⟨h3,_⟩,h4,⟨⟨_,h5⟩,h6⟩,h7,h8,h9,h10,h11⟩:=h;exact @RelM.mk g _ _ _ _ _ _ _ h1 h2 (@XaW.mk g _ _ _ h3 (@Tot.t g ht _)) h4 ⟨⟨by rw[@Tot.p g ht];exact Nat.zero_le _,h5⟩,h6⟩ h7 h8 h9 h10 h11
theorem RelM.toY(h:@RelM g base Xa w0 st a w M)(hy:yOk l Y w0)(hn:Y.nx<=st.pn):@RelM (gly g l Y) base Xa w0 st a w M:=by
 obtain⟨h1,h2,⟨h3,_⟩,h4,⟨⟨_,h5⟩,h6⟩,h7,h8,h9,h10,h11⟩:=h;exact @RelM.mk (gly g l Y) _ _ _ _ _ _ _ h1 h2 (@XaW.mk (gly g l Y) _ _ _ h3 hy) h4 ⟨⟨hn,h5⟩,h6⟩ h7 h8 h9 h10 h11
theorem Marks.turn{X:Nat->Prop}{A B:List (Nat×Obj)}{o o':Obj}(h:Marks base w X (A++(l,o)::B))(ho':isRow o'=false):Marks base (w.putObj l o') X (A++(l,o')::B):=by
 have hl:=h.2 (l,o) (by simp);have hlt:l<w.heap.size:=(Array.getElem?_eq_some_iff.1 hl.2.2.1).1;have hnd:=h.1;simp only[List.map_append,iI,List.nodup_append,List.nodup_cons]at hnd;obtain⟨hA,⟨hlB,hB⟩,hAB⟩:=hnd;have hoth:∀p∈A++(l,o)::B,p.1≠l->base<=p.1/\X p.1/\(w.putObj l o').heap[p.1]? =some p.2/\isRow p.2=false:=fun p hp hne=>by
  obtain⟨h1,h2,h3,h4⟩:=h.2 p hp;exact⟨h1,h2,(World.putObj_heap_other hne).trans h3,h4⟩
 refine⟨by simpa only[List.map_append,iI]using h.1,fun p hp=>?_⟩;rcases List.mem_append.1 hp with hp|hp
 ·exact hoth p (List.mem_append_left _ hp) (fun e=>hAB p.1 (List.mem_map.2 ⟨p,hp,rfl⟩) l (by simp) e)
 rcases List.mem_cons.1 hp with rfl|hp
 ·exact⟨hl.1,hl.2.1,World.putObj_heap_same hlt,ho'⟩
 exact hoth p (List.mem_append_right _ (gW _ hp)) (fun e=>hlB (e▸List.mem_map.2 ⟨p,hp,rfl⟩))
theorem R_yld{n l:Nat}{X:Nat->Prop}{u:Value}(h:R M w X n (.yld l) u):u=.func (.yield l) #[] #[]:=by cases h;rfl
def rndV(g:GloB)(P:Program)(Y:LoopD)(p i1 i2 bid:Nat)(asg bod:List Oper)(v:V)(nx:Nat)(ob:List (Nat×Option Ob))(K:Nat->List (Nat×Option Ob)->Prop):Prop :=
 @Px g P (slotsOf asg) asg (fun s1=>@Px g P (slotsOf bod) bod (fun s2=>s2.pn=nx/\K s2.nx s2.ob) s1) ⟨Y.n,(p,v)::Y.T,nx,ob,nx⟩
structure LoopOk(P:Program)(Y:LoopD)(p i1 i2 bid:Nat)(asg bod:List Oper):Prop where
 eps:Y.ps=#[p]
 eas:Y.asg=.region i1 asg.toArray false
 ebo:Y.body=.block bid (.region i2 bod.toArray false)
 hp:p<Y.n
 a1:asg.all (okO P Y.n)=true
 a2:asg.all noDef=true
 b1:bod.all (okO P Y.n)=true
 b2:bod.all noDef=true
theorem PM[ht:@Tot g]{o:Oper}{f x:Operand}{tys:Array TypeId}(ho:o.op=.call {callee:=.value f,args:=#[x],argTypes:=tys}){p i1 i2 bid:Nat}{asg bod:List Oper}(hY:LoopOk P Y p i1 i2 bid asg bod)
  (hf:@ev (gly g l Y) st f=.yld l) (hgv:okG (@ev (gly g l Y) st x)) {K:St->Prop} {Q:Exit->Act->World->Prop} {n:Nat}
  (h:rndV g P Y p i1 i2 bid asg bod (unG (@ev (gly g l Y) st x)) st.nx st.ob fun nx ob=>K ({st with nx:=nx,ob:=ob}.put o.dst (.bool true)))
  (hd:∀d,o.dst=some d->d<st.n) (hR:@RelM (gly g l Y) base Xa w0 st a w M) {N:Act->World->Prop} (hN:∀a w,@Nx (gly g l Y) base Xa w0 st.n K a w->N a w):o.wpIn Fence.wide n P a w N Q:=by
 letI:Glo:=gly g l Y
 obtain⟨tm,A,B,hts,hmk,hgh,hpm⟩:=hR.xa.k;have hm:=hR.defers.2;rw[hmk]at hm;have hl0:=hm.2 (l,Y.at tm .ready) (by simp);have hl:w.heap[l]? =some (Y.at tm .ready):=hl0.2.2.1;have hfv:=CU hR.rx f;have hxv:=CU hR.rx x;rw[hf]at hfv;have hfe:=R_yld hfv;have hrun:(execOp a.eval o).run P w=.ok (.round l Y.fn (tm.setIfInBounds p (a.eval x)) Y.asg Y.body) w:=by
  have hy:=run_yield (P:=P) (args:=#[a.eval x]) hl (by rw[hY.eps];rfl);simp only[hY.eps]at hy;unfold execOp;simp[ho,resolve,Deferred.ofValue,hfe,invoke,hy]
 refine⟨fun _ _=>trivial,?_⟩;rw[Oper.semAt_plain _ _ _ (by rw[ho];intro c e;cases e),hrun,Oper.uponIn_round];refine⟨by simp[Fence.wide],?_⟩;have hA:=hR.aside;have hG:=RelM.ofY hA;have hnx:Y.nx<=st.nx:=iY hR.pin.1.1 hR.pin.1.2;obtain⟨gh,hgh'⟩:∃gh:Mp->Nat->V->Value->Prop,gh=fun m n v u=>w0.gh m n v u\/(m=M/\n=st.nx/\∃t,v=lkT st.tmp t/\u=a.tmps.getD t undef):=⟨_,rfl⟩
 rw[<- hgh']at hA hG;obtain⟨k1,k2,k3,k4,k5,k6,k7,k8,k9,k10⟩:=hG;have hF:@RelM g base Xa ⟨w0.w,M,gh,G1 a.defers++w0.mks⟩ ⟨Y.n,(p,unG (@ev (gly g l Y) st x))::Y.T,st.nx,st.ob,st.nx⟩ ⟨tm.setIfInBounds p (a.eval x),[]⟩ w M :=
  @RelM.mk g _ _ _ _ _ _ _ k1 k2 k3 k4 k5 k6 (by simp[hts]) (fun t=>by
   simp only[lkT];split
   ·rename_i e;subst e;have e:(tm.setIfInBounds t (a.eval x)).getD t undef=a.eval x:=by
     rw[gZ,Array.getElem?_setIfInBounds_self_of_lt (by rw[hts];exact hY.hp)];rfl
    rw[e];exact SC hxv hgv
   rename_i e;have e:(tm.setIfInBounds p (a.eval x)).getD t undef=tm.getD t undef:=by
    rw[gZ,Array.getElem?_setIfInBounds_ne (fun h=>e h.symm),<- gZ]
   rw[e];exact(hR.gh _ _ _ _ (hgh t)).mono hnx (fun i hi=>(hR.pin.2 i (Nat.lt_of_lt_of_le hi hR.pin.1.1)).trans (hpm i hi)) (fun _ h=>h) (fun _ _=>rfl)) k9 k10
 refine roundIn_of_wpIn (F:=Fence.wide) trivial ?_;rw[hY.eas];refine wpIn_region_lit ?_;refine @O7 P base Xa _ _ g asg.toArray _ Y.n (Fence.wide.inRound l) _ (.inr ⟨l,rfl⟩) ?_ asg _ _ w rfl h hY.a1 hY.a2 ⟨M,hF⟩;rintro a1 w1 ⟨s1,hn1,hK1,M1,hR1⟩;have hR1':=hR1;obtain⟨-,-,-,-,-,⟨hds1,hm1⟩,-,-,-,-⟩:=hR1';simp only[hmk]at hm1;have em:∀(c:List (Nat×Obj))(o:Obj),c++(G1 a.defers++(A++(l,o)::B))=(c++G1 a.defers++A)++(l,o)::B:=fun c o=>by simp
 rw[em]at hm1;have hl1:=(hm1.2 (l,Y.at tm .ready) (by simp)).2.2.1;refine⟨_,run_beginRound hl1 rfl,?_⟩;have hR2:=@RelM.reobj base Xa _ w1 s1 a1 M1 g hR1 l _ (Y.at tm .busy) hl1 hl0.1 rfl rfl a1.defers (G1 a.defers++(A++(l,Y.at tm .busy)::B)) ⟨hds1,by rw[em];exact hm1.turn rfl⟩ (@Tot.t g ht _);refine(show ∀QQ aa ww,Code.wpIn (Fence.wide.inRound l) (n-1) P (.block bid (.region i2 bod.toArray false)) QQ aa ww->Code.wpIn (Fence.wide.inRound l) (n-1) P Y.body QQ aa ww from fun QQ aa ww h=>by rw[hY.ebo];exact h) _ _ _ ?_;refine wpIn_block (wpIn_region_lit ?_);refine @O7 P base Xa _ _ g bod.toArray _ Y.n (Fence.wide.inRound l) _ (.inr ⟨l,rfl⟩) ?_ bod s1 _ _ hn1 hK1 hY.b1 hY.b2 ⟨M1,hR2⟩;rintro a2 w2 ⟨s2,hn2,⟨hpn,hK⟩,M2,hR2'⟩;have hR2x:=hR2';obtain⟨-,-,-,-,-,⟨hds2,hm2⟩,-,-,-,-⟩:=hR2x;simp only at hm2;rw[em]at hm2;have hl2:=(hm2.2 (l,Y.at tm .busy) (by simp)).2.2.1;refine⟨_,_,run_endRound none hl2,?_⟩;have hR3:=@RelM.reobj base Xa _ w2 s2 a2 M2 g hR2' l _ (Y.at tm .ready) hl2 hl0.1 rfl rfl a2.defers (G1 a.defers++w0.mks) ⟨hds2,by rw[hmk,em];exact hm2.turn rfl⟩ (@Tot.t g ht _)
 obtain⟨q1,q2,q3,q4,q5,q6,q7,q8,q9,q10⟩:=hR3;have h4:@RelM g base Xa ⟨w0.w,M,gh,G1 a.defers++w0.mks⟩ ⟨0,[],s2.nx,s2.ob,st.nx⟩ ⟨#[],[]⟩ (w2.putObj l (Y.at tm .ready)) M2 :=
  @RelM.mk g _ _ _ _ _ _ _ q1 q2 q3 q4 (by rw[hpn]at q5;exact q5) q6.none rfl (fun t=>by simp only[lkT];exact .poi _ _) q9 q10
 have h5:=RelM.toY h4 hA.xa.k hnx;rw[hgh']at h5;have h6:=hR.again h5;exact hN _ _ <| Nx.of hK (h6.put (st:={st with nx:=s2.nx,ob:=s2.ob}) hd (.bool _ _)) rfl
theorem Nq[ht:@Tot g]{id:Nat}{pre post:List Oper}{o:Oper}{f x:Operand}{tys:Array TypeId}{Q:Exit->St->Prop}{p i1 i2 bid:Nat}{asg bod:List Oper}(hY:LoopOk P Y p i1 i2 bid asg bod)
  (ho:o.op=.call {callee:=.value f,args:=#[x],argTypes:=tys}) (hg:o.guard=none) (hok:(pre++o::post).all (okO P st.n)=true) (hnd:(pre++o::post).all noDef=true)
  (h:@Px (gly g l Y) P (slotsOf (pre++o::post)) pre (fun s=>@ev (gly g l Y) s f=.yld l/\okG (@ev (gly g l Y) s x)/\rndV g P Y p i1 i2 bid asg bod (unG (@ev (gly g l Y) s x)) s.nx s.ob fun nx ob =>
   @Px (gly g l Y) P (slotsOf (pre++o::post)) post (Q .normal) ({s with nx:=nx,ob:=ob}.put o.dst (.bool true))) st):@awp (gly g l Y) P (.region id (pre++o::post).toArray false) Q st:=by
 letI:Glo:=gly g l Y
 intro base Xa w0 a w hR;refine(wpIn_wide (n:=0)).1 (wpIn_region_lit ?_);rw[List.all_append,List.all_cons,gX,gX]at hok hnd;refine UN (m:=st.n) (.inl rfl) (o::post) ?_ pre st a w rfl h hok.1 hnd.1 hR;rintro a1 w1 ⟨s,hs,⟨hf,hgx,hr⟩,M,hM⟩;unfold wpListIn;rw[if_pos (by simp[Region.wanted,hg])];refine PM (st:=s) ho hY hf hgx hr (fun d hd=>?_) hM fun a2 w2 ⟨s2,hs2,hK,hR2⟩=>?_
 ·have:=hok.2.1;unfold okO at this;simp only[hd,gX,decide_eq_true_eq]at this;rw[hs];exact this.1
 exact O7 (m:=st.n) (.inl rfl) (fun a w ⟨s,h1,h2,h3⟩=>⟨s,h1,h2,h3⟩) post s2 a2 w2 (hs2.trans hs) hK hok.2.2 hnd.2.2 hR2
end
section
variable {P:Program}
theorem Qs[g:Glo][Tot]{gop:Operand}{ps:Array Tmp}{assign body:Code}{Q:Exit->St->Prop}{st:St}{f:FuncId}{fs cs:List (Option (Nat×Nat))}(hg:ev st gop=.cap f fs cs)
  (h:∀fn l dl M0,@Bt (gly g l ⟨fn,ps,assign,body,st.tmp,st.n,st.nx,M0,dl⟩) P f (fs.map Yp++(V.yld l::cs.map Yp)) st.nx st.ob fun _ nx ob=>Q .normal {st with nx:=nx,ob:=ob}):awp P (.rangeFunc gop ps assign body) Q st:=fun base Xa w0 a w ⟨M,hR⟩=>by
 have hgv:=CU hR.rx gop;rw[hg]at hgv;obtain⟨fa,ca,hfe,h1,h2,h3,h4⟩:=R_cap hgv;refine wpIn_wide.1 (wpIn_rangeFunc (F:=Fence.wide) (n:=0) fun fn _=>?_);obtain⟨hcall,hin⟩:=h fn (w.heap.size+1) w.heap.size M;obtain⟨Y,hYe⟩:∃Y:LoopD,Y=⟨fn,ps,assign,body,st.tmp,st.n,st.nx,M,w.heap.size⟩:=⟨_,rfl⟩;rw[<- hYe]at hin;obtain⟨lp,hlp⟩:∃lp:Loop,lp={state:=.ready,pending:=none,fn:=fn,tmps:=a.tmps,params:=ps,assign:=assign,body:=body,defers:=w.heap.size}:=⟨_,rfl⟩;obtain⟨w1,hw1⟩:∃w1:World,w1=(w.alloc (.deferred (some []))).alloc (.loop lp):=⟨_,rfl⟩;have hs1:w1.heap.size=w.heap.size+2:=by rw[hw1];simp
 have hbel:Below w.heap.size w w1:=⟨by rw[hw1];rfl,by rw[hw1];rfl,by rw[hw1];rfl,by omega,fun k hk=>by
  rw[hw1,Below.heap_alloc _ _ _ (by simp;omega),Below.heap_alloc _ _ _ hk]⟩
 have hr1:w1.heap[w.heap.size]? =some (.deferred (some [])):=by
  rw[hw1,Below.heap_alloc _ _ _ (by simp)];exact World.alloc_heap_new w _
 have hl1:w1.heap[w.heap.size+1]? =some (.loop lp):=by
  have:=World.alloc_heap_new (w.alloc (.deferred (some []))) (.loop lp);rw[World.size_alloc]at this;rw[hw1];exact this
 have hR1:=hR.world hbel;have hXn:∀b,w.heap.size<=b->b<w1.heap.size->Xf base Xa w1 M st.ob b:=fun b hb hb'=>⟨.inr ⟨iY hR.hbase hb,hb'⟩,fun id o ho _ e=>by
  obtain⟨vals,hrow,_⟩:=(hR.obs id o ho).2.row;have:=(hrow.lt b e).2;omega⟩
 have hold:∀p∈G1 a.defers++w0.mks,p.1<w.heap.size:=fun p hp=>(Array.getElem?_eq_some_iff.1 (hR.defers.2.2 p hp).2.2.1).1;have hm1:Marks base w1 (Xf base Xa w1 M st.ob) (G1 a.defers++w0.mks):=hR1.defers.2;have hD1:Dfr base w1 (Xf base Xa w1 M st.ob) (IH w.heap.size::a.defers) w0.mks:=⟨fun d hd=>by
   rcases List.mem_cons.1 hd with rfl|hd
   ·exact⟨_,rfl⟩
   ·exact hR.defers.1 d hd,by
   show Marks base w1 _ ((w.heap.size,.deferred (some []))::(G1 a.defers++w0.mks));refine⟨?_,fun p hp=>?_⟩
   ·simp only[iI,List.nodup_cons];refine⟨fun hc=>?_,hm1.1⟩;obtain⟨p,hp,e⟩:=List.mem_map.1 hc;have:=hold p hp;omega
   rcases List.mem_cons.1 hp with rfl|hp
   ·exact⟨hR.hbase,hXn _ (g8 _) (by omega),hr1,rfl⟩
   exact hm1.2 p hp⟩
 have hR1':RelM base Xa w0 st {a with defers:=IH w.heap.size::a.defers} w1 M:=⟨hR1.below,hR1.hbase,hR1.xa,hR1.gh,hR1.pin,hD1,hR1.size,hR1.tmps,hR1.obs,hR1.dist⟩;have hA:=hR1'.aside;have hDL:Dfr base w1 (Xf base Xa w1 M st.ob) [] ((w.heap.size+1,.loop lp)::(G1 (IH w.heap.size::a.defers)++w0.mks)):=⟨by simp,by
   have hm2:=hD1.2;refine⟨?_,fun p hp=>?_⟩
   ·show(((w.heap.size+1,Obj.loop lp)::(G1 (IH w.heap.size::a.defers)++w0.mks)).map (·.1)).Nodup;simp only[iI,List.nodup_cons];refine⟨fun hc=>?_,hm2.1⟩;obtain⟨p,hp,e⟩:=List.mem_map.1 hc;rcases List.mem_cons.1 (show p∈(w.heap.size,Obj.deferred (some []))::(G1 a.defers++w0.mks)from hp)with rfl|hp
    ·simp at e
    have:=hold p hp;omega
   rcases List.mem_cons.1 (show p∈(w.heap.size+1,Obj.loop lp)::(G1 (IH w.heap.size::a.defers)++w0.mks)from hp)with rfl|hp
   ·exact⟨by have:=hR.hbase;simp only;omega,hXn _ (by simp) (by simp only;omega),hl1,rfl⟩
   exact hm2.2 p hp⟩
 have hA':RelM base Xa ⟨w0.w,M,fun m n v u=>w0.gh m n v u\/(m=M/\n=st.nx/\∃t,v=lkT st.tmp t/\u=a.tmps.getD t undef),(w.heap.size+1,.loop lp)::(G1 (IH w.heap.size::a.defers)++w0.mks)⟩ ⟨0,[],st.nx,st.ob,st.nx⟩ ⟨#[],[]⟩ w1 M :=
  ⟨hA.below,hA.hbase,⟨hA.xa.o,Tot.t _⟩,hA.gh,hA.pin,hDL,hA.size,hA.tmps,hA.obs,hA.dist⟩
 have hAY:=RelM.toY (g:=g) (l:=w.heap.size+1) (Y:=Y) hA' ⟨a.tmps,[],_,by rw[hYe];exact hR.size,by rw[hYe,hlp];rfl,fun t=>by rw[hYe];exact .inr ⟨rfl,rfl,t,rfl,rfl⟩,fun i _=>by rw[hYe]⟩ (by rw[hYe];exact g8 _);have hinv:(invoke (.fn (.func f) ca) (fa++#[Value.func (.yield (w.heap.size+1)) #[] #[]])).run P w1=.ok (.enter f (fa++#[Value.func (.yield (w.heap.size+1)) #[] #[]]++ca)) w1:=by
  unfold D7 at hcall;split at hcall
  ·rename_i fn hfn;simp only[gX,i7]at hcall;have h1:¬fn.name= "runtime.NumGoroutine" :=by simpa using hcall.1
   have h2:¬fn.body=none:=fun h=>by simp[h]at hcall
   simp[invoke,callFunc,program,Sem.run,hfn,h1,h2]
  simp at hcall
 refine⟨w.heap.size+1,[IH w.heap.size],w1,{target:=.fn (.func f) ca,args:=fa++#[Value.func (.yield (w.heap.size+1)) #[] #[]]},w1,f,fa++#[Value.func (.yield (w.heap.size+1)) #[] #[]]++ca,w1,?_,?_,fun _ _=>trivial,hinv,fun hd=>by simp[Fence.wide]at hd,callsIn_wide.2 ?_⟩
 ·rw[hw1,hlp];exact run_enterLoop_outer (w:=w) fn a.tmps ps assign body
 ·have ec:∀v:Value,a.eval (.const v)=v:=fun _=>rfl;simp[resolve,rangeCall,Deferred.ofValue,hfe,ec]
 refine(hin base Xa _ w1 M (fa++#[Value.func (.yield (w.heap.size+1)) #[] #[]]++ca) hAY (by simp[h1,h2];try omega) fun j u hu=>?_).mono ?_
 ·simp only[gZ,Array.getElem?_append,Array.size_append,h1];rw[List.getElem?_append,List.length_map]at hu;split at hu
  ·rename_i hj;rw[if_pos (by simp;omega),if_pos hj];rw[iG]at hu;obtain⟨p,hp,rfl⟩:=Option.map_eq_some_iff.1 hu;have:=(h3 j p hp).R (w:=w1) (X:=Xf base Xa w1 M st.ob);rwa[gZ]at this
  rename_i hj;cases hk:j-fs.length with
  | zero =>
   rw[hk]at hu;simp only[iS,gQ]at hu;subst hu;rw[if_pos (by simp;omega),if_neg hj];simp[hk];exact .yld _ _
  | succ k =>
   rw[hk]at hu;simp only[List.getElem?_cons_succ]at hu;rw[if_neg (by simp;omega)];rw[iG]at hu;obtain⟨p,hp,rfl⟩:=Option.map_eq_some_iff.1 hu;have:=(h4 _ p hp).R (w:=w1) (X:=Xf base Xa w1 M st.ob);rw[gZ]at this;rwa[show j-(fs.length+#[Value.func (Fn.yield (w.heap.size+1)) #[] #[]].size)=k by simp;omega]
 rintro e w3 ⟨val,r,nx',ob',M',rfl,hQ,h'',hr⟩;have h':=RelM.ofY (g:=g) h'';have hl3:w3.heap[w.heap.size+1]? =some (.loop lp):=(h'.defers.2.2 (w.heap.size+1,.loop lp) (by simp[G1])).2.2.1;have hm3:Marks base w3 (Xf base Xa w3 M' ob') ((w.heap.size+1,.loop lp)::(G1 (IH w.heap.size::a.defers)++w0.mks)):=by simpa[G1]using h'.defers.2
 have hnd:w.heap.size+1∉(G1 (IH w.heap.size::a.defers)++w0.mks).map (·.1):=by
  have:=hm3.1;simp only[iI,List.nodup_cons]at this;exact this.1
 have h4:=h'.reobj (o':=.loop {lp with state:=.exhausted}) hl3 (by have:=hR.hbase;omega) rfl rfl (ds:=[]) (mk:=G1 (IH w.heap.size::a.defers)++w0.mks) ⟨by simp,by
  have:=(hm3.sub (List.sublist_cons_self ..)).put (o':=.loop {lp with state:=.exhausted}) hnd;simpa[G1]using this⟩ (Tot.t _)
 have hfin:=hR1'.again h4;refine⟨none,_,?_,⟨{st with nx:=nx',ob:=ob'},rfl,hQ,M',hfin⟩⟩;have:=run_endLoop (P:=P) hl3 (by rw[hlp];simp);rw[this,hlp]
end
end Go.Ab
end
