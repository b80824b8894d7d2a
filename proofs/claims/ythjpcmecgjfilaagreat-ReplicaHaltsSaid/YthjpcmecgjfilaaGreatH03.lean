/- A part of the proof of ReplicaHalts. -/
import Derived.Test.YthjpcmecgjfilaaGreatH02
import Derived.Below
import Derived.ChangeArms
import Derived.ChangeOld
import Derived.ChangeSlices
import Derived.DataElems
import Derived.DataReads
import Derived.DataShut
import Derived.KernelRfl
import Derived.Lib.SmallJoins
import Derived.LoopN
import Derived.OpenShut
import Derived.OwnWalkIn
import Derived.ProofKit
import Derived.ShutString
import Derived.SliceStrings
import Derived.TacticsIn
import Derived.Test.YthjpcmecgjfilaaGreatProg
import Derived.WalkKit
set_option linter.unusedSimpArgs false
set_option linter.unusedVariables false
set_option maxHeartbeats 16000000
set_option maxRecDepth 100000
section
namespace Go.Ab
open Go.RowKit
section
variable {P:Program}
end
end Go.Ab
namespace Go.Ab
open Go.RowKit
theorem zTA (A B:Nat->Bool) (T:List (Nat × V)) (t:Nat):∀ (l:List HI) (i:Nat),(∀ j,j<l.length->A (i+j)=true->B (i+j)=true)->lkT (eT A i l++T) t=.poi\/lkT (eT A i l++T) t=lkT (eT B i l++T) t
 | [],i,_=>.inr rfl
 | x::l,i,h=>by
  have ih:=zTA A B T t l (i+1) (fun j hj hA=>by
   have:=h (j+1) (by simpa using hj) (by rw [show i+(j+1)=i+1+j by omega];exact hA)
   rwa [show i+(j+1)=i+1+j by omega] at this)
  simp only [eT];cases x.dst with
  | none=>simpa using ih
  | some d =>
   simp only [zWM,zWa,lkT];split
   ·cases hA:A i with
    | false=>exact .inl rfl
    | true =>
     have hB:=h 0 (by simp) (by simpa using hA)
     simp only [Nat.add_zero] at hB;rw [hB];exact .inr rfl
   exact ih
theorem zKv (A B:Nat->Bool):∀ (l:List HI) (i:Nat),(∀ j,j<l.length->A (i+j)=B (i+j))->eT A i l=eT B i l
 | [],i,_=>rfl
 | x::l,i,h=>by
  have h0:=h 0 (by simp)
  simp only [Nat.add_zero] at h0;simp only [eT,h0];rw [zKv A B l (i+1) (fun j hj=>by
   have:=h (j+1) (by simpa using hj)
   rwa [show i+(j+1)=i+1+j by omega] at this)]
theorem zS9 [Glo] (L:Nat->Bool) (T:List (Nat × V)) (t:Nat) {k:Nat} {x:HI}:∀ (l:List HI) (i:Nat),i<=k->l[k-i]? =some x->(l.filterMap (·.dst)).Nodup ->
  lkT (eT (fun j=>decide (j=k)||L j) i l++T) t=.poi\/lkT (eT (fun j=>decide (j=k)||L j) i l++T) t=(match x.dst with|some d=>lkT ((d,x.v)::(eT L i l++T)) t|none=>lkT (eT L i l++T) t)
 | [],i,_,h,_=>by simp at h
 | y::l,i,hik,h,hn=>by
  by_cases he:i=k
  ·subst he;simp only [Nat.sub_self,zWQ,zV2] at h;subst h;have hrest:eT (fun j=>decide (j=i)||L j) (i+1) l=eT L (i+1) l:=zKv _ _ l (i+1) (fun j _=>by simp;omega)
   simp only [eT,hrest];cases y.dst with
   | none=>exact .inr rfl
   | some d =>
    refine .inr ?_;simp only [zWM,zWa,lkT,decide_true,Bool.true_or,cond_true];split<;>simp_all
  have hlt:i+1<=k:=by omega
  have hx:l[k-(i+1)]? =some x:=by
   rw [show k-i=(k-(i+1))+1 by omega] at h
   simpa using h
  have hn':(l.filterMap (·.dst)).Nodup:=by
   cases hd:y.dst with
   | none=>simpa [List.filterMap_cons,hd] using hn
   | some d=>rw [List.filterMap_cons,hd] at hn;exact (List.nodup_cons.1 hn).2
  have ih:=zS9 L T t l (i+1) hlt hx hn';have hdec:(decide (i=k)||L i)=L i:=by simp [he]
  simp only [eT,hdec];cases hd:y.dst with
  | none=>simpa using ih
  | some d =>
   simp only [zWM,zWa];cases hxd:x.dst with
   | none =>
    rw [hxd] at ih;simp only [lkT] at ih ⊢;split
    ·exact .inr rfl
    exact ih
   | some d' =>
    have hne:d'≠d:=fun e=>by
     rw [List.filterMap_cons,hd] at hn;exact (List.nodup_cons.1 hn).1 (List.mem_filterMap.2 ⟨x,zWA hx,by rw [hxd,e]⟩)
    rw [hxd] at ih;simp only [lkT] at ih ⊢;by_cases h1:t=d
    ·subst h1;rw [if_pos rfl,if_neg (fun e=>hne e.symm),if_pos rfl]
     exact .inr rfl
    rw [if_neg h1];by_cases h2:t=d'
    ·rw [if_pos h2] at ih ⊢;exact ih
    rw [if_neg h2] at ih;rw [if_neg h2,if_neg h1];exact ih
theorem zOZ (L:Nat->Bool):∀ (l:List HI) (i:Nat) (b:List (Nat × Option Ob) × Nat),eO L i l b=b\/∃ j x,l[j]? =some x/\x.eff=true/\L (i+j)=true/\(eO L i l b).1=x.ob/\(eO L i l b).2=x.nx
 | [],i,b=>.inl rfl
 | x::l,i,b=>by
  simp only [eO];rcases zOZ L l (i+1) (bif x.eff&&L i then (x.ob,x.nx) else b) with h|⟨j,y,h1,h2,h3,h4,h5⟩
  ·cases hc:(x.eff&&L i) with
   | false=>rw [hc] at h;exact .inl (by simpa using h)
   | true =>
    rw [hc] at h;simp only [cond_true] at h ⊢;simp only [zV5] at hc;exact .inr ⟨0,x,rfl,hc.1,by simpa using hc.2,by rw [h],by rw [h]⟩
  exact .inr ⟨j+1,y,by simpa using h1,h2,by rw [show i+(j+1)=i+1+j by omega];exact h3,h4,h5⟩
theorem zKu [Glo] (L:Nat->Bool) {k:Nat} {x:HI} (hx:x.eff=true) (hk:L k=true):∀ (l:List HI) (i:Nat) (b:List (Nat × Option Ob) × Nat),i<=k->l[k-i]? =some x->(∀ j y,l[j]? =some y->k<i+j->y.eff=true->L (i+j)=false)->eO L i l b=(x.ob,x.nx)
 | [],i,b,_,h,_=>by simp at h
 | y::l,i,b,hik,h,hno=>by
  by_cases he:i=k
  ·subst he;simp only [Nat.sub_self,zWQ,zV2] at h;subst h;simp only [eO,hx,hk,Bool.and_self,cond_true];rcases zOZ L l (i+1) (y.ob,y.nx) with h|⟨j,z,h1,h2,h3,_⟩
   ·exact h
   have:=hno (j+1) z (by simpa using h1) (by omega) h2
   rw [show i+(j+1)=i+1+j by omega] at this
   rw [this] at h3;cases h3
  simp only [eO];refine zKu L hx hk l (i+1) _ (by omega) (by
   rw [show k-i=(k-(i+1))+1 by omega] at h
   simpa using h) (fun j z hz hlt he'=>?_)
  have:=hno (j+1) z (by simpa using hz) (by omega) he'
  rwa [show i+(j+1)=i+1+j by omega] at this
theorem zIQ (L:Nat->Bool):∀ (l:List HI) (i:Nat) (b:List (Nat × Option Ob) × Nat),(eO L i l b=b/\∀ j x,l[j]? =some x->x.eff=true->L (i+j)=false) \/
  ∃ j x,l[j]? =some x/\x.eff=true/\L (i+j)=true/\(∀ j' y,j<j'->l[j']? =some y->y.eff=true->L (i+j')=false)/\eO L i l b=(x.ob,x.nx)
 | [],i,b=>.inl ⟨rfl,fun j x h=>by simp at h⟩
 | x::l,i,b=>by
  simp only [eO];rcases zIQ L l (i+1) (bif x.eff&&L i then (x.ob,x.nx) else b) with ⟨h1,h2⟩|⟨j,y,h1,h2,h3,h4,h5⟩
  ·have hlater:∀ j' y,0<j'->(x::l)[j']? =some y->y.eff=true->L (i+j')=false:=fun j' y hj hy he=>by
    obtain ⟨k,rfl⟩:∃ k,j'=k+1:=⟨j'-1,by omega⟩
    have:=h2 k y (by simpa using hy) he
    rwa [show i+1+k=i+(k+1) by omega] at this
   cases hc:(x.eff&&L i) with
   | false =>
    rw [hc] at h1;refine .inl ⟨by simpa using h1,fun j y hy he=>?_⟩
    cases j with
    | zero=>simp at hy;subst hy;simpa [he] using hc
    | succ k=>exact hlater (k+1) y (by omega) hy he
   | true =>
    rw [hc] at h1;simp only [zV5] at hc;exact .inr ⟨0,x,rfl,hc.1,by simpa using hc.2,hlater,by simpa using h1⟩
  refine .inr ⟨j+1,y,by simpa using h1,h2,by rw [show i+(j+1)=i+1+j by omega];exact h3,fun j' z hj hz he=>?_,h5⟩
  obtain ⟨k,rfl⟩:∃ k,j'=k+1:=⟨j'-1,by omega⟩
  have:=h4 k z (by omega) (by simpa using hz) he
  rwa [show i+1+k=i+(k+1) by omega] at this
theorem zUG [Glo] (L:Nat->Bool) (l:List HI) (i:Nat) (b:List (Nat × Option Ob) × Nat) (h:∀ j x,l[j]? =some x->x.eff=true->L (i+j)=false):eO L i l b=b:=by
 rcases zIQ L l i b with ⟨h1,_⟩|⟨j,x,h1,h2,h3,_⟩
 ·exact h1
 rw [h j x h1 h2] at h3;cases h3
section
variable {P:Program} {base:Nat} {Xa:Nat->Prop} {w0:W0} {w w':World} {st:St} {a:Act} {M M':Mp} {X X':Nat->Prop} {n n':Nat}
theorem RelM.weakT [Glo] (h:RelM base Xa w0 st a w M) {T:List (Nat × V)} (hT:∀ t,lkT T t=.poi\/lkT T t=lkT st.tmp t):RelM base Xa w0 {st with tmp:=T} a w M :=
 ⟨h.below,h.hbase,h.xa,h.gh,h.pin,h.defers,h.size,fun t=>by
  rcases hT t with e|e
  ·simp only [e];exact .poi _ _
  simp only [e];exact h.tmps t,h.obs,h.dist⟩
theorem zGa [Glo] {s S:St} (hT:∀ t,lkT s.tmp t=.poi\/lkT s.tmp t=lkT S.tmp t) (x:Operand) (h:zJz (ev s x)=false):ev s x=ev S x:=by
 cases x with
 | tmp t =>
  rcases hT t with e|e
  ·simp only [ev,e,zJz] at h;cases h
  exact e
 | _=>rfl
theorem zKm {v:V} {cs:List V} (h:boxC v=some cs):zJz v=false:=by cases v<;>first|rfl|(simp [boxC] at h)
theorem zHy [Glo] {s S:St} (hT:∀ t,lkT s.tmp t=.poi\/lkT s.tmp t=lkT S.tmp t) (place:Nat->Option (Nat × Nat)):∀ (parts:List (Nat × Operand)) (cs cs':List V),zC1 s place cs parts=some cs'->zC1 S place cs parts=some cs'
 | [],cs,cs',h=>h
 | (i,x)::r,cs,cs',h=>by
  simp only [zC1] at h ⊢;split at h
  ·exact h
  rename_i off m hp;split at h
  ·rename_i ds hds;rw [<- zGa hT x (zKm hds),hds];simp only;split at h
   ·rename_i hc;rw [if_pos hc];exact zHy hT place r _ cs' h
   simp at h
  simp at h
theorem zNI [Glo] {o:Oper} {s S:St} {K:V->List (Nat × Option Ob)->Nat->Prop} (h:effV P o s K) (hT:∀ t,lkT s.tmp t=.poi\/lkT s.tmp t=lkT S.tmp t) (hob:s.ob=S.ob) (hnx:s.nx=S.nx):effV P o S K:=by
 unfold effV at h ⊢;split at h
 ·rw [<- hob,<- hnx];exact h
 ·rename_i t x ho;split at h
  ·rename_i cs hc;rw [<- zGa hT x (zKm hc),hc,<- hob,<- hnx];exact h
  exact h.elim
 ·rename_i t x y ho;split at h
  ·rename_i m ag id sz i off ds hty hx hy;rw [<- zGa hT x (by rw [hx];rfl),hx,<- zGa hT y (zKm hy),hy,hty,<- hob,<- hnx];exact h
  exact h.elim
 ·rename_i t len parts ho;split at h
  ·rename_i e sz bb hsl;split at h
   ·rename_i zs hz;split at h
    ·rename_i cs hf;simp only [zHy hT _ _ _ _ hf];rw [<- hob,<- hnx];exact h
    exact h.elim
   exact h.elim
  exact h.elim
 ·rename_i c ho;split at h
  ·rename_i f hcal;split at h
   ·rename_i fid hf;obtain ⟨hp,h⟩:=h;have hf':ev S f=.fn fid:=by rw [<- zGa hT f (by rw [hf];rfl)];exact hf
    have hargs:c.args.toList.map (ev s)=c.args.toList.map (ev S):=List.map_congr_left fun y hy=>zGa hT y (by
     have:=List.all_eq_true.1 hp y hy;simpa using this)
    have hp':(c.args.toList.all fun x=>!zJz (ev S x))=true:=by
     rw [List.all_eq_true] at hp ⊢;intro y hy;have:=hp y hy;rw [<- zGa hT y (by simpa using this)];exact this
    rw [hf'];simp only;refine ⟨hp',?_⟩;rw [<- hargs,<- hob];obtain ⟨hg,nf,r,hm,ha⟩:=h;refine ⟨hg,nf,r,hm,?_⟩;cases nf<;>simp only [aftE] at ha ⊢<;>rw [<- hob,<- hnx]<;>exact ha
   exact h.elim
  ·split at h
   ·rename_i x y t t' hargs htys;obtain ⟨ht,h⟩:=h;refine ⟨ht,?_⟩;unfold appE at h;split at h
    ·rename_i e sz bb hsl;split at h
     ·rename_i p ys hsrc;have hy:ev s y=ev S y:=zGa hT y (by cases hv:ev s y<;>first|rfl|(rw [hv] at hsrc;simp [srcV] at hsrc))
      have hx:ev s x=ev S x:=zGa hT x (by cases hv:ev s x<;>first|rfl|(rw [hv] at h;exact h.2.elim))
      have hsrc':srcV S sz (ev S y)=some (p,ys):=by
       rw [<- hy,<- hsrc];unfold srcV;rw [<- hob]
      unfold appE;rw [hsl];simp only [hsrc'];rw [<- hx,<- hy,<- hob,<- hnx];exact h
     exact h.elim
    exact h.elim
   exact h.elim
  exact h.elim
 exact h.elim
theorem zLD [Glo] {o:Oper} {K:St->Prop} (h:effV P o st fun v ob nx=>K ({st with nx:=nx,ob:=ob}.put o.dst v)):opV P o K st:=by
 unfold effV at h;split at h
 ·rename_i t ho;unfold opV;simp only [ho,pv];exact h
 ·rename_i t x ho;unfold opV;simp only [ho,pv];exact h
 ·rename_i t x y ho;unfold opV;simp only [ho,pv];exact h
 ·rename_i t len parts ho;unfold opV;simp only [ho,pv];exact h
 ·rename_i c ho;obtain ⟨callee,args,tys⟩:=c;split at h
  ·rename_i f hcal;simp only at hcal;subst hcal;unfold opV;simp only [ho,pv];split at h
   ·rename_i fid hf;obtain ⟨hp,hg,nf,r,hm,ha⟩:=h;unfold zNB;simp only [hf];refine ⟨hg,.inl ⟨nf,r,hm,?_⟩⟩;cases nf<;>exact ha
   exact h.elim
  ·rename_i hcal;simp only at hcal;subst hcal;split at h
   ·rename_i x y t t' hargs htys;simp only at hargs htys;unfold opV;simp only [ho,pv,bv,hargs,htys];obtain ⟨ht,h⟩:=h;rw [if_pos ht];unfold appE at h;unfold appV;split at h
    ·rename_i e sz bb hsl;split at h
     ·rename_i p ys hsrc;simp only [hsl,hsrc];exact h
     exact h.elim
    exact h.elim
   exact h.elim
  exact h.elim
 exact h.elim
theorem zJi [Glo] {o:Oper} {s S:St} {x:HI} {QC:Exit->Act->World->Prop} (h:effV P o s fun v ob nx=>v=x.v/\ob=x.ob/\nx=x.nx) (hT:∀ t,lkT s.tmp t=.poi\/lkT s.tmp t=lkT S.tmp t) (hob:s.ob=S.ob) (hnx:s.nx=S.nx)
  (hok:okO P S.n o=true) (hR:RelM base Xa w0 S a w M):o.wp P a w (Nx base Xa w0 S.n (fun st'=>st'={S with nx:=x.nx,ob:=x.ob}.put o.dst x.v)) QC :=
 zEk (zLD (zDc (zNI h hT hob hnx) fun v ob nx ⟨h1,h2,h3⟩=>by rw [h1,h2,h3])) hok hR
theorem zKx [Glo] {o:Oper} {s S:St} {x:HI} {b want:Bool} {QC:Exit->Act->World->Prop} (h:zDf P o b want s fun v ob nx=>v=x.v/\ob=x.ob/\nx=x.nx) (hT:∀ t,lkT s.tmp t=.poi\/lkT s.tmp t=lkT S.tmp t) (hob:s.ob=S.ob) (hnx:s.nx=S.nx)
  (hok:okO P S.n o=true) (hR:RelM base Xa w0 S a w M):if (b==want)=true then o.wp P a w (Nx base Xa w0 S.n (fun st'=>st'={S with nx:=x.nx,ob:=x.ob}.put o.dst x.v)) QC
   else Nx base Xa w0 S.n (fun st'=>st'={S with nx:=x.nx,ob:=x.ob}.put o.dst x.v) (a.put o.dst undef) w:=by
 have hd:∀ d,o.dst=some d->d<S.n:=fun d hd=>by
  unfold okO at hok;simp only [hd,zV5,decide_eq_true_eq] at hok;exact hok.1
 rcases h with h|⟨r,h⟩
 ·split
  ·rename_i hbw;exact zJi (h.1 (by simpa using hbw)) hT hob hnx hok hR
  rename_i hbw;obtain ⟨h1,h2,h3⟩:=h.2 (by cases b<;>cases want<;>simp_all)
  rw [<- h1,<- h2,<- h3,hob,hnx];exact Nx.of rfl (hR.put hd (.poi _ _)) rfl
 refine zKV (r:=r) ?_ hd hR;unfold uniE at h;split at h
 ·rename_i c ho;split at h
  ·rename_i f hcal;split at h
   ·rename_i fid hf;obtain ⟨hp,hm,hobs,h1,h2,h3⟩:=h;have hf':ev S f=.fn fid:=by rw [<- zGa hT f (by rw [hf];rfl)];exact hf
    have hargs:c.args.toList.map (ev s)=c.args.toList.map (ev S):=List.map_congr_left fun y hy=>zGa hT y (by
     have:=List.all_eq_true.1 hp y hy;simpa using this)
    unfold uniV;simp only [ho,hcal,hf'];rw [hargs,hob] at hm h2;rw [hnx] at hobs h1 h3;exact ⟨hm,hobs,by rw [<- h1,<- h2,<- h3]⟩
   exact h.elim
  exact h.elim
 exact h.elim
theorem zFH [Glo] {o:Oper} {s:St} {K:V->List (Nat × Option Ob)->Nat->Prop} (h:effV P o s K):isEff o.op=true:=by
 unfold effV at h;split at h
 ·rename_i ho;rw [ho];rfl
 ·rename_i ho;rw [ho];rfl
 ·rename_i ho;rw [ho];rfl
 ·rename_i ho;rw [ho];rfl
 ·rename_i c ho;split at h
  ·rename_i hc;rw [ho];simp only [isEff,hc]
  ·rename_i hc;rw [ho];simp only [isEff,hc]
  exact h.elim
 exact h.elim
theorem zIJ [Glo] {ops:List (Option Tmp)} {o:Oper} {s:St} {x:HI} (h:SF P ops o s x) (hx:x.eff=true):isEff o.op=true:=by
 obtain ⟨_,h⟩:=h;unfold hstep at h;split at h
 ·split at h
  ·obtain ⟨_,h,_⟩:=h;rw [hx] at h;cases h
  exact zFH h
 split at h
 ·split at h
  ·split at h
   ·obtain ⟨_,h,_⟩:=h;rw [hx] at h;cases h
   exact h.1
  exact h.elim
 exact h.elim
end
end Go.Ab
namespace Go.Ab
open Go.RowKit
section
variable {P:Program} {base:Nat} {Xa:Nat->Prop} {w0:W0} {w w':World} {st:St} {a:Act} {M M':Mp} {X X':Nat->Prop} {n n':Nat}
theorem zJw [Glo] {o:Oper} {p:Prop} {v:V} {N:Nat} (h:hpv P st o.op=some (p,v)) (hp:p) (hR:RelX base st a w M X N) (hcv:∀ s d x,o.op=.convert s d x->(P.underlying s).isSome=true) :
  ∃ u,(execOp a.eval o).run P w=.ok (.value u) w/\R M w (X) N v u:=by
 unfold hpv at h;split at h
 ·rename_i t parts ho;split at h
  ·rename_i zs hz;split at h
   ·rename_i cs hf;simp only [zV2,Prod.mk.injEq] at h;obtain ⟨rfl,rfl⟩:=h;obtain ⟨arr,h1,h2⟩:=zJS hz hf hp hR;refine ⟨.agg arr,?_,.st _ _ _ (by rw [h2.len];simp) (fun u hu=>h2.one u (by simpa using hu)) (fun j u hu=>?_)⟩
    ·simp [execOp,ho,h1]
    have:=h2.rel j u hu;simpa [zV6,zV1] using this
   simp at h
  simp at h
 ·rename_i t x lo hi mx ho;split at h
  ·rename_i id hx;split at h
   ·rename_i b e sz bb l hh hb hs hlo hhi hmx;simp only [zV2,Prod.mk.injEq] at h;obtain ⟨rfl,rfl⟩:=h;obtain ⟨p0,rfl,p1,p2,p3,p4⟩:=hp;have hxR:=ev_R hR x;rw [hx] at hxR;obtain ⟨hid,hv⟩:=zGP hxR;obtain ⟨hid',hok⟩:=hR.obs id b hb;obtain ⟨vals,hrow,_,_⟩:=hok.row;rcases hrow.sl (zCu hxR) with ⟨_,h2⟩|⟨g,O,cap,cur,hval,_,_,hnc,_⟩
    ·exact absurd (zWB h2) p1
    obtain ⟨inf,zz,hund,hinf,_,_,hisz,_,hpos⟩:=zA6 hs;have hxe:a.eval x=.slice (some ⟨g,O,none⟩) b.xs.length cap:=by rw [<- hv,hval]
    have sb:∀ (k:IntKind) (i:Int) (y:Nat) (code:BoundsCode),0<=i->i<=y->(Instr.sliceBound (.int k i) y code).run P w=.ok i.toNat w:=fun k i y code h1 h2=>by
     simp [Instr.sliceBound,asIntOf,h1,h2]
    have hbd:(Instr.sliceBounds true b.xs.length cap (lo.map a.eval) (hi.map a.eval) (mx.map a.eval)).run P w=.ok ((l.getD 0).toNat,(hh.getD b.xs.length).toNat,cap) w:=by
     rcases zBT hmx hR with ⟨_,e3⟩|⟨k3,i3,h3,_⟩
     ·rw [e3];rcases zBT hlo hR with ⟨rfl,e1⟩|⟨k1,i1,rfl,e1⟩<;>rcases zBT hhi hR with ⟨rfl,e2⟩|⟨k2,i2,rfl,e2⟩<;>rw [e1,e2]<;>simp only [Option.getD_none,Option.getD_some] at p2 p3 p4 ⊢
      ·simp [Instr.sliceBounds]
      ·have:=sb k2 i2 cap .sliceAcap (by omega) (by omega)
       simp [Instr.sliceBounds,this]
      ·have:=sb k1 i1 b.xs.length .sliceB (by omega) (by omega)
       simp [Instr.sliceBounds,this]
      have h2:=sb k2 i2 cap .sliceAcap (by omega) (by omega)
      have h1:=sb k1 i1 i2.toNat .sliceB (by omega) (by omega)
      simp [Instr.sliceBounds,h1,h2]
     simp at h3
    have hlit:∀ j,(⟨g,O,none⟩:Addr).add j=⟨g,O+j,none⟩:=fun j=>Addr.add_lit _ _ _
    refine ⟨_,?_,.part _ id b.sz (l.getD 0).toNat ((hh.getD b.xs.length).toNat-(l.getD 0).toNat) g O b.xs.length cap hid hval (by omega)⟩
    rw [execOp];simp only [ho,hxe,Instr.sliceAt,Instr.slice,Sem.run_bind,run_underlying hund,Result.andThen_ok,hbd,sizeOf,typeInfo,hinf,hisz];by_cases hc:cap=(l.getD 0).toNat
    ·simp [hc,hinf,hisz]
    simp [hc,hlit,hinf,hisz]
   simp at h
  exact zGI (o:=o) (by rw [ho];exact h) hp hR hcv
 ·rename_i t m k ok ho;split at h
  ·rename_i sz ag z q id hm hk hem;split at h
   ·rename_i b hb;simp only [zV2,Prod.mk.injEq] at h;obtain ⟨rfl,rfl⟩:=h;obtain ⟨rfl,p2⟩:=hp;have hkv:=ev_R hR k;rw [hk] at hkv;have hke:=zDC hkv;have hmv:=ev_R hR m;rw [hem] at hmv;obtain ⟨g,es,clk,hue,_,_,hg,_,hmo,hE,_⟩:=zH9 hR hb hmv;obtain ⟨u,h1,h2⟩:=zIk hm hg hE hmo p2 q ok;refine ⟨u,?_,h2.mono (by split<;>omega) (fun _ _=>rfl) (fun _ h=>h) (fun _ _=>rfl)⟩
    simp [execOp,ho,hke,hue,h1]
   simp at h
  simp at h
 exact zGI h hp hR hcv
theorem zUf [Glo] {ops:Array Oper} {o:Oper} {s S:St} {x:HI} {QC:Exit->Act->World->Prop} (h:SF P (slotsOf ops.toList) o s x) (hT:∀ t,lkT s.tmp t=.poi\/lkT s.tmp t=lkT S.tmp t) (hob:s.ob=S.ob) (hnx:s.nx=S.nx) (hok:okO P S.n o=true) (hR:RelM base Xa w0 S a w M) :
  if Region.wanted o (yielded ops a.tmps)=true then o.wp P a w (Nx base Xa w0 S.n (fun st'=>st'=(bif x.eff then {S with nx:=x.nx,ob:=x.ob} else S).put o.dst x.v)) QC
   else Nx base Xa w0 S.n (fun st'=>st'=(bif x.eff then {S with nx:=x.nx,ob:=x.ob} else S).put o.dst x.v) (a.put o.dst undef) w:=by
 have hd:∀ d,o.dst=some d->d<S.n:=fun d hd=>by
  unfold okO at hok;simp only [hd,zV5,decide_eq_true_eq] at hok;exact hok.1
 have hcv:∀ s d x,o.op=.convert s d x->(P.underlying s).isSome=true:=fun s d x h=>by
  unfold okO at hok;simp only [h,zV5] at hok;exact hok.2
 have hX:RelX base s a w M (Xf base Xa w M S.ob) S.nx:=⟨fun t=>by
   rcases hT t with e|e
   ·rw [e];exact .poi _ _
   ·rw [e];exact hR.tmps t,fun id b hb=>by
   rw [hob] at hb;exact hR.obs id b hb,hR.gin⟩
 obtain ⟨_,h⟩:=h;unfold hstep at h;split at h
 ·rename_i hg;rw [if_pos (by simp [Region.wanted,hg])]
  split at h
  ·rename_i p v hpv;obtain ⟨hp,he,hv,_⟩:=h;rw [<- he,<- hv];obtain ⟨u,h1,h2⟩:=zJw hpv hp hX hcv;exact zAQ h1 (Nx.of rfl (hR.put hd h2) rfl)
  have hE:=zFH h;have hx:x.eff=true:=by
   obtain ⟨v,ob,nx,hk,_⟩:=zIR h;exact hk.1.symm
  rw [hx];exact zJi (zDc h fun v ob nx ⟨_,h2,h3⟩=>⟨h2,h3 rfl⟩) hT hob hnx hok hR
 rename_i j want0 hg;split at h
 ·rename_i d hj;split at h
  ·rename_i b want hb;have hb':gdV (lkT S.tmp d) want0=some (b,want):=by
    rcases hT d with e|e
    ·rw [e] at hb;simp [gdV] at hb
    rw [<- e];exact hb
   rw [zHC] at hj;rw [zKa hg hj hb' hR];split at h
   ·rename_i p v hpv;obtain ⟨h,he,hv,_⟩:=h;rw [<- he,<- hv];by_cases hbw:b=want
    ·rw [if_pos (by simp [hbw])]
     obtain ⟨hp,hall⟩:=h hbw;obtain ⟨u,h1,h2⟩:=zJw hpv hp (zNO hX _ hall) hcv;exact zAQ h1 (Nx.of rfl (hR.put hd (.gd _ _ _ _ (fun _=>h2) (fun e=>by simp [hbw] at e))) rfl)
    rw [if_neg (by simpa using hbw)]
    exact Nx.of rfl (hR.put hd (.gd _ _ _ _ (fun h'=>absurd (by simpa using h') hbw) (fun _=>rfl))) rfl
   have hx:x.eff=true:=by
    obtain ⟨v,ob,nx,hk,_⟩:=zGg h.2;exact hk.1.symm
   rw [hx];exact zKx (zEN h.2 fun v ob nx ⟨_,h2,h3⟩=>⟨h2,h3 rfl⟩) hT hob hnx hok hR
  exact h.elim
 exact h.elim
theorem zS8 (A:Nat->Bool) (T:List (Nat × V)) (t:Nat):∀ (l:List HI) (i:Nat),(∀ j,j<l.length->A (i+j)=false)->lkT (eT A i l++T) t=.poi\/lkT (eT A i l++T) t=lkT T t
 | [],i,_=>.inr rfl
 | x::l,i,h=>by
  have ih:=zS8 A T t l (i+1) (fun j hj=>by
   have:=h (j+1) (by simpa using hj)
   rwa [show i+(j+1)=i+1+j by omega] at this)
  have h0:=h 0 (by simp)
  simp only [Nat.add_zero] at h0;simp only [eT,h0,cond_false];cases x.dst with
  | none=>simpa using ih
  | some d =>
   simp only [zWM,zWa,lkT];split
   ·exact .inl rfl
   exact ih
end
end Go.Ab
namespace Go.Ab
open Go.RowKit
section
variable {P:Program} {ops:Array Oper} {Q:Exit->Act->World->Prop}
structure LinExt (ops:Array Oper) (m:Region.Mode) (done:Nat->Bool) (R:List Nat):Prop where
 mem:∀ i∈R,i<ops.size/\done i=false
 nodup:R.Nodup
 all:∀ i,i<ops.size->done i=false->i∈R
 pre:∀ l1 i l2,R=l1++i::l2->∀ o,ops[i]? =some o->∀ e∈o.after,Region.binds m e=true->done e.on=true\/e.on∈l1
theorem zPJ [Glo] (m:Region.Mode) (rk:Nat->Nat) (hacyc:∀ (i:Nat) (o:Oper),ops[i]? =some o->∀ e∈o.after,Region.binds m e=true->e.on<ops.size/\rk e.on<rk i) :
  ∀ (fuel t:Nat) (listed:Array Bool),listed.size=ops.size->(List.range ops.size).countP (fun i=>!listed.getD i true)<=fuel->LinExt ops m (fun i=>listed.getD i true) (Region.linearise.go m ops fuel t listed [])
 | 0,t,listed,hsz,hf=>by
  simp only [Region.linearise.go,List.reverse_nil];refine ⟨by simp,by simp,fun i hi hd=>?_,fun l1 i l2 h=>by simp at h⟩
  have h0:(List.range ops.size).countP (fun i=>!listed.getD i true)=0:=by omega
  have:=List.countP_eq_zero.1 h0 i (List.mem_range.2 hi);rw [hd] at this;simp at this
 | fuel+1,t,listed,hsz,hf=>by
  rw [Region.linearise.go];generalize hrs:(List.range ops.size).filter (fun i=>!listed.getD i true&&((ops[i]?).map (·.after.all fun e=>!Region.binds m e||listed.getD e.on false)).getD false)=rs
  have hmem:∀ i,i∈rs↔i<ops.size/\listed.getD i true=false/\((ops[i]?).map (·.after.all fun e=>!Region.binds m e||listed.getD e.on false)).getD false=true:=fun i=>by
   rw [<- hrs,List.mem_filter,List.mem_range];simp
  split
  ·rename_i i hi;have hir:=(hmem i).1 (zWA hi);rw [zOz];simp only [List.reverse_cons,List.reverse_nil,zWa,List.singleton_append];obtain ⟨o,ho⟩:∃ o,ops[i]? =some o:=⟨ops[i]'hir.1,zWX hir.1⟩;have hpre:∀ e∈o.after,Region.binds m e=true->listed.getD e.on true=true:=fun e he hb=>by
    have h:=hir.2.2;rw [ho] at h;simp only [Option.map_some,Option.getD_some,Array.all_eq_true'] at h;have:=h e he;simp only [hb,Bool.not_true,Bool.false_or] at this;have hlt:e.on<listed.size:=by
     rw [hsz];exact (hacyc i o ho e he hb).1
    simpa [Array.getD,hlt] using this
   have hset:∀ j,j<ops.size->(listed.setIfInBounds i true).getD j true=(decide (j=i)||listed.getD j true):=fun j hj=>by
    simp only [zV6,Array.getElem?_setIfInBounds];by_cases e:j=i
    ·subst e;simp;split<;>rfl
    rw [if_neg (by omega)];simp [e]
   have ih:=zPJ m rk hacyc fuel (t / rs.length) (listed.setIfInBounds i true) (by simpa using hsz) (by
    have:=zJa (fun j=>!listed.getD j true) (fun j=>!(listed.setIfInBounds i true).getD j true) (List.range ops.size) (fun j hj hq=>by
     rw [hset j (List.mem_range.1 hj)] at hq;simp only [Bool.not_or,zV5] at hq;exact hq.2) i (List.mem_range.2 hir.1) (by simpa using hir.2.1) (by rw [hset i hir.1];simp)
    omega)
   obtain ⟨q1,q2,q3,q4⟩:=ih;have hne:∀ j,j<ops.size->(listed.setIfInBounds i true).getD j true=false->j≠i/\listed.getD j true=false:=fun j hj h=>by
    rw [hset j hj] at h;simpa using h
   refine ⟨fun j hj=>?_,List.nodup_cons.2 ⟨fun hc=>?_,q2⟩,fun j hj hd=>?_,fun l1 j l2 h o' ho' e he hb=>?_⟩
   ·rcases List.mem_cons.1 hj with rfl|hj
    ·exact ⟨hir.1,hir.2.1⟩
    obtain ⟨h1,h2⟩:=q1 j hj;exact ⟨h1,(hne j h1 h2).2⟩
   ·obtain ⟨h1,h2⟩:=q1 i hc;exact (hne i h1 h2).1 rfl
   ·by_cases e:j=i
    ·subst e;exact zV8 ..
    refine zV4 _ (q3 j hj ?_);rw [hset j hj];simp [e,hd]
   cases l1 with
   | nil =>
    simp only [zWa,List.cons.injEq] at h;obtain ⟨rfl,_⟩:=h;rw [ho] at ho';simp only [zV2] at ho';subst ho';exact .inl (hpre e he hb)
   | cons x l1 =>
    simp only [zWM,List.cons.injEq] at h;obtain ⟨rfl,h⟩:=h;have hlt:=(hacyc j o' ho' e he hb).1;rcases q4 l1 j l2 h o' ho' e he hb with h1|h1
    ·rw [hset _ hlt] at h1;simp only [Bool.or_eq_true,decide_eq_true_eq] at h1;rcases h1 with h1|h1
     ·exact .inr (by rw [h1];exact zV8 ..)
     exact .inl h1
    exact .inr (zV4 _ h1)
  rename_i hnone;have hrs0:rs=[]:=by
   rcases Nat.eq_zero_or_pos rs.length with h|h
   ·exact zWB h
   rw [zV3 (Nat.mod_lt t h)] at hnone;cases hnone
  simp only [List.reverse_nil];have key:∀ (r i:Nat),rk i=r->i<ops.size->listed.getD i true=true:=fun r=>by
   induction r using Nat.strongRecOn with
   | _ r ih =>
    intro i hr hi
    cases hli:listed.getD i true with
    | true=>rfl
    | false =>
     exfalso
     have:i∈rs:=(hmem i).2 ⟨hi,hli,by
      rw [zWX hi];simp only [Option.map_some,Option.getD_some,Array.all_eq_true'];intro e he;cases hb:Region.binds m e with
      | false=>rfl
      | true =>
       obtain ⟨hlt,hlt2⟩:=hacyc i _ (zWX hi) e he hb;have:=ih (rk e.on) (by omega) e.on rfl hlt
       have hlt':e.on<listed.size:=by omega
       have h2:listed.getD e.on false=true:=by
        rw [zV6,zWX hlt'] at this ⊢;exact this
       rw [h2];simp⟩
     rw [hrs0] at this;cases this
  refine ⟨by simp,by simp,fun i hi hd=>?_,fun l1 i l2 h=>by simp at h⟩
  have:=key _ i rfl hi;rw [this] at hd;cases hd
theorem zH5 [Glo] (pre:Nat->Nat->Prop) (Good:(Nat->Bool)->Act->World->Prop)
  (step:∀ L a w,Good L a w->∀ (i:Nat) (o:Oper),ops[i]? =some o->L i=false->(∀ j,pre j i->L j=true) ->
   if Region.wanted o (yielded ops a.tmps)=true then o.wp P a w (Good fun j=>decide (j=i)||L j) Q else Good (fun j=>decide (j=i)||L j) (a.put o.dst undef) w)
  (hend:∀ L a w,Good L a w->(∀ i,i<ops.size->L i=true)->Q .normal a w) :
  ∀ (R:List Nat) (L:Nat->Bool) (a:Act) (w:World),(∀ i∈R,i<ops.size/\L i=false)->R.Nodup->(∀ i,i<ops.size->L i=false->i∈R) ->
   (∀ l1 i l2,R=l1++i::l2->∀ j,pre j i->L j=true\/j∈l1)->Good L a w->wpOps P ops Q R a w
 | [],L,a,w,_,_,hall,_,hg=>by
  simp only [wpOps];refine hend L a w hg fun i hi=>?_
  cases h:L i with
  | true=>rfl
  | false=>have:=hall i hi h;simp at this
 | i::R,L,a,w,hmem,hnd,hall,hpre,hg=>by
  obtain ⟨hi,hLi⟩:=hmem i (zV8 ..);obtain ⟨o,ho⟩:∃ o,ops[i]? =some o:=⟨ops[i]'hi,zWX hi⟩;have hs:=step L a w hg i o ho hLi (fun j hj=>by
   rcases hpre [] i R rfl j hj with h|h
   ·exact h
   simp at h)
  have hnd':=List.nodup_cons.1 hnd;have next:∀ a' w',Good (fun j=>decide (j=i)||L j) a' w'->wpOps P ops Q R a' w':=fun a' w' hg' =>
   zH5 pre Good step hend R _ a' w' (fun j hj=>by
     refine ⟨(hmem j (zV4 _ hj)).1,?_⟩;simp only [Bool.or_eq_false_iff,decide_eq_false_iff_not];exact ⟨fun e=>hnd'.1 (e ▸ hj),(hmem j (zV4 _ hj)).2⟩) hnd'.2 (fun j hj hd=>by
     simp only [Bool.or_eq_false_iff,decide_eq_false_iff_not] at hd;rcases List.mem_cons.1 (hall j hj hd.2) with h|h
     ·exact absurd h hd.1
     ·exact h) (fun l1 j l2 h k hk=>by
     rcases hpre (i::l1) j l2 (by rw [h];rfl) k hk with h'|h'
     ·exact .inl (by simp [h'])
     rcases List.mem_cons.1 h' with rfl|h'
     ·exact .inl (by simp)
     exact .inr h') hg'
  simp only [wpOps,ho];split
  ·rename_i hw;rw [if_pos hw] at hs;exact .inl (zCA hs next)
  rename_i hw;rw [if_neg hw] at hs;exact next _ _ hs
end
structure SegOk (P:Program) (n:Nat) (seg:List Oper) (prs:List (List Nat)):Prop where
 ok:∀ o∈seg,okO P n o=true
 prlt:∀ i j,j∈prs.getD i []->j<i
 chain:∀ (i j:Nat) (o o':Oper),seg[i]? =some o->seg[j]? =some o'->isEff o.op=true->isEff o'.op=true->j<i->j∈prs.getD i []
 nodup:(seg.filterMap (·.dst)).Nodup
def usesOb:Op->Bool
 | .load _ _=>true
 | .indexAddr _ _ _=>true
 | .convert _ _ _=>true
 | .slice _ _ _ _ _=>true
 | .lookup _ _ _ _=>true
 | .call _=>true
 | _=>false
theorem zTC [Glo] {s s':St} (hT:s.tmp=s'.tmp):ev s=ev s':=by funext x;cases x<;>simp [ev,hT]
theorem zLx [Glo] {s s':St} (hT:s.tmp=s'.tmp) (place:Nat->Option (Nat × Nat)):∀ (parts:List (Nat × Operand)) (cs:List V),zC1 s place cs parts=zC1 s' place cs parts
 | [],cs=>rfl
 | (i,x)::r,cs=>by simp only [zC1,zTC hT,zLx hT place r]
theorem zO7 [Glo] {P:Program} {s s':St} {op:Op} (hu:usesOb op=false) (hT:s.tmp=s'.tmp):hpv P s op=hpv P s' op:=by
 have he:=zTC hT;cases op<;>first|(simp [usesOb] at hu;done)|(simp only [hpv,pv,he];done)|(simp only [hpv,pv,he,zLx hT];done)|rfl
theorem zOv {s s':St} (hT:s.tmp=s'.tmp):∀ l:List Operand,(fixG s l).tmp=(fixG s' l).tmp
 | []=>hT
 | x::r=>by
  have ih:=zOv hT r;cases x with
  | tmp t =>
   simp only [fixG,hT];split
   ·simp only [ih]
   exact ih
  | _=>simpa only [fixG] using ih
theorem zJ8 {s s':St} (hT:s.tmp=s'.tmp):∀ l:List Operand,zEj s l↔zEj s' l
 | []=>Iff.rfl
 | x::r=>by
  have ih:=zJ8 hT r;cases x with
  | tmp t=>simp only [zEj,hT,ih]
  | _=>simpa only [zEj] using ih
theorem zO8 [Glo] {P:Program} {ops:List (Option Tmp)} {o:Oper} {s s':St} {K:Bool->V->List (Nat × Option Ob)->Nat->Prop} (hu:usesOb o.op=false) (hE:isEff o.op=false) (hT:s.tmp=s'.tmp) (h:hstep P ops o s K):hstep P ops o s' K:=by
 unfold hstep at h ⊢;split at h
 ·rw [<- zO7 hu hT];split at h
  ·exact h
  rw [zFH h] at hE;cases hE
 split at h
 ·rename_i d hd;rw [<- hT];split at h
  ·rename_i b hb;rw [<- zO7 hu (zOv hT _)];split at h
   ·exact ⟨fun e=>⟨(h.1 e).1,(zJ8 hT _).1 (h.1 e).2⟩,h.2⟩
   rw [h.1] at hE;cases hE
  exact h.elim
 exact h.elim
theorem zNQ [Glo] {P:Program} {ops:List (Option Tmp)} {o:Oper} {s:St} {K K':Bool->V->List (Nat × Option Ob)->Nat->Prop} (h:hstep P ops o s K) (hK:∀ e v ob nx,K e v ob nx->K' e v ob nx):hstep P ops o s K':=by
 unfold hstep at h ⊢;split at h
 ·split at h
  ·exact ⟨h.1,hK _ _ _ _ h.2⟩
  exact zDc h fun _ _ _=>hK _ _ _ _
 split at h
 ·split at h
  ·split at h
   ·exact ⟨h.1,hK _ _ _ _ h.2⟩
   exact ⟨h.1,zEN h.2 fun _ _ _=>hK _ _ _ _⟩
  exact h
 exact h
theorem zO6 [Glo] {P:Program} {s:St} {op:Op} (h:isEff op=true):hpv P s op=none:=by
 cases op<;>first|rfl|(simp [isEff] at h;done)|skip
 rename_i c;obtain ⟨callee,args,tys⟩:=c;cases callee with
 | value f=>rfl
 | invoke r m=>simp [isEff] at h
 | builtin b=>cases b<;>first|(simp [isEff] at h;done)|simp [hpv,pv,bv]
theorem zN0 [Glo] {P:Program} {ops:List (Option Tmp)} {o:Oper} {s:St} {x:HI} (h:SF P ops o s x) (hx:x.eff=false):isEff o.op=false:=by
 cases hE:isEff o.op with
 | false=>rfl
 | true =>
  exfalso
  obtain ⟨_,h⟩:=h;unfold hstep at h;split at h
  ·rw [zO6 hE] at h;obtain ⟨v,ob,nx,hk,_⟩:=zIR h;rw [hx] at hk;cases hk.1
  split at h
  ·split at h
   ·rw [zO6 hE] at h;obtain ⟨v,ob,nx,hk,_⟩:=zGg h.2;rw [hx] at hk;cases hk.1
   exact h.elim
  exact h.elim
structure HeadInv [Glo] (base:Nat) (Xa:Nat->Prop) (w0:W0) (st:St) (l:List HI) (prs:List (List Nat)) (L:Nat->Bool) (a:Act) (w:World):Prop where
 clo:∀ j,j<l.length->L j=true->∀ k∈prs.getD j [],L k=true
 rel:Rel base Xa w0 (stS st L l) a w
structure SegF [Glo] (P:Program) (opsA:List (Option Tmp)) (seg:List Oper) (prs:List (List Nat)) (st:St) (l:List HI):Prop where
 low:∀ (i:Nat) (o:Oper) (x:HI),seg[i]? =some o->l[i]? =some x->SF P opsA o (stS st (fun j=>(prs.getD i []).contains j) l) x
 more:∀ (i j:Nat) (o o':Oper) (x y:HI),seg[i]? =some o->seg[j]? =some o'->l[i]? =some x->l[j]? =some y->isEff o.op=false->usesOb o.op=true->isEff o'.op=true->j ∉ prs.getD i []->i ∉ prs.getD j [] ->
  hstep P opsA o ⟨st.n,eT (fun k=>(prs.getD i []).contains k) 0 l++st.tmp,y.nx,y.ob,st.pn⟩ (fun eff v _ _=>eff=false/\v=x.v)
section
variable {P:Program} {base:Nat} {Xa:Nat->Prop} {w0:W0} {w w':World} {st:St} {a:Act} {M M':Mp}
theorem zO3 [Glo] {opsA seg:List Oper} {prs:List (List Nat)} {l:List HI} {QC:Exit->Act->World->Prop} (hD:SegOk P st.n seg prs) (hl:l.length=seg.length)
  (hF:SegF P (slotsOf opsA) seg prs st l) (hnd:(l.filterMap (·.dst)).Nodup)
  {L:Nat->Bool} (hg:HeadInv base Xa w0 st l prs L a w) {i:Nat} {o:Oper} (ho:seg[i]? =some o) (hLi:L i=false) (hprL:∀ j∈prs.getD i [],L j=true) :
  if Region.wanted o (yielded opsA.toArray a.tmps)=true then o.wp P a w (HeadInv base Xa w0 st l prs fun j=>decide (j=i)||L j) QC else HeadInv base Xa w0 st l prs (fun j=>decide (j=i)||L j) (a.put o.dst undef) w:=by
 obtain ⟨g1,⟨M,hM⟩⟩:=hg;have hpr:=hD.prlt;have hil:=(List.getElem?_eq_some_iff.1 ho).1;obtain ⟨x,hx⟩:∃ x,l[i]? =some x:=⟨l[i]'(by omega),zV3 (by omega)⟩
 have hsf:=hF.low i o x ho hx;have hdst:=hsf.1;have hsub:∀ j,(prs.getD i []).contains j=true->L j=true:=fun j hj=>hprL j (by simpa using hj)
 have heffL:∀ (j:Nat) (y:HI),l[j]? =some y->y.eff=true->x.eff=true->(i<j->L j=false)/\(j<i->j∈prs.getD i []):=fun j y hy hye hxe=>by
  have hjl:=(List.getElem?_eq_some_iff.1 hy).1;obtain ⟨o',ho'⟩:∃ o',seg[j]? =some o':=⟨seg[j]'(by omega),zV3 _⟩
  have e1:=zIJ hsf hxe;have e2:=zIJ (hF.low j o' y ho' hy) hye;refine ⟨fun hij=>?_,fun hji=>hD.chain i j o o' ho ho' e1 e2 hji⟩
  cases hLj:L j with
  | false=>rfl
  | true =>
   have:=g1 j (by omega) hLj i (hD.chain j i o' o ho' ho e2 e1 hij)
   rw [this] at hLi;cases hLi
 obtain ⟨s,hs1,hs2,hs3,hs4⟩:∃ s:St,SF P (slotsOf opsA) o s x/\s.tmp=eT (fun j=>(prs.getD i []).contains j) 0 l++st.tmp/\s.ob=(stS st L l).ob/\s.nx=(stS st L l).nx:=by
  rcases zIQ L l 0 (st.ob,st.nx) with ⟨e,hno⟩|⟨j,y,hy,hye,hLj,hlast,e⟩
  ·have e2:=zUG (fun j=>(prs.getD i []).contains j) l 0 (st.ob,st.nx) (fun j y hy he=>by
    cases hc:(prs.getD i []).contains (0+j) with
    | false=>rfl
    | true=>have:=hsub _ hc;rw [hno j y hy he] at this;cases this)
   exact ⟨_,hsf,rfl,by simp only [stS,e,e2],by simp only [stS,e,e2]⟩
  rw [zWV] at hLj;by_cases hji:j∈prs.getD i []
  ·have e2:eO (fun j=>(prs.getD i []).contains j) 0 l (st.ob,st.nx)=(y.ob,y.nx):=zKu (fun j=>(prs.getD i []).contains j) (k:=j) hye (by simpa using hji) l 0 _ (Nat.zero_le _) (by simpa using hy) (fun j' z hz hjj he=>by
    rw [zWV] at hjj ⊢;cases hc:(prs.getD i []).contains j' with
    | false=>rfl
    | true =>
     have h1:=hsub _ hc;have h2:=hlast j' z hjj hz he;rw [zWV,h1] at h2;cases h2)
   exact ⟨_,hsf,rfl,by simp only [stS,e,e2],by simp only [stS,e,e2]⟩
  have hij:i ∉ prs.getD j []:=fun hc=>by
   have:=g1 j (List.getElem?_eq_some_iff.1 hy).1 hLj i hc;rw [this] at hLi;cases hLi
  have hxe:x.eff=false:=by
   cases hxe:x.eff with
   | false=>rfl
   | true =>
    exfalso
    obtain ⟨q1,q2⟩:=heffL j y hy hye hxe;rcases Nat.lt_trichotomy i j with hc|hc|hc
    ·rw [q1 hc] at hLj;cases hLj
    ·subst hc;rw [hLi] at hLj;cases hLj
    exact hji (q2 hc)
  have hjl:=(List.getElem?_eq_some_iff.1 hy).1;obtain ⟨o',ho'⟩:∃ o',seg[j]? =some o':=⟨seg[j]'(by omega),zV3 _⟩
  have hE:=zN0 hsf hxe;have hE':=zIJ (hF.low j o' y ho' hy) hye;refine ⟨⟨st.n,eT (fun k=>(prs.getD i []).contains k) 0 l++st.tmp,y.nx,y.ob,st.pn⟩,⟨hdst,?_⟩,rfl,by simp only [stS,e],by simp only [stS,e]⟩
  cases hu:usesOb o.op with
  | false=>exact zO8 (s:=stS st (fun j=>(prs.getD i []).contains j) l) hu hE rfl hsf.2
  | true =>
   refine zNQ (hF.more i j o o' x y ho ho' hx hy hE hu hE' hji hij) ?_;rintro e v ob nx ⟨rfl,h2⟩;exact ⟨hxe.symm,h2,fun h=>by cases h⟩
 have hT:∀ t,lkT s.tmp t=.poi\/lkT s.tmp t=lkT (stS st L l).tmp t:=fun t=>by
  rw [hs2];exact zTA _ _ st.tmp t l 0 (fun j _ hA=>by rw [zWV] at hA ⊢;exact hsub j hA)
 have hs:=zUf (ops:=opsA.toArray) (QC:=QC) (by simpa using hs1) hT hs3 hs4 (hD.ok o (zWA ho)) hM
 have hob':(stS st (fun j=>decide (j=i)||L j) l).ob=(bif x.eff then x.ob else (stS st L l).ob)/\(stS st (fun j=>decide (j=i)||L j) l).nx=(bif x.eff then x.nx else (stS st L l).nx):=by
  cases hxe:x.eff with
  | false =>
   have:eO (fun j=>decide (j=i)||L j) 0 l (st.ob,st.nx)=eO L 0 l (st.ob,st.nx):=zF4 l l _ _ 0 _ rfl (fun j y y' hy hy'=>by
    rw [hy] at hy';simp only [zV2] at hy';subst hy';simp only [zWV];refine ⟨?_,fun _=>⟨trivial,trivial⟩⟩
    by_cases hji:j=i
    ·subst hji;rw [hx] at hy;simp only [zV2] at hy;subst hy;rw [hxe];rfl
    simp [hji])
   simp only [stS,this];exact ⟨rfl,rfl⟩
  | true =>
   have:eO (fun j=>decide (j=i)||L j) 0 l (st.ob,st.nx)=(x.ob,x.nx):=zKu (fun j=>decide (j=i)||L j) (k:=i) hxe (by simp) l 0 _ (Nat.zero_le _) (by simpa using hx) (fun j y hy hij hye=>by
    rw [zWV] at hij ⊢;have:=(heffL j y hy hye hxe).1 hij;rw [this];simp;omega)
   simp only [stS,this];exact ⟨rfl,rfl⟩
 have next:∀ a' w',Nx base Xa w0 (stS st L l).n (fun st'=>st'=(bif x.eff then {stS st L l with nx:=x.nx,ob:=x.ob} else stS st L l).put o.dst x.v) a' w'->HeadInv base Xa w0 st l prs (fun j=>decide (j=i)||L j) a' w':=by
  rintro a' w' ⟨s',h1,rfl,M',hM'⟩
  have hrel:Rel base Xa w0 (stS st (fun j=>decide (j=i)||L j) l) a' w':=by
   have hw:=hM'.weakT (T:=eT (fun j=>decide (j=i)||L j) 0 l++st.tmp) (fun t=>by
    have:=zS9 L st.tmp t (k:=i) (x:=x) l 0 (Nat.zero_le _) (by simpa using hx) hnd
    refine this.imp (fun e=>e) fun e=>e.trans ?_
    rw [hdst];cases o.dst<;>cases x.eff<;>rfl)
   refine ⟨M',?_⟩;have e:({(bif x.eff then {stS st L l with nx:=x.nx,ob:=x.ob} else stS st L l).put o.dst x.v with tmp:=eT (fun j=>decide (j=i)||L j) 0 l++st.tmp}:St)=stS st (fun j=>decide (j=i)||L j) l:=by
    obtain ⟨q1,q2⟩:=hob';have:stS st (fun j=>decide (j=i)||L j) l=⟨st.n,eT (fun j=>decide (j=i)||L j) 0 l++st.tmp,(stS st (fun j=>decide (j=i)||L j) l).nx,(stS st (fun j=>decide (j=i)||L j) l).ob,st.pn⟩:=rfl
    rw [this,q1,q2];cases o.dst<;>cases x.eff<;>rfl
   rw [e] at hw;exact hw
  refine ⟨fun j hj hLj k hk=>?_,hrel⟩
  simp only [Bool.or_eq_true,decide_eq_true_eq] at hLj ⊢;rcases hLj with rfl|hLj
  ·exact .inr (hprL k hk)
  exact .inr (g1 j hj hLj k hk)
 split
 ·rename_i hw;rw [if_pos hw] at hs;exact zCA hs next
 rename_i hw;rw [if_neg hw] at hs;exact next _ _ hs
end
end Go.Ab
namespace Go.Ab
open Go.RowKit
def segsL [Glo] (P:Program) (ops:List (Option Tmp)):List (Nat × List (List Nat) × List (Nat × Nat))->List Oper->(St->Prop)->St->Prop
 | [],_,K,st=>K st
 | (1,_)::r,o::t,K,st=>zI5 P ops o (segsL P ops r t K) st
 | (len,prs,prp)::r,t,K,st=>zEY P ops prs st (fun done=>zG0 P ops prs st (t.take len) done prp/\segsL P ops r (t.drop len) K (stS st (fun _=>true) done)) (t.take len) []
def zCO (ops:List Oper) (ord:List Nat):List Oper:=ord.map fun i=>ops.getD i default
def segsOk (t:List Oper) (N:Nat) (pa:List (List Nat)):Nat->List (Nat × List (List Nat) × List (Nat × Nat))->Bool
 | c,[]=>decide (c=N)
 | c,(len,prs,prp)::r=>decide (1<=len)&&decide (prs.length<=len) &&
   (List.range len).all (fun i=>(List.range c).all (fun j=>(pa.getD (c+i) []).contains j)&&(prs.getD i []).all (fun j=>decide (j<i)&&(pa.getD (c+i) []).contains (c+j))) &&
   (decide (len=1)||((List.range len).all (fun i=>(List.range i).all (fun j=>match t[c+i]?,t[c+j]? with|some o,some o'=>!(isEff o.op&&isEff o'.op)||(prs.getD i []).contains j|_,_=>true)) &&
    (List.range len).all (fun i=>(List.range len).all (fun j=>match t[c+i]?,t[c+j]? with|some o,some o'=>isEff o.op||!(usesOb o.op)||!(isEff o'.op)||(prs.getD i []).contains j||(prs.getD j []).contains i||prp.contains (i,j)|_,_=>true)) &&
    decide (((t.drop c).take len).filterMap (·.dst)).Nodup))&&segsOk t N pa (c+len) r
def zEn (P:Program) (n:Nat) (ops:List Oper) (m:Region.Mode) (ex:List (Nat × Nat)) (ord:List Nat) (pa:List (List Nat)) (segs:List (Nat × List (List Nat) × List (Nat × Nat))):Bool :=
 ops.all (okO P n)&&decide (ord.length=ops.length)&&decide ord.Nodup&&ord.all (fun i=>decide (i<ops.length))&&(List.range ops.length).all (fun i=>ord.contains i)&&decide (pa.length<=ops.length) &&
 (List.range ops.length).all (fun k=>match ops[ord.getD k 0]? with
  | none=>false
  | some o=>o.after.toList.all (fun e=>!(Region.binds m e)||(decide (e.on<ops.length)&&decide (ord.idxOf e.on<k))) &&
   (pa.getD k []).all (fun j=>decide (j<k)&&(o.after.toList.any (fun e=>Region.binds m e&&(decide (ord.idxOf e.on=j)||(pa.getD (ord.idxOf e.on) []).contains j)) ||
    ex.any (fun q=>decide (q.2=ord.getD k 0)&&decide (q.1<ops.length)&&(decide (ord.idxOf q.1=j)||(pa.getD (ord.idxOf q.1) []).contains j))))) &&
 segsOk (zCO ops ord) ops.length pa 0 segs
structure SegsOk (t:List Oper) (N:Nat) (pa:List (List Nat)) (c len:Nat) (prs:List (List Nat)) (prp:List (Nat × Nat)):Prop where
 pos:1<=len
 cut:∀ i,i<len->∀ j,j<c->j∈pa.getD (c+i) []
 sub:∀ i j,j∈prs.getD i []->j<i/\(c+j)∈pa.getD (c+i) []
 chain:len≠1->∀ i j o o',i<len->t[c+i]? =some o->t[c+j]? =some o'->isEff o.op=true->isEff o'.op=true->j<i->j∈prs.getD i []
 more:len≠1->∀ i j o o',i<len->j<len->t[c+i]? =some o->t[c+j]? =some o'->isEff o.op=false->usesOb o.op=true->isEff o'.op=true->j ∉ prs.getD i []->i ∉ prs.getD j []->(i,j)∈prp
 nodup:len≠1->(((t.drop c).take len).filterMap (·.dst)).Nodup
theorem zDM {t:List Oper} {N c len:Nat} {pa prs:List (List Nat)} {prp:List (Nat × Nat)} {r:List (Nat × List (List Nat) × List (Nat × Nat))} (h:segsOk t N pa c ((len,prs,prp)::r)=true):SegsOk t N pa c len prs prp/\segsOk t N pa (c+len) r=true:=by
 simp only [segsOk,zV5,decide_eq_true_eq,List.all_eq_true,List.mem_range,Bool.or_eq_true] at h;obtain ⟨⟨⟨⟨h1,h2⟩,h3⟩,h4⟩,h5⟩:=h;refine ⟨⟨h1,fun i hi j hj=>by simpa using (h3 i hi).1 j hj,fun i j hj=>?_,fun hne i j o o' hi ho ho' he he' hji=>?_,fun hne i j o o' hi hj ho ho' hE hu hE' hji hij=>?_,fun hne=>?_⟩,h5⟩
 ·have hi:i<len:=by
   rcases Nat.lt_or_ge i len with hc|hc
   ·exact hc
   rw [zV1,List.getElem?_eq_none (by omega)] at hj;simp at hj
  have:=(h3 i hi).2 j hj;exact ⟨this.1,by simpa using this.2⟩
 ·rcases h4 with h4|h4
  ·exact absurd h4 hne
  have:=h4.1.1 i hi j hji;rw [ho,ho'] at this;simpa [he,he'] using this
 ·rcases h4 with h4|h4
  ·exact absurd h4 hne
  have:=h4.1.2 i hi j hj;rw [ho,ho'] at this;simp only [hE,hu,hE',Bool.false_or,Bool.not_true,Bool.or_eq_true,List.contains_iff_mem] at this;rcases this with (h|h)|h
  ·exact absurd h hji
  ·exact absurd h hij
  exact h
 rcases h4 with h4|h4
 ·exact absurd h4 hne
 exact h4.2
theorem zCo [Glo] {t:List Oper} {N:Nat} {pa:List (List Nat)}:∀ {r:List (Nat × List (List Nat) × List (Nat × Nat))} {c:Nat},segsOk t N pa c r=true->c<=N
 | [],c,h=>by simp [segsOk] at h;omega
 | (len,prs,prp)::r,c,h=>by have:=zCo (zDM h).2;omega
section
variable {P:Program} {base:Nat} {Xa:Nat->Prop} {w0:W0} {w w':World} {st:St} {a:Act} {M M':Mp}
inductive Run [Glo] (P:Program) (base:Nat) (Xa:Nat->Prop) (w0:W0) (n:Nat) (ops t:List Oper) (N:Nat) (pa:List (List Nat)) (K:St->Prop) (L:Nat->Bool) (a:Act) (w:World):Prop where
 | at_ (c:Nat) (r:List (Nat × List (List Nat) × List (Nat × Nat))) (hr:segsOk t N pa c r=true) (h1:∀ j,j<c->L j=true) (h2:∀ j,c<=j->j<N->L j=false) (s:St) (hn:s.n=n) (hK:segsL P (slotsOf ops) r (t.drop c) K s) (hR:Rel base Xa w0 s a w):Run P base Xa w0 n ops t N pa K L a w
 | in_ (c len:Nat) (prs:List (List Nat)) (prp:List (Nat × Nat)) (r:List (Nat × List (List Nat) × List (Nat × Nat))) (hs:SegsOk t N pa c len prs prp) (hne:len≠1) (hr:segsOk t N pa (c+len) r=true) (h1:∀ j,j<c->L j=true) (h2:∀ j,c+len<=j->j<N->L j=false) (s:St) (hn:s.n=n) (l:List HI) (hl:l.length=len)
   (hF:SegF P (slotsOf ops) ((t.drop c).take len) prs s l)
   (hK:segsL P (slotsOf ops) r (t.drop (c+len)) K (stS s (fun _=>true) l)) (hI:HeadInv base Xa w0 s l prs (fun j=>L (c+j)) a w):Run P base Xa w0 n ops t N pa K L a w
theorem zMm [Glo] {s:St} {l:List HI} (L L':Nat->Bool) (h:∀ i,i<l.length->L i=L' i):stS s L l=stS s L' l:=by
 simp only [stS];rw [zKv L L' l 0 (fun j hj=>by rw [zWV];exact h j hj),zF4 l l L L' 0 _ rfl (fun j x x' hx hx'=>by
  rw [hx] at hx';simp only [zV2] at hx';subst hx';rw [zWV,h j (List.getElem?_eq_some_iff.1 hx).1];exact ⟨rfl,fun _=>⟨rfl,rfl⟩⟩)]
theorem HeadInv.congr [Glo] {s:St} {l:List HI} {prs:List (List Nat)} {L L':Nat->Bool} (h:HeadInv base Xa w0 s l prs L a w) (hp:∀ i j,j∈prs.getD i []->j<i) (hL:∀ i,i<l.length->L i=L' i):HeadInv base Xa w0 s l prs L' a w:=by
 have e:=zMm (s:=s) L L' hL;obtain ⟨h1,h2⟩:=h;rw [e] at h2;exact ⟨fun j hj hLj k hk=>by have:=hp j k hk;rw [<- hL k (by omega)];exact h1 j hj (by rw [hL j hj];exact hLj) k hk,h2⟩
theorem HeadInv.begin [Glo] {s:St} {l:List HI} {prs:List (List Nat)} {L:Nat->Bool} (hL:∀ i,i<l.length->L i=false) (hR:Rel base Xa w0 s a w):HeadInv base Xa w0 s l prs L a w:=by
 have e0:eO L 0 l (s.ob,s.nx)=(s.ob,s.nx):=by
  rcases zOZ L l 0 (s.ob,s.nx) with e|⟨j,y,h1,_,h3,_⟩
  ·exact e
  rw [zWV,hL j (List.getElem?_eq_some_iff.1 h1).1] at h3;cases h3
 have hob:(stS s L l).ob=s.ob:=by simp only [stS,e0]
 have hnx:(stS s L l).nx=s.nx:=by simp only [stS,e0]
 refine ⟨fun j hj hLj=>(by rw [hL j hj] at hLj;cases hLj),?_⟩
 obtain ⟨M,hM⟩:=hR;have hw:=hM.weakT (T:=eT L 0 l++s.tmp) (fun t=>zS8 L s.tmp t l 0 (fun j hj=>by rw [zWV];exact hL j hj))
 have e:({s with tmp:=eT L 0 l++s.tmp}:St)=stS s L l:=by
  have:stS s L l=⟨s.n,eT L 0 l++s.tmp,(stS s L l).nx,(stS s L l).ob,s.pn⟩:=rfl;rw [this,hnx,hob]
 rw [e] at hw;exact ⟨M,hw⟩
variable {ops t:List Oper} {N:Nat} {pa:List (List Nat)} {K:St->Prop} {L:Nat->Bool} {QC:Exit->Act->World->Prop} {n:Nat}
theorem Run.congr [Glo] {L':Nat->Bool} (h:Run P base Xa w0 n ops t N pa K L a w) (hL:∀ i,i<N->L i=L' i):Run P base Xa w0 n ops t N pa K L' a w:=by
 cases h with
 | at_ c r hr h1 h2 s hn hK hR =>
  have:=zCo hr;exact .at_ c r hr (fun j hj=>by rw [<- hL j (by omega)];exact h1 j hj) (fun j hj hjN=>by rw [<- hL j hjN];exact h2 j hj hjN) s hn hK hR
 | in_ c len prs prp r hs hne hr h1 h2 s hn l hl hF hK hI =>
  have:=zCo hr;exact .in_ c len prs prp r hs hne hr (fun j hj=>by rw [<- hL j (by omega)];exact h1 j hj) (fun j hj hjN=>by rw [<- hL j hjN];exact h2 j hj hjN) s hn l hl hF hK
   (hI.congr (fun i j hj=>(hs.sub i j hj).1) fun i hi=>hL (c+i) (by omega))
theorem Run.norm [Glo] (h:Run P base Xa w0 n ops t N pa K L a w):(∃ c r,segsOk t N pa c r=true/\(∀ j,j<c->L j=true)/\(∀ j,c<=j->j<N->L j=false)/\∃ s,s.n=n/\segsL P (slotsOf ops) r (t.drop c) K s/\Rel base Xa w0 s a w) \/
  ∃ c len prs prp r,SegsOk t N pa c len prs prp/\len≠1/\segsOk t N pa (c+len) r=true/\(∀ j,j<c->L j=true)/\(∀ j,c+len<=j->j<N->L j=false)/\(∃ j,j<len/\L (c+j)=false)/\∃ s,s.n=n/\∃ l:List HI,l.length=len /\
   SegF P (slotsOf ops) ((t.drop c).take len) prs s l /\
   segsL P (slotsOf ops) r (t.drop (c+len)) K (stS s (fun _=>true) l)/\HeadInv base Xa w0 s l prs (fun j=>L (c+j)) a w:=by
 cases h with
 | at_ c r hr h1 h2 s hn hK hR=>exact .inl ⟨c,r,hr,h1,h2,s,hn,hK,hR⟩
 | in_ c len prs prp r hs hne hr h1 h2 s hn l hl hF hK hI =>
  by_cases hall:∀ j,j<len->L (c+j)=true
  ·refine .inl ⟨c+len,r,hr,fun j hj=>?_,h2,stS s (fun _=>true) l,hn,hK,?_⟩
   ·rcases Nat.lt_or_ge j c with hc|hc
    ·exact h1 j hc
    have:=hall (j-c) (by omega)
    rwa [show c+(j-c)=j by omega] at this
   have e:=zMm (s:=s) (l:=l) (fun j=>L (c+j)) (fun _=>true) (fun j hj=>hall j (by omega))
   have:=hI.rel;rwa [e] at this
  refine .inr ⟨c,len,prs,prp,r,hs,hne,hr,h1,h2,?_,s,hn,l,hl,hF,hK,hI⟩;obtain ⟨j,hj⟩:=Classical.not_forall.1 hall;rw [Classical.not_imp] at hj;exact ⟨j,hj.1,by simpa using hj.2⟩
theorem zQG [Glo] {O:List (Option Tmp)} {o:Oper} {prs:List (List Nat) × List (Nat × Nat)} {r:List (Nat × List (List Nat) × List (Nat × Nat))} {u:List Oper} {s:St}:segsL P O ((1,prs)::r) (o::u) K s=zI5 P O o (segsL P O r u K) s:=rfl
theorem zFW [Glo] {O:List (Option Tmp)} {len:Nat} {prs:List (List Nat)} {prp:List (Nat × Nat)} {r:List (Nat × List (List Nat) × List (Nat × Nat))} {u:List Oper} {s:St} (h:len≠1):segsL P O ((len,prs,prp)::r) u K s=zEY P O prs s (fun done=>zG0 P O prs s (u.take len) done prp/\segsL P O r (u.drop len) K (stS s (fun _=>true) done)) (u.take len) []:=by
 match len,u,h with
 | 0,[],_=>rfl
 | 0,_::_,_=>rfl
 | _+2,[],_=>rfl
 | _+2,_::_,_=>rfl
 | 1,_,h=>exact absurd rfl h
theorem Run.inside [Glo] (htN:t.length=N) (hok:∀ o∈t,okO P n o=true) {c len:Nat} {prs:List (List Nat)} {prp:List (Nat × Nat)} {r:List (Nat × List (List Nat) × List (Nat × Nat))} (hs:SegsOk t N pa c len prs prp) (hne:len≠1) (hr:segsOk t N pa (c+len) r=true)
  (h1:∀ j,j<c->L j=true) (h2:∀ j,c+len<=j->j<N->L j=false) {s:St} (hn:s.n=n) {l:List HI} (hl:l.length=len)
  (hF:SegF P (slotsOf ops) ((t.drop c).take len) prs s l)
  (hK:segsL P (slotsOf ops) r (t.drop (c+len)) K (stS s (fun _=>true) l)) (hI:HeadInv base Xa w0 s l prs (fun j=>L (c+j)) a w) {k:Nat} {o:Oper} (ho:t[k]? =some o) (hck:c<=k) (hkl:k<c+len) (hLk:L k=false) (hpa:∀ j∈pa.getD k [],L j=true) :
  if Region.wanted o (yielded ops.toArray a.tmps)=true then o.wp P a w (Run P base Xa w0 n ops t N pa K fun j=>decide (j=k)||L j) QC else Run P base Xa w0 n ops t N pa K (fun j=>decide (j=k)||L j) (a.put o.dst undef) w:=by
 have hcl:=zCo hr;have hseg:((t.drop c).take len).length=len:=by simp;omega
 have hgo:((t.drop c).take len)[k-c]? =some o:=by
  rw [zWJ,if_pos (by omega),zWS,show c+(k-c)=k by omega];exact ho
 have hD:SegOk P s.n ((t.drop c).take len) prs:=⟨fun o ho=>by rw [hn];exact hok o (List.mem_of_mem_drop (List.mem_of_mem_take ho)),fun i j hj=>(hs.sub i j hj).1,fun i j o o' ho ho' he he' hji=>by
   have hi:=(List.getElem?_eq_some_iff.1 ho).1;rw [hseg] at hi;rw [zWJ,if_pos hi,zWS] at ho;rw [zWJ,if_pos (by omega),zWS] at ho'
   exact hs.chain hne i j o o' hi ho ho' he he' hji,hs.nodup hne⟩
 have hnd:(l.filterMap (·.dst)).Nodup:=by
  have:l.filterMap (·.dst)=((t.drop c).take len).filterMap (·.dst):=by
   have e:l.map (·.dst)=((t.drop c).take len).map (·.dst):=by
    apply List.ext_getElem?;intro i;rw [zWD,zWD];rcases Nat.lt_or_ge i len with hi|hi
    ·have q1:l[i]? =some (l[i]'(by omega)):=zV3 (by omega)
     have q2:((t.drop c).take len)[i]? =some (((t.drop c).take len)[i]'(by omega)):=zV3 _
     rw [q1,q2];simp only [Option.map_some];rw [(hF.low i _ _ q2 q1).1]
    rw [List.getElem?_eq_none (by omega),List.getElem?_eq_none (by omega)]
    rfl
   have f:∀ {α:Type} (l:List α) (g:α->Option Tmp),l.filterMap g=(l.map g).filterMap id:=fun l g=>by rw [List.filterMap_map];rfl
   rw [f l,f ((t.drop c).take len),e]
  rw [this];exact hs.nodup hne
 have hstep:=zO3 (opsA:=ops) (QC:=QC) hD (by rw [hseg];exact hl) hF hnd hI hgo (by show L (c+(k-c))=false;rw [show c+(k-c)=k by omega];exact hLk) (fun j hj=>hpa (c+j) (by
  have:=(hs.sub _ _ hj).2;rwa [show c+(k-c)=k by omega] at this))
 have next:∀ a' w',HeadInv base Xa w0 s l prs (fun j=>decide (j=k-c)||L (c+j)) a' w'->Run P base Xa w0 n ops t N pa K (fun j=>decide (j=k)||L j) a' w':=fun a' w' hI' =>
  .in_ c len prs prp r hs hne hr (fun j hj=>by simp [h1 j hj]) (fun j hj hjN=>by simp [h2 j hj hjN];omega) s hn l hl hF hK (hI'.congr (fun i j hj=>(hs.sub i j hj).1) fun i _=>by
   congr 1
   exact decide_eq_decide.2 (by omega))
 split
 ·rename_i hw;rw [if_pos hw] at hstep;exact zCA hstep next
 rename_i hw;rw [if_neg hw] at hstep;exact next _ _ hstep
theorem zKJ [Glo] {prs:List (List Nat)} {s:St} {seg:List Oper} {l:List HI}:∀ {prp:List (Nat × Nat)} (_:zG0 P (slotsOf ops) prs s seg l prp) {i j:Nat} (_:(i,j)∈prp) {o:Oper} {x y:HI} (_:seg[i]? =some o) (_:l[i]? =some x) (_:l[j]? =some y),
  hstep P (slotsOf ops) o ⟨s.n,eT (fun k=>(prs.getD i []).contains k) 0 l++s.tmp,y.nx,y.ob,s.pn⟩ (fun eff v _ _=>eff=false/\v=x.v)
 | [],_,i,j,hm,_,_,_,_,_,_=>by simp at hm
 | (i',j')::r,h,i,j,hm,o,x,y,ho,hx,hy=>by
  obtain ⟨h1,h2⟩:=h;rcases List.mem_cons.1 hm with e|hm
  ·simp only [Prod.mk.injEq] at e;obtain ⟨rfl,rfl⟩:=e;rw [ho,hx,hy] at h1;exact h1
  exact zKJ h2 hm ho hx hy
theorem Run.step [Glo] (htN:t.length=N) (hok:∀ o∈t,okO P n o=true) (h:Run P base Xa w0 n ops t N pa K L a w) {k:Nat} {o:Oper} (ho:t[k]? =some o) (hLk:L k=false) (hpa:∀ j∈pa.getD k [],L j=true) :
  if Region.wanted o (yielded ops.toArray a.tmps)=true then o.wp P a w (Run P base Xa w0 n ops t N pa K fun j=>decide (j=k)||L j) QC else Run P base Xa w0 n ops t N pa K (fun j=>decide (j=k)||L j) (a.put o.dst undef) w:=by
 have hkN:k<N:=by have:=(List.getElem?_eq_some_iff.1 ho).1;omega
 have cutAll:∀ (r:List (Nat × List (List Nat) × List (Nat × Nat))) (c:Nat),segsOk t N pa c r=true->c<=k->∀ j,j<c->j∈pa.getD k []:=fun r=>by
  induction r with
  | nil=>intro c hr hck;simp [segsOk] at hr;omega
  | cons x r ih =>
   intro c hr hck j hj
   obtain ⟨len,prs,prp⟩:=x;obtain ⟨hs,hr'⟩:=zDM hr;rcases Nat.lt_or_ge k (c+len) with hc|hc
   ·have:=hs.cut (k-c) (by omega) j hj
    rwa [show c+(k-c)=k by omega] at this
   exact ih (c+len) hr' hc j (by omega)
 rcases h.norm with ⟨c,r,hr,h1,h2,s,hn,hK,hR⟩|⟨c,len,prs,prp,r,hs,hne,hr,h1,h2,⟨j0,hj0,hLj0⟩,s,hn,l,hl,hF,hK,hI⟩
 ·have hck:c<=k:=by
   rcases Nat.lt_or_ge k c with hc|hc
   ·rw [h1 k hc] at hLk;cases hLk
   exact hc
  cases r with
  | nil=>simp [segsOk] at hr;omega
  | cons x r =>
   obtain ⟨len,prs,prp⟩:=x;obtain ⟨hs,hr'⟩:=zDM hr;have hle:=zCo hr';have hpos:=hs.pos;have hkl:k<c+len:=by
    rcases Nat.lt_or_ge k (c+len) with hc|hc
    ·exact hc
    have:=hpa c (cutAll r (c+len) hr' hc c (by omega))
    rw [h2 c (zV9 _) (by omega)] at this;cases this
   by_cases hne:len=1
   ·subst hne;have hkc:k=c:=by omega
    subst hkc;have hdrop:t.drop k=o::t.drop (k+1):=by
     rw [zWZ (by omega)]
     congr 1
     exact (List.getElem?_eq_some_iff.1 ho).2
    rw [hdrop,zQG] at hK;obtain ⟨M,hM⟩:=hR;have hst:=zFY (ops:=ops.toArray) (QC:=QC) hK (by rw [hn];exact hok o (zWA ho)) hM
    have next:∀ a' w',Nx base Xa w0 s.n (segsL P (slotsOf ops) r (t.drop (k+1)) K) a' w'->Run P base Xa w0 n ops t N pa K (fun j=>decide (j=k)||L j) a' w':=fun a' w' ⟨s',q1,q2,q3⟩ =>
     .at_ (k+1) r hr' (fun j hj=>by
      simp only [Bool.or_eq_true,decide_eq_true_eq];rcases Nat.lt_or_ge j k with hc|hc
      ·exact .inr (h1 j hc)
      exact .inl (by omega)) (fun j hj hjN=>by simp [h2 j (by omega) hjN];omega) s' (q1.trans hn) q2 q3
    split
    ·rename_i hw;rw [if_pos hw] at hst;exact zCA hst next
    rename_i hw;rw [if_neg hw] at hst;exact next _ _ hst
   rw [zFW hne] at hK;obtain ⟨l,hl,hK',hF⟩:=zLq (fun i j hj=>(hs.sub i j hj).1) _ _ hK
   simp only [zWa,List.length_nil,zWV,List.drop_drop] at hK' hF;obtain ⟨hre,hK'⟩:=hK';have hl':l.length=len:=by rw [hl];simp;omega
   have hSF:SegF P (slotsOf ops) ((t.drop c).take len) prs s l:=⟨hF,fun i j o o' x y ho ho' hx hy hE hu hE' hji hij=>by
    have hi:=(List.getElem?_eq_some_iff.1 hx).1;have hj:=(List.getElem?_eq_some_iff.1 hy).1;have ho1:=ho;have ho2:=ho';rw [zWJ,if_pos (by omega),zWS] at ho1 ho2
    exact zKJ hre (hs.more hne i j o o' (by omega) (by omega) ho1 ho2 hE hu hE' hji hij) ho hx hy⟩
   exact Run.inside htN hok hs hne hr' h1 (fun j hj hjN=>h2 j (by omega) hjN) hn hl' hSF hK' (HeadInv.begin (fun i hi=>h2 (c+i) (by omega) (by omega)) hR) ho hck hkl hLk hpa
 have hck:c<=k:=by
  rcases Nat.lt_or_ge k c with hc|hc
  ·rw [h1 k hc] at hLk;cases hLk
  exact hc
 have hkl:k<c+len:=by
  rcases Nat.lt_or_ge k (c+len) with hc|hc
  ·exact hc
  have:=hpa (c+j0) (cutAll r (c+len) hr hc (c+j0) (by omega))
  rw [hLj0] at this;cases this
 exact Run.inside htN hok hs hne hr h1 h2 hn hl hF hK hI ho hck hkl hLk hpa
theorem Run.done [Glo] (h:Run P base Xa w0 n ops t N pa K L a w) (hall:∀ j,j<N->L j=true):∃ s,s.n=n/\K s/\Rel base Xa w0 s a w:=by
 rcases h.norm with ⟨c,r,hr,h1,h2,s,hn,hK,hR⟩|⟨c,len,prs,prp,r,hs,hne,hr,h1,h2,⟨j0,hj0,hLj0⟩,_⟩
 ·cases r with
  | nil=>exact ⟨s,hn,hK,hR⟩
  | cons x r =>
   obtain ⟨len,prs,prp⟩:=x;obtain ⟨hs,hr'⟩:=zDM hr;have:=zCo hr';have:=hs.pos;have h3:=h2 c (zV9 _) (by omega)
   rw [hall c (by omega)] at h3;cases h3
 have:=zCo hr;rw [hall (c+j0) (by omega)] at hLj0;cases hLj0
end
end Go.Ab
namespace Go.Ab
open Go.RowKit
section
variable {P:Program} {st:St}
theorem zNX {R l1 l2:List Nat} {x y:Nat} (h:R=l1++y::l2) (hx:R.idxOf x<R.idxOf y):x∈l1:=by
 subst h;have h1:(l1++y::l2).idxOf y<=l1.length:=by
  rw [List.idxOf_append];split
  ·rename_i hm;exact Nat.le_of_lt (List.idxOf_lt_length_of_mem hm)
  simp
 have h2:(l1++y::l2).idxOf x<l1.length:=by omega
 rw [List.idxOf_append] at h2;split at h2
 ·rename_i hm;exact hm
 omega
theorem zKB [Glo] {ops:List Oper} {K:St->Prop} {QC:Exit->Act->World->Prop} {base:Nat} {Xa:Nat->Prop} {w0:W0} (m:Region.Mode) (ex:List (Nat × Nat)) (ord:List Nat) (pa:List (List Nat)) (segs:List (Nat × List (List Nat) × List (Nat × Nat)))
  (hck:zEn P st.n ops m ex ord pa segs=true) (hv:segsL P (slotsOf ops) segs (zCO ops ord) K st) (hQ:∀ s a w,s.n=st.n->K s->Rel base Xa w0 s a w->QC .normal a w) {R:List Nat}
  (hE:LinExt ops.toArray m (fun i=>(Array.replicate ops.toArray.size false).getD i true) R) (hex:∀ q∈ex,R.idxOf q.1<R.idxOf q.2) {a:Act} {w:World} (hR:Rel base Xa w0 st a w) :
  wpOps P ops.toArray QC R a w:=by
 simp only [zEn,zV5,decide_eq_true_eq,List.all_eq_true,List.mem_range] at hck;obtain ⟨⟨⟨⟨⟨⟨⟨c1,c2⟩,c3⟩,c4⟩,c5⟩,c6⟩,c7⟩,c8⟩:=hck;have hsz:ops.toArray.size=ops.length:=by simp
 have hget:∀ (i:Nat) (o:Oper),ops.toArray[i]? =some o↔ops[i]? =some o:=fun i o=>by simp
 have hmem:∀ i,i<ops.length->i∈ord:=fun i hi=>by simpa using c5 i hi
 have hpos:∀ i,i<ops.length->ord.idxOf i<ops.length:=fun i hi=>by rw [<- c2];exact List.idxOf_lt_length_of_mem (hmem i hi)
 have hat:∀ i,i<ops.length->ord.getD (ord.idxOf i) 0=i:=fun i hi=>by
  have hlt:=List.idxOf_lt_length_of_mem (hmem i hi);rw [zV1,zV3 hlt];exact List.getElem_idxOf hlt
 have hlt:∀ k,k<ops.length->ord.getD k 0<ops.length:=fun k hk=>by
  rw [zV1,zV3 (by omega)]
  exact c4 _ (zWU _)
 have hidx:∀ k,k<ops.length->ord.idxOf (ord.getD k 0)=k:=fun k hk=>by
  rw [zV1,zV3 (by omega)]
  exact c3.idxOf_getElem k (by omega)
 have hperm:∀ k o,k<ops.length->ops[ord.getD k 0]? =some o->(zCO ops ord)[k]? =some o:=fun k o hk ho=>by
  have e:ord[k]? =some (ord.getD k 0):=by rw [zV1,zV3 (by omega)];rfl
  simp only [zCO,zWD,e,Option.map_some];rw [zV1,ho];rfl
 have htN:(zCO ops ord).length=ops.length:=by simp [zCO,c2]
 have hokt:∀ o∈zCO ops ord,okO P st.n o=true:=fun o ho=>by
  simp only [zCO,List.mem_map] at ho;obtain ⟨i,hi,rfl⟩:=ho;have:=c4 i hi;rw [zV1,zV3 this];exact c1 _ (zWU _)
 let pre:Nat->Nat->Prop:=fun j i=>(∃ o e,ops[i]? =some o/\e∈o.after/\Region.binds m e=true/\e.on=j)\/(j,i)∈ex
 have hedge:∀ i o,ops[i]? =some o->∀ j∈pa.getD (ord.idxOf i) [],∃ j',pre j' i/\j'<ops.length/\(ord.idxOf j'=j\/j∈pa.getD (ord.idxOf j') []):=fun i o ho j hj=>by
  have hi:=(List.getElem?_eq_some_iff.1 ho).1;have:=c7 (ord.idxOf i) (hpos i hi);rw [hat i hi,ho] at this;simp only [zV5,List.all_eq_true,Bool.or_eq_true,decide_eq_true_eq,zWW,List.any_eq_true] at this;obtain ⟨_,h⟩:=this.2 j hj;rcases h with ⟨e,he,hb,hc⟩|⟨q,hq,⟨h1,h2⟩,hc⟩
  ·refine ⟨e.on,.inl ⟨o,e,ho,by simpa using he,hb,rfl⟩,?_,hc.imp id (by simp)⟩
   rcases this.1 e he with h|h
   ·rw [hb] at h;cases h
   exact h.1
  exact ⟨q.1,.inr (by rw [<- h1];exact hq),h2,hc.imp id (by simp)⟩
 let Good:(Nat->Bool)->Act->World->Prop:=fun L a w=>(∀ k,k<ops.length->L (ord.getD k 0)=true->∀ j∈pa.getD k [],L (ord.getD j 0)=true)/\Run P base Xa w0 st.n ops (zCO ops ord) ops.length pa K (fun k=>L (ord.getD k 0)) a w
 have hpaN:∀ k j,j∈pa.getD k []->k<ops.length/\j<k:=fun k j hj=>by
  have hk:k<ops.length:=by
   rcases Nat.lt_or_ge k ops.length with h|h
   ·exact h
   rw [zV1,List.getElem?_eq_none (by omega)] at hj;simp at hj
  refine ⟨hk,?_⟩;have:=c7 k hk;split at this
  ·simp at this
  simp only [zV5,List.all_eq_true,decide_eq_true_eq] at this;exact (this.2 j hj).1
 refine zH5 pre Good ?_ ?_ R (fun i=>(Array.replicate ops.toArray.size false).getD i true) a w hE.mem hE.nodup hE.all (fun l1 i l2 h j hj=>?_) ?_
 ·intro L a w hg i o ho hLi hpre
  rw [hget] at ho;have hi:=(List.getElem?_eq_some_iff.1 ho).1;have hk:=hpos i hi;have hpa:∀ j∈pa.getD (ord.idxOf i) [],L (ord.getD j 0)=true:=fun j hj=>by
   obtain ⟨j',hp,heN,hc⟩:=hedge i o ho j hj;have hLe:=hpre j' hp;rcases hc with rfl|hc
   ·rw [hat j' heN];exact hLe
   exact hg.1 _ (hpos _ heN) (by rw [hat j' heN];exact hLe) j hc
  have hst:=Run.step (QC:=QC) htN hokt hg.2 (k:=ord.idxOf i) (hperm _ o hk (by rw [hat i hi];exact ho)) (by simp only [hat i hi];exact hLi) hpa
  have next:∀ a' w',Run P base Xa w0 st.n ops (zCO ops ord) ops.length pa K (fun k=>decide (k=ord.idxOf i)||L (ord.getD k 0)) a' w'->Good (fun j=>decide (j=i)||L j) a' w':=fun a' w' hr=>by
   refine ⟨fun k hk' hLk j hj=>?_,hr.congr fun k hk'=>?_⟩
   ·simp only [Bool.or_eq_true,decide_eq_true_eq] at hLk ⊢;rcases hLk with h|h
    ·have:k=ord.idxOf i:=by rw [<- h,hidx k hk']
     subst this;exact .inr (hpa j hj)
    exact .inr (hg.1 k hk' h j hj)
   congr 1
   refine decide_eq_decide.2 ⟨fun h=>?_,fun h=>?_⟩
   ·rw [h];exact hat i hi
   rw [<- h,hidx k hk']
  split
  ·rename_i hw;rw [if_pos hw] at hst;exact zCA hst next
  rename_i hw;rw [if_neg hw] at hst;exact next _ _ hst
 ·intro L a w hg hall
  rw [hsz] at hall;obtain ⟨s,h1,h2,h3⟩:=hg.2.done fun j hj=>hall _ (hlt j hj)
  exact hQ s a w h1 h2 h3
 ·rcases hj with ⟨o,e,ho,he,hb,rfl⟩|hq
  ·exact hE.pre l1 i l2 h o ((hget i o).2 ho) e he hb
  exact .inr (zNX h (hex _ hq))
 have hfalse:∀ k,k<ops.length->(Array.replicate ops.toArray.size false).getD (ord.getD k 0) true=false:=fun k hk=>by
  have:=hlt k hk;generalize ord.getD k 0=i at this ⊢;simp [Array.getD,this]
 refine ⟨fun k hk hLk=>(by have:=hfalse k hk;simp only [this] at hLk;cases hLk),.at_ 0 segs c8 (fun j hj=>absurd hj (by omega)) (fun j _ hj=>hfalse j hj) st rfl hv hR⟩
theorem zMS [Glo] {ops:List Oper} {m:Region.Mode} {n:Nat} {ex:List (Nat × Nat)} {ord:List Nat} {pa:List (List Nat)} {segs:List (Nat × List (List Nat) × List (Nat × Nat))} (hck:zEn P n ops m ex ord pa segs=true) (t:Nat) :
  LinExt ops.toArray m (fun i=>(Array.replicate ops.toArray.size false).getD i true) (Region.linearise m ops.toArray t):=by
 simp only [zEn,zV5,decide_eq_true_eq,List.all_eq_true,List.mem_range] at hck;obtain ⟨⟨⟨⟨⟨⟨⟨c1,c2⟩,c3⟩,c4⟩,c5⟩,c6⟩,c7⟩,c8⟩:=hck;refine zPJ m (fun i=>ord.idxOf i) (fun i o ho e he hb=>?_) _ t _ (by simp) (zWR List.countP_le_length (by simp))
 have ho':ops[i]? =some o:=by simpa using ho
 have hi:=(List.getElem?_eq_some_iff.1 ho').1;have hm:i∈ord:=by simpa using c5 i hi
 have hlt:=List.idxOf_lt_length_of_mem hm;have hat:ord.getD (ord.idxOf i) 0=i:=by
  rw [zV1,zV3 hlt];exact List.getElem_idxOf hlt
 have:=c7 (ord.idxOf i) (by omega)
 rw [hat,ho'] at this;simp only [zV5,List.all_eq_true,Bool.or_eq_true,decide_eq_true_eq,zWW] at this;rcases this.1 e (by simpa using he) with h|h
 ·rw [hb] at h;cases h
 exact ⟨by simpa using h.1,h.2⟩
theorem zSC [Glo] {ops:List Oper} {K:St->Prop} {QC:Exit->Act->World->Prop} {base:Nat} {Xa:Nat->Prop} {w0:W0} (m:Region.Mode) (ord:List Nat) (pa:List (List Nat)) (segs:List (Nat × List (List Nat) × List (Nat × Nat)))
  (hck:zEn P st.n ops m [] ord pa segs=true) (hv:segsL P (slotsOf ops) segs (zCO ops ord) K st) (hQ:∀ s a w,s.n=st.n->K s->Rel base Xa w0 s a w->QC .normal a w) (t:Nat) {a:Act} {w:World} (hR:Rel base Xa w0 st a w) :
  wpOps P ops.toArray QC (Region.linearise m ops.toArray t) a w:=zKB m [] ord pa segs hck hv hQ (zMS hck t) (by simp) hR
inductive PT where
 | leaf (ord:List Nat) (pa:List (List Nat)) (segs:List (Nat × List (List Nat) × List (Nat × Nat)))
 | node (x y:Nat) (l r:PT)
def PT.ok (P:Program) (n:Nat) (ops:List Oper) (m:Region.Mode):List (Nat × Nat)->PT->Bool
 | ex,.leaf ord pa segs=>zEn P n ops m ex ord pa segs
 | ex,.node x y l r=>decide (x<ops.length)&&decide (y<ops.length)&&decide (x≠y)&&PT.ok P n ops m ((x,y)::ex) l&&PT.ok P n ops m ((y,x)::ex) r
def PT.run [Glo] (P:Program) (ops:List Oper) (K:St->Prop) (st:St):PT->Prop
 | .leaf ord _ segs=>segsL P (slotsOf ops) segs (zCO ops ord) K st
 | .node _ _ l r=>PT.run P ops K st l/\PT.run P ops K st r
theorem PT.ext [Glo] {ops:List Oper} {m:Region.Mode} {n:Nat} (t:Nat):∀ (T:PT) (ex:List (Nat × Nat)),PT.ok P n ops m ex T=true->LinExt ops.toArray m (fun i=>(Array.replicate ops.toArray.size false).getD i true) (Region.linearise m ops.toArray t)
 | .leaf ord pa segs,ex,h=>zMS h t
 | .node x y l r,ex,h=>by
  simp only [PT.ok,zV5] at h;exact PT.ext t l _ h.1.2
theorem zI7 [Glo] {ops:List Oper} {K:St->Prop} {QC:Exit->Act->World->Prop} {base:Nat} {Xa:Nat->Prop} {w0:W0} (m:Region.Mode) (hQ:∀ s a w,s.n=st.n->K s->Rel base Xa w0 s a w->QC .normal a w) {R:List Nat}
  (hE:LinExt ops.toArray m (fun i=>(Array.replicate ops.toArray.size false).getD i true) R) {a:Act} {w:World} (hR:Rel base Xa w0 st a w) :
  ∀ (T:PT) (ex:List (Nat × Nat)),PT.ok P st.n ops m ex T=true->PT.run P ops K st T->(∀ q∈ex,R.idxOf q.1<R.idxOf q.2)->wpOps P ops.toArray QC R a w
 | .leaf ord pa segs,ex,h,hv,hex=>zKB m ex ord pa segs h hv hQ hE hex hR
 | .node x y l r,ex,h,hv,hex=>by
  simp only [PT.ok,zV5,decide_eq_true_eq] at h;obtain ⟨⟨⟨⟨h1,h2⟩,h3⟩,h4⟩,h5⟩:=h;have hx:x∈R:=hE.all x (by simpa using h1) (by simp [Array.getD,h1])
  have hy:y∈R:=hE.all y (by simpa using h2) (by simp [Array.getD,h2])
  have hxi:=List.getElem_idxOf (List.idxOf_lt_length_of_mem hx);have hyi:=List.getElem_idxOf (List.idxOf_lt_length_of_mem hy);rcases Nat.lt_trichotomy (R.idxOf x) (R.idxOf y) with hc|hc|hc
  ·exact zI7 m hQ hE hR l _ h4 hv.1 (by simpa using ⟨hc,fun a b hab=>hex (a,b) hab⟩)
  ·exfalso;apply h3;rw [<- hxi,<- hyi];simp only [hc]
  exact zI7 m hQ hE hR r _ h5 hv.2 (by simpa using ⟨hc,fun a b hab=>hex (a,b) hab⟩)
theorem zQ0 [Glo] {rid:Nat} {ops:List Oper} {Q:Exit->St->Prop} (ord:List Nat) (pa:List (List Nat)) (segs:List (Nat × List (List Nat) × List (Nat × Nat))) (hd:(P.follows .mixedOrders||!(Region.departs ops.toArray))=true)
  (hck:zEn P st.n ops .any [] ord pa segs=true) (hv:segsL P (slotsOf ops) segs (zCO ops ord) (Q .normal) st):awp P (.region rid ops.toArray true) Q st:=by
 intro base Xa w0 a w hR
 refine wp_region_draw fun t=>?_
 have hsch:Region.schedule (P.follows .mixedOrders) ops.toArray t=Region.linearise .any ops.toArray t:=by
  unfold Region.schedule;rw [if_pos hd]
 rw [hsch];have hR':Rel base Xa w0 st a {w with drawn:=w.drawn+1}:=by
  obtain ⟨M,hM⟩:=hR;exact ⟨M,hM.world ⟨rfl,rfl,rfl,zV9 _,fun _ _=>rfl⟩⟩
 exact zSC .any ord pa segs hck hv (fun s a w h1 h2 h3=>⟨s,h1,h2,h3⟩) t hR'
theorem zN6 [Glo] {rid:Nat} {ops:List Oper} {Q:Exit->St->Prop} (ord:List Nat) (pa:List (List Nat)) (segs:List (Nat × List (List Nat) × List (Nat × Nat))) (hd:(P.follows .mixedOrders||!(Region.departs ops.toArray))=true) (hp:zCO ops ord=ops)
  (hck:zEn P st.n ops .any [] ord pa segs=true) (hv:segsL P (slotsOf ops) segs ops (Q .normal) st):awp P (.region rid ops.toArray true) Q st:=zQ0 ord pa segs hd hck (by rw [hp];exact hv)
theorem zCJ [Glo] {rid:Nat} {ops:List Oper} {Q:Exit->St->Prop} (T:PT) (hd:(P.follows .mixedOrders||!(Region.departs ops.toArray))=true)
  (hck:PT.ok P st.n ops .any [] T=true) (hv:PT.run P ops (Q .normal) st T):awp P (.region rid ops.toArray true) Q st:=by
 intro base Xa w0 a w hR
 refine wp_region_draw fun t=>?_
 have hsch:Region.schedule (P.follows .mixedOrders) ops.toArray t=Region.linearise .any ops.toArray t:=by
  unfold Region.schedule;rw [if_pos hd]
 rw [hsch];have hR':Rel base Xa w0 st a {w with drawn:=w.drawn+1}:=by
  obtain ⟨M,hM⟩:=hR;exact ⟨M,hM.world ⟨rfl,rfl,rfl,zV9 _,fun _ _=>rfl⟩⟩
 exact zI7 .any (fun s a w h1 h2 h3=>⟨s,h1,h2,h3⟩) (PT.ext t T [] hck) hR' T [] hck hv (by simp)
@[simp] theorem segsL_nil [Glo] {ops:List (Option Tmp)} {u:List Oper} {K:St->Prop}:segsL P ops [] u K st=K st:=rfl
@[simp] theorem segsL_1 [Glo] {ops:List (Option Tmp)} {K:St->Prop} {o:Oper} {prs:List (List Nat) × List (Nat × Nat)} {r:List (Nat × List (List Nat) × List (Nat × Nat))} {u:List Oper}:segsL P ops ((1,prs)::r) (o::u) K st=zI5 P ops o (segsL P ops r u K) st:=rfl
@[simp] theorem segsL_2 [Glo] {ops:List (Option Tmp)} {K:St->Prop} {len:Nat} {prs:List (List Nat)} {prp:List (Nat × Nat)} {r:List (Nat × List (List Nat) × List (Nat × Nat))} {u:List Oper}:segsL P ops ((len+2,prs,prp)::r) u K st=zEY P ops prs st (fun done=>zG0 P ops prs st (u.take (len+2)) done prp/\segsL P ops r (u.drop (len+2)) K (stS st (fun _=>true) done)) (u.take (len+2)) []:=zFW (by omega)
end
end Go.Ab
namespace Go.Ab
open Go.RowKit
theorem zAT [Glo] {P:Program} {c:Code} {Q:Exit->St->Prop} {st:St} (t e s:Nat) (hs:0<s) {tt:Bool} (ht:lkT st.tmp t=.sl 0 tt [])
  (h:awp P c Q {st with nx:=st.nx+1,tmp:=(t,.own st.nx)::st.tmp,ob:=(st.nx,some ⟨e,s,false,false,[]⟩)::st.ob}):awp P c Q st:=fun base Xa w0 a w ⟨M,hM⟩=>by
 obtain ⟨M',hM',hn,hR⟩:=hM.grow (ob1:=st.ob) (fun _ _ h=>h) none (fun _ _ h=>by cases h) (fun _ _ _ _ _ h=>by cases h) (fun _ h=>by cases h) (World.grownBy.refl w none) (.slice none 0 0) (fun g h=>by cases h)
  ⟨e,s,false,false,[]⟩ (fun _=>hs) (by simp) [] (World.ownsG_nil w base e s) (by simp) (fun j u h=>by simp at h)
 have hv:=hM.tmps t;rw [ht] at hv;obtain ⟨A,c',f,hu,_,_,_,hnil,_⟩:=R_sl hv;obtain ⟨rfl,rfl⟩:=hnil rfl;have:=h base Xa w0 a w ⟨M',hR.below,hR.hbase,hR.xa,hR.gh,hR.pin,hR.defers,hR.size,fun t'=>by
  simp only [lkT];split
  ·rename_i e';subst e';rw [hu];exact .own _ _ _ _ _ (by simp) hn
  exact hR.tmps t',hR.obs,hR.dist⟩
 exact this
theorem zA9 [Glo] {P:Program} {dst:Option Tmp} {f:Operand} {args:Array Operand} {tys:Array TypeId} {ty:TypeId} {pos:String} {aft:Array Edge} {gd:Option (Nat × Bool)} {b want:Bool} {K:St->Prop} {st:St} {fid:FuncId} {args':List V} {r:V}
  (hm:zAD P fid args' r) (hf:ev st f=.fn fid) (hw:b=want->okGs (args.toList.map (ev st))/\wkT (((args.toList.map (ev st)).map unG).map (pur st.ob)) args') (hobs:obsL st.nx r.fcells=[])
  (hK:K ({st with nx:=st.nx+r.fcells.length,ob:=fzs (((args.toList.map (ev st)).map unG).flatMap fun v:V=>zAp v.cells) st.ob}.put dst (.gd (b==want) (opn st.nx r)))) :
  zH2 P ⟨dst,.call ⟨.value f,args,tys⟩,ty,pos,aft,gd⟩ b want K st:=by
 refine .inr ⟨r,?_⟩;simp only [uniV,hf];exact ⟨fun e=>⟨(hw e).1,hm.wk (hw e).2⟩,hobs,hK⟩
theorem zA1 [Glo] {P:Program} {o:Oper} {K:St->Prop} {st:St} (h:opV P o K st):zH2 P o true true K st:=.inl ⟨fun _=>h,fun e=>(by cases e)⟩
theorem zAy [Glo] {P:Program} {o:Oper} {K:St->Prop} {st:St} (h:opV P o K st):zH2 P o false false K st:=.inl ⟨fun _=>h,fun e=>(by cases e)⟩
theorem zA0 [Glo] {P:Program} {o:Oper} {K:St->Prop} {st:St} (h:K (st.put o.dst .poi)):zH2 P o true false K st:=.inl ⟨fun e=>(by cases e),fun _=>h⟩
theorem zAz [Glo] {P:Program} {o:Oper} {K:St->Prop} {st:St} (h:K (st.put o.dst .poi)):zH2 P o false true K st:=.inl ⟨fun e=>(by cases e),fun _=>h⟩
def zHZ (ks:List Nat):List Nat->List (Nat × V)->List (Nat × V)
 | _,[]=>[]
 | seen,(k,v)::r=>if (ks.contains k&&!seen.contains k)=true then (k,v)::zHZ ks (k::seen) r else zHZ ks seen r
theorem zIj (ks:List Nat):∀ (l:List (Nat × V)) (seen:List Nat) (t:Nat),lkT (zHZ ks seen l) t=.poi\/(seen.contains t=false/\lkT (zHZ ks seen l) t=lkT l t)
 | [],_,_=>.inl rfl
 | (k,v)::r,seen,t=>by
  simp only [zHZ];cases hc:ks.contains k&&!seen.contains k with
  | true =>
   simp only [if_true,lkT];simp only [zV5,zWW] at hc;split
   ·rename_i e;subst e;exact .inr ⟨hc.2,rfl⟩
   rename_i e;rcases zIj ks r (k::seen) t with h|⟨h1,h2⟩
   ·exact .inl h
   refine .inr ⟨?_,h2⟩;simp only [List.contains_cons,Bool.or_eq_false_iff] at h1;exact h1.2
  | false =>
   simp only [zWK,if_false,lkT];rcases zIj ks r seen t with h|⟨h1,h2⟩
   ·exact .inl h
   by_cases e:t=k
   ·subst e;rw [h1] at hc;simp only [Bool.not_false,Bool.and_true] at hc;left;have:∀ (l:List (Nat × V)) (seen:List Nat),lkT (zHZ ks seen l) t=.poi:=fun l=>by
     induction l with
     | nil=>intro _;rfl
     | cons p l ih =>
      intro seen
      obtain ⟨k',v'⟩:=p;simp only [zHZ];cases hc':ks.contains k'&&!seen.contains k' with
      | true =>
       simp only [if_true,lkT];split
       ·rename_i e;subst e;rw [hc] at hc';simp at hc'
       exact ih _
      | false=>simp only [zWK,if_false];exact ih _
    exact this r seen
   rw [if_neg e];exact .inr ⟨h1,h2⟩
theorem zQy [Glo] {P:Program} {c:Code} {Q:Exit->St->Prop} {st:St} (ks:List Nat) (h:awp P c Q {st with tmp:=zHZ ks [] st.tmp}):awp P c Q st:=fun base Xa w0 a w ⟨M,hM⟩=>h base Xa w0 a w ⟨M,hM.weakT fun t=>by
 rcases zIj ks st.tmp [] t with h|h
 ·exact .inl h
 exact .inr h.2⟩
theorem zAq [Glo] {P:Program} {dst:Option Tmp} {f:Operand} {args:Array Operand} {tys:Array TypeId} {ty:TypeId} {pos:String} {aft:Array Edge} {gd:Option (Nat × Bool)} {b want:Bool} {K:V->List (Nat × Option Ob)->Nat->Prop} {st:St} {fid:FuncId} {args':List V} {r:V}
  (hm:zAD P fid args' r) (hf:ev st f=.fn fid) (hp:(args.toList.all fun x=>!zJz (ev st x))=true) (hw:b=want->okGs (args.toList.map (ev st))/\wkT (((args.toList.map (ev st)).map unG).map (pur st.ob)) args') (hobs:obsL st.nx r.fcells=[])
  (hK:K (.gd (b==want) (opn st.nx r)) (fzs (((args.toList.map (ev st)).map unG).flatMap fun v:V=>zAp v.cells) st.ob) (st.nx+r.fcells.length)) :
  zDf P ⟨dst,.call ⟨.value f,args,tys⟩,ty,pos,aft,gd⟩ b want st K:=by
 refine .inr ⟨r,?_⟩;simp only [uniE,hf];exact ⟨hp,fun e=>⟨(hw e).1,hm.wk (hw e).2⟩,hobs,hK⟩
theorem zCh [Glo] {P:Program} {o:Oper} {K:V->List (Nat × Option Ob)->Nat->Prop} {st:St} (h:effV P o st K):zDf P o true true st K:=.inl ⟨fun _=>h,fun e=>(by cases e)⟩
theorem zCe [Glo] {P:Program} {o:Oper} {K:V->List (Nat × Option Ob)->Nat->Prop} {st:St} (h:effV P o st K):zDf P o false false st K:=.inl ⟨fun _=>h,fun e=>(by cases e)⟩
theorem zCg [Glo] {P:Program} {o:Oper} {K:V->List (Nat × Option Ob)->Nat->Prop} {st:St} (h:K .poi st.ob st.nx):zDf P o true false st K:=.inl ⟨fun e=>(by cases e),fun _=>h⟩
theorem zCf [Glo] {P:Program} {o:Oper} {K:V->List (Nat × Option Ob)->Nat->Prop} {st:St} (h:K .poi st.ob st.nx):zDf P o false true st K:=.inl ⟨fun e=>(by cases e),fun _=>h⟩
theorem zN5 [Glo] {P:Program} {c:Code} {Q:Exit->St->Prop} {n nx pn:Nat} {tmp T:List (Nat × V)} {ob:List (Nat × Option Ob)} (ks:List Nat) (hT:zHZ ks [] tmp=T) (h:awp P c Q ⟨n,T,nx,ob,pn⟩):awp P c Q ⟨n,tmp,nx,ob,pn⟩:=zQy ks (by rw [hT];exact h)
theorem zDO [Glo] {P:Program} {ops:List (Option Tmp)} {o:Oper} {prs:List (List Nat) × List (Nat × Nat)} {r:List (Nat × List (List Nat) × List (Nat × Nat))} {u:List Oper} {K:St->Prop} {st:St}
  (h:∀ K':St->Prop,(∀ s,segsL P ops r u K s->K' s)->zI5 P ops o K' st):segsL P ops ((1,prs)::r) (o::u) K st:=h _ fun _ h=>h
theorem zDN [Glo] {P:Program} {ops:List (Option Tmp)} {u:List Oper} {K:St->Prop} {st:St} (h:K st):segsL P ops [] u K st:=h
theorem zDP [Glo] {P:Program} {ops:List (Option Tmp)} {n:Nat} {prs:List (List Nat)} {prp:List (Nat × Nat)} {r:List (Nat × List (List Nat) × List (Nat × Nat))} {u:List Oper} {K:St->Prop} {st:St}
  (h:∀ KK:List HI->Prop,(∀ done,zG0 P ops prs st (u.take (n+2)) done prp/\segsL P ops r (u.drop (n+2)) K (stS st (fun _=>true) done)->KK done)->zEY P ops prs st KK (u.take (n+2)) []):segsL P ops ((n+2,prs,prp)::r) u K st:=by
 rw [zFW (by omega)];exact h _ fun _ h=>h
theorem zCc [Glo] {P:Program} {ops:List (Option Tmp)} {r:List Oper} {o:Oper} {prs:List (List Nat)} {st0:St} {K:List HI->Prop} {done:List HI}
  (h:∀ F:Bool->V->List (Nat × Option Ob)->Nat->Prop,(∀ eff v ob nx,zEY P ops prs st0 K r (done++[⟨o.dst,eff,v,ob,nx⟩])->F eff v ob nx)->hstep P ops o (stS st0 (fun j=>(prs.getD done.length []).contains j) (done++(o::r).map ph)) F):zEY P ops prs st0 K (o::r) done:=h _ fun _ _ _ _ h=>h
theorem zDF [Glo] {P:Program} {ops:List (Option Tmp)} {prs:List (List Nat)} {st0:St} {K:List HI->Prop} {done:List HI} (h:K done):zEY P ops prs st0 K [] done:=h
theorem zCn [Glo] {P:Program} {ops:List (Option Tmp)} {prs:List (List Nat)} {st0:St} {seg:List Oper} {done:List HI} {B:Prop} (h:B):zG0 P ops prs st0 seg done []/\B:=⟨trivial,h⟩
theorem zB2 [Glo] {P:Program} {ops:List (Option Tmp)} {prs:List (List Nat)} {st0:St} {seg:List Oper} {done:List HI} {i j:Nat} {r:List (Nat × Nat)} {B:Prop} (h1:zG0 P ops prs st0 seg done [(i,j)]) (h:zG0 P ops prs st0 seg done r/\B):zG0 P ops prs st0 seg done ((i,j)::r)/\B:=⟨⟨h1.1,h.1⟩,h.2⟩
theorem awp_fz [Glo] {P:Program} {c:Code} {Q:Exit->St->Prop} {st:St} (ids:List Nat) (h:awp P c Q {st with ob:=fzs ids st.ob}):awp P c Q st:=fun base Xa w0 a w ⟨M,hM⟩=>h base Xa w0 a w ⟨M,hM.fz ids⟩
def fzO (o:Ob):Ob:={o with fz:=true}
def zOx (ob:List (Nat × Option Ob)):List (Nat × Option Ob):=ob.map fun p=>(p.1,p.2.map fzO)
theorem zEO:∀ (ob:List (Nat × Option Ob)) (i:Nat),lookO (zOx ob) i=(lookO ob i).map fzO
 | [],_=>rfl
 | (k,o)::r,i=>by
  have ih:=zEO r i;simp only [zOx,zWP,lookO] at ih ⊢;split
  ·rfl
  exact ih
theorem zAI [Glo] {P:Program} {c:Code} {Q:Exit->St->Prop} {st:St} (h:awp P c Q {st with ob:=zOx st.ob}):awp P c Q st:=fun base Xa w0 a w ⟨M,hM⟩=>h base Xa w0 a w ⟨M,hM.sub fun id o ho=>by
 rw [zEO] at ho;obtain ⟨o',h1,rfl⟩:=Option.map_eq_some_iff.1 ho;exact ⟨o'.fz,h1,fun h=>by cases h⟩⟩
theorem zAw [Glo] {P:Program} {x y:Code} {Q:Exit->St->Prop} {st:St} (h:∀ K:St->Prop,(∀ s,awp P y Q s->K s)->awp P x (thn K Q) st):awp P (.seq x y) Q st:=zN7 (h _ fun _ h=>h)
@[simp] theorem opsV_nil [Glo] {P:Program} {ops:List (Option Tmp)} {K:St->Prop} {st:St}:opsV P ops [] K st=K st:=rfl
@[simp] theorem opsV_cons [Glo] {P:Program} {ops:List (Option Tmp)} {r:List Oper} {o:Oper} {K:St->Prop} {st:St}:opsV P ops (o::r) K st=zI5 P ops o (opsV P ops r K) st:=rfl
@[simp] theorem drawV_nil [Glo] {P:Program} {ops:List (Option Tmp)} {prs:List (List Nat)} {st0:St} {K:List HI->Prop} {done:List HI}:zEY P ops prs st0 K [] done=K done:=rfl
@[simp] theorem drawV_cons [Glo] {P:Program} {ops:List (Option Tmp)} {r:List Oper} {o:Oper} {prs:List (List Nat)} {st0:St} {K:List HI->Prop} {done:List HI}:zEY P ops prs st0 K (o::r) done =
  hstep P ops o (stS st0 (fun j=>(prs.getD done.length []).contains j) (done++(o::r).map ph)) (addH (zEY P ops prs st0 K r) done o.dst):=rfl
@[simp] theorem addH_full {F:List HI->Prop} {done:List HI} {dst:Option Tmp} {eff:Bool} {v:V} {ob:List (Nat × Option Ob)} {nx:Nat}:addH F done dst eff v ob nx=F (done++[⟨dst,eff,v,ob,nx⟩]):=rfl
def zEd:V->Prop
 | .sl _ _ xs=>xs.length<=maxLen
 | _=>True
def zK5:List V->Prop
 | []=>True
 | c::r=>zEd c/\zK5 r
def zK4:List V->Prop
 | []=>True
 | v::r=>zK5 v.cells/\zK4 r
theorem zL6 {M:Mp} {w:World} {X:Nat->Prop} {n:Nat} {v:V} {u:Value} (h:R M w X n v u):zEd v:=by
 cases h with
 | sl _ _ _ xs A len c f hlen hc hm=>simp only [zEd];omega
 | _=>trivial
theorem zL8:∀ {cs:List V},(∀ c∈cs,zEd c)->zK5 cs
 | [],_=>trivial
 | c::_,h=>⟨h c (zV8 ..),zL8 fun c hc=>h c (zV4 _ hc)⟩
theorem zL7 [Glo]:∀ {vs:List V},(∀ v∈vs,∀ c∈v.cells,zEd c)->zK4 vs
 | [],_=>trivial
 | v::_,h=>⟨zL8 (h v (zV8 ..)),zL7 fun v hv=>h v (zV4 _ hv)⟩
theorem zAD.lens [Glo] {P:Program} {f:FuncId} {args:List V} {r:V} (hc:zCK P f=true) (h:zK4 args->zAD P f args r):zAD P f args r:=by
 refine ⟨hc,fun w Xa vals M hXa hs hr=>(h (zL7 fun v hv c hcv=>?_)).2 w Xa vals M hXa hs hr⟩
 obtain ⟨j,hj⟩:=List.getElem?_of_mem hv;have hR:=hr j v hj;generalize vals.getD j undef=u at hR;have hone:=zL6 hR;cases hR with
 | st _ cs arr hl h1 hh =>
  obtain ⟨i,hi⟩:=List.getElem?_of_mem hcv;exact zL6 (hh i c hi)
 | _=>simp only [V.cells,List.mem_singleton] at hcv;subst hcv;exact hone
attribute [simp] zHp capV capE zc dstV szOk copyV clrV zEb gdV slotsOf zHZ zOx fzO wk1 wkL wkC wkT wkR okGs zI5 opV pv ev lkT St.put lookO boxC zRz of1 thn blk binV binI binS shI unV isSh bv mkV zSB zU4 fixG zEj Op.operands Call.operands okG unG
 retQ retL resV V.cells zBk clsR zIp clsC cls1 pur1 pur spl zC1 zFE fz1 fzs zAp srcV zPY appV appS zNB V.fcells opn opnT opnC opnL opn1 obsL zBB prtV prtP slcV
 retI St.startI isSt lkV
 hpv hstep effV zG0 appE stS eT eO zJz isEff ph St.start argT zDW eqCs
end Go.Ab
namespace Go.Ab
open Go.RowKit
def again (I:Nat->St->Prop) (k:Nat) (s':St):Prop:=∃ k' s'' ρ,k'<k/\Le ρ s' s''/\I k' s''
theorem zIK {I:Nat->St->Prop} {k:Nat} {s':St} (k':Nat) (s'':St) (ρ:Nat->Nat) (h:k'<k) (hI:I k' s'') (hle:Le ρ s' s''):again I k s':=⟨k',s'',ρ,h,hle,hI⟩
theorem zJL [Glo] {P:Program} {st:St} {Q:Exit->St->Prop} {c:Code} (I:Nat->St->Prop) {k0:Nat} {st0:St} {ρ0:Nat->Nat} (hle:Le ρ0 st st0) (h0:I k0 st0)
  (round:∀ k s,I k s->s.n=st.n->awp P c (thn (again I k) Q) s):awp P (.loop c) Q st:=zQz I hle h0 round
theorem InlC.mono [Glo] {P:Program} {f:FuncId} {args:List V} {nx:Nat} {ob:List (Nat × Option Ob)} {Post Post':V->Nat->List (Nat × Option Ob)->Prop} (h:InlC P f args nx ob Post) (hp:∀ r nx' ob',Post r nx' ob'->Post' r nx' ob'):InlC P f args nx ob Post' :=
 ⟨h.1,fun base Xa w0 w M vals h0 hs hr=>(h.2 base Xa w0 w M vals h0 hs hr).mono fun e w' ⟨val,r,nx',ob',M',h1,h2,h3,h4⟩=>⟨val,r,nx',ob',M',h1,hp r nx' ob' h2,h3,h4⟩⟩
theorem zB1 [Glo] {P:Program} {y:Code} {Q:Exit->St->Prop} {K:St->Prop} {G:Prop} {α:Type} (f:α->St) (pre:α->Prop) (hK:∀ s,awp P y Q s->K s) (h1:∀ x,pre x->awp P y Q (f x))
  (h2:(∀ (x:α) (s:St) (ρ:Nat->Nat),pre x->Le ρ s (f x)->K s)->G):G:=h2 fun x s _ hp hle=>hK s (awp_le hle (h1 x hp))
def isFs (rc:TypeId->List V->Prop):List Field->List V->Prop
 | [],vs=>vs=[]
 | f::r,vs=>∃ a b,vs=a++b/\rc f.type a/\isFs rc r b
def isA (rc:List V->Prop):Nat->List V->Prop
 | 0,vs=>vs=[]
 | n+1,vs=>∃ a b,vs=a++b/\rc a/\isA rc n b
def isV (P:Program):Nat->TypeId->List V->Prop
 | 0,_,_=>False
 | d+1,t,vs=>match P.underlying t with
  | some .bool=>∃ b,vs=[.bool b]
  | some (.int k)=>∃ n,(k.min<=n/\n<=k.max)/\vs=[.int k n]
  | some .string=>∃ s,vs=[.str s]
  | some (.slice e)=>∃ xs,vs=[.sl (P.cellsOf e) false xs]/\∀ x∈xs,isV P d e x
  | some (.struct fs)=>isFs (isV P d) fs.toList vs
  | some (.array n e)=>isA (isV P d e) n vs
  | _=>False
def fsOk (P:Program) (rc:TypeId->Bool) (tot:Nat):List Field->Nat->Bool
 | [],o=>decide (o=tot)
 | f::r,o=>decide (f.offset=o)&&decide (o+P.cellsOf f.type<=tot)&&rc f.type&&fsOk P rc tot r (o+P.cellsOf f.type)
def zEl (P:Program):Nat->TypeId->Bool
 | 0,_=>false
 | d+1,t=>match P.underlying t with
  | some .bool=>true
  | some (.int _)=>true
  | some .string=>true
  | some (.slice e)=>decide (0<P.cellsOf e)&&zEl P d e
  | some (.struct fs)=>fsOk P (zEl P d) (P.cellsOf t) fs.toList 0
  | some (.array n e)=>decide (P.cellsOf t=n*P.cellsOf e)&&zEl P d e
  | _=>false
end Go.Ab
namespace Go.Proofs.YthjpcmecgjfilaaGreat
open Go.Ab Go.ChangeShapes Go.WideShapes Go.ChangeAt Go.RowKit Tryz
set_option linter.unusedSimpArgs false
section
theorem zAA {n:Int} (h1:-9223372036854775808<=n) (h2:n<=9223372036854775807):IntKind.i64.wrap n=n:=by rw [IntKind.wrap_i64];omega
def strs (l:List (List UInt8)):List (List V):=l.map fun s=>[.str s]
theorem zVj (l:List (List UInt8)) (i:Nat) (h:i<l.length):(strs l)[i]? =some [.str l[i]]:=by simp [strs,h]
theorem zBR (l:List (List UInt8)):(strs l).length=l.length:=by simp [strs]
theorem zMn (l:List (List UInt8)) (s:List UInt8):strs l++[[.str s]]=strs (l++[s]):=by simp [strs]
theorem zNA (y:List UInt8):(zAL y).length=y.length:=by simp [zAL]
theorem zFD (y:List UInt8):(zAL y).map zDW=y:=by
 induction y with
 | nil=>rfl
 | cons c y ih=>simp only [zAL,zWP] at ih ⊢;rw [ih];simp [zDW]
theorem zFB (y:List UInt8):∀ z∈zAL y,zB0 z:=by
 intro z hz
 simp only [zAL,List.mem_map] at hz;obtain ⟨c,_,rfl⟩:=hz;exact ⟨c,rfl⟩
theorem zOK (z:Int):zB0 [.int .u8 (IntKind.u8.wrap z)]:=by
 refine ⟨UInt8.ofNat (IntKind.u8.wrap z).toNat,?_⟩;have h:0<=IntKind.u8.wrap z/\IntKind.u8.wrap z<256:=by rw [IntKind.wrap_u8];omega
 have:((UInt8.ofNat (IntKind.u8.wrap z).toNat).toNat:Int)=IntKind.u8.wrap z:=by
  rw [UInt8.toNat_ofNat'];omega
 rw [this]
def ints (k:IntKind) (l:List Int):List (List V):=l.map fun n=>[.int k n]
theorem zL4 (k:IntKind) (l:List Int):(ints k l).length=l.length:=by simp [ints]
theorem zUk (k:IntKind) (l:List Int) (i:Nat) (h:i<l.length):(ints k l)[i]? =some [.int k l[i]]:=by simp [ints,h]
abbrev M0:Mp:=fun _=>undef
abbrev X0 (w:World):Nat->Prop:=fun b=>b<w.heap.size
theorem says [Glo] {P:Program} {f:FuncId} {args:List V} {w:World} {vals:Array Value} (h:zAD P f args (.bool true)) (hg:GIn w (X0 w)) (hs:vals.size=args.length)
  (hr:∀ (j:Nat) (u:V),args[j]? =some u->R M0 w (X0 w) 0 u (vals.getD j undef)) :
  Calls P f vals w fun e w'=>e=.returned (.bool true)/\Below w.heap.size w w' :=
 (h.2 w (X0 w) vals M0 ⟨fun _ h=>h,hg,rfl⟩ hs hr).mono fun e w' ⟨val,he,hb,hres⟩=>by
  have:=(hres (fun j=>(zHN val).getD j undef) 0 (fun j _=>by simp)).1
  have:=zDT (b:=true) this;subst this;exact ⟨he,hb⟩
theorem cell_lt {w:World} {ad:Addr} {v:Value} (h:w.cell? ad=some v):ad.block<w.heap.size:=by
 rcases Nat.lt_or_ge ad.block w.heap.size with h'|h'
 ·exact h'
 unfold World.cell? at h;simp [Array.getElem?_eq_none h'] at h
theorem add_block (ad:Addr) (j:Nat):(ad.add j).block=ad.block:=by unfold Addr.add;split<;>rfl
variable {P:Program} {w:World} {base:Nat} {spare:Nat->Bool} {held:Bool} {H:Type} {enc:TypeId × Value->H}
theorem zQj (s:ByteArray):R M0 w (X0 w) 0 (.str s.data.toList) (.string s):=by
 have:s=⟨s.data.toList.toArray⟩:=by cases s;simp
 conv=>rhs;rw [this]
 exact .str _ _
theorem zJH {v:V} {u:Value} (h:R M0 w (X0 w) 0 v u) (h1:u.oneCell'=true):Cs M0 w (X0 w) 0 [v] [u] :=
 ⟨rfl,fun x hx=>by rw [List.mem_singleton.1 hx];exact h1,fun j c hj=>by
  match j,hj with
  | 0,hj=>simp only [zWQ,zV2] at hj;subst hj;exact h
  | j+1,hj=>simp at hj⟩
theorem zSy {a b:List V} {p q:List Value} (ha:Cs M0 w (X0 w) 0 a p) (hb:Cs M0 w (X0 w) 0 b q):Cs M0 w (X0 w) 0 (a++b) (p++q):=by
 refine ⟨by rw [zV7,zV7,ha.len,hb.len],fun u hu=>?_,fun j c hj=>?_⟩
 ·rcases List.mem_append.1 hu with h|h
  ·exact ha.one u h
  exact hb.one u h
 by_cases hl:j<a.length
 ·rw [zWL hl] at hj;have:=ha.rel j c hj;rw [zV1] at this ⊢;rwa [zWL (by rw [<- ha.len];exact hl)]
 rw [zWI (by omega)] at hj
 have:=hb.rel _ c hj;rw [zV1] at this ⊢;rw [zWI (by rw [<- ha.len];omega),<- ha.len]
 exact this
theorem zBK (q:List (List V)) (s:Nat) (h:∀ y∈q,y.length=s):q.flatten.length=q.length*s:=by
 induction q with
 | nil=>simp
 | cons y q ih =>
  rw [List.flatten_cons,zV7,ih (fun z hz=>h z (zV4 _ hz)),h y (zV8 ..),zWG,zWY];omega
theorem zPG [Glo] {d:Nat} {t e:TypeId} (ht:P.underlying t=some (.slice e)) (hpos:0<P.cellsOf e)
  (ih:∀ n cs x,DataW.trod enc P w base spare held n e cs=some x->∃ vs,isV P d e vs/\Cs M0 w (X0 w) 0 vs cs) {n:Nat} {cs:List Value} {x:DataW H × List MemPlace}
  (h:DataW.trod enc P w base spare held n t cs=some x):∃ xs,(∀ y∈xs,isV P d e y)/\Cs M0 w (X0 w) 0 [.sl (P.cellsOf e) false xs] cs:=by
 rcases DataW.trod_slice ht h with ⟨rfl,_⟩|⟨a,len,cap,elems,rest,n,_,rfl,rfl,hb,hl,hm,hlen,hel,_,_⟩
 ·exact ⟨[],by simp,zJH (.sl _ _ false [] none 0 0 (fun _=>undef) rfl (zV9 _) (by decide) (by simp) (fun h=>by omega) (by simp) (fun h=>by omega) (by simp)) rfl⟩
 have each:∀ i,i<len->∃ vs cs',isV P d e vs/\Cs M0 w (X0 w) 0 vs cs'/\cs'.length=P.cellsOf e/\∀ j,j<P.cellsOf e->w.cell? (a.add (i*P.cellsOf e+j))=cs'[j]? :=fun i hi=>by
  have hE:=hel i hi;have:elems[i]? =some (elems[i]'(by omega)):=zV3 _
  rw [this,Option.bind_eq_some_iff] at hE;obtain ⟨c1,hc1,hy1⟩:=hE;obtain ⟨_,hl1,hcell⟩:=World.cells?_some hc1;obtain ⟨vs,h1,h2⟩:=ih _ _ _ hy1;exact ⟨vs,c1,h1,h2,hl1,fun j hj=>by rw [<- hcell j hj,Addr.add_add]⟩
 let g:Nat->List V:=fun i=>if hi:i<len then Classical.choose (each i hi) else []
 have hg:∀ i (hi:i<len),∃ cs',isV P d e (g i)/\Cs M0 w (X0 w) 0 (g i) cs'/\cs'.length=P.cellsOf e/\∀ j,j<P.cellsOf e->w.cell? (a.add (i*P.cellsOf e+j))=cs'[j]? :=fun i hi=>by
  have:=Classical.choose_spec (each i hi);simp only [g,hi,dif_pos];exact this
 have hgl:∀ i,i<len->(g i).length=P.cellsOf e:=fun i hi=>by
  obtain ⟨cs',_,h2,h3,_⟩:=hg i hi;rw [h2.len,h3]
 have hcl:∀ k,k<len*P.cellsOf e->∃ u,w.cell? (a.add k)=some u/\u.oneCell'=true/\∀ v,(g (k / P.cellsOf e))[k % P.cellsOf e]? =some v->R M0 w (X0 w) 0 v u:=fun k hk=>by
  have hi:k / P.cellsOf e<len:=Nat.div_lt_of_lt_mul (by rwa [Nat.mul_comm])
  obtain ⟨cs',h1,h2,h3,h4⟩:=hg _ hi;have hj:=Nat.mod_lt k hpos;have:=h4 _ hj;rw [Nat.div_add_mod' k,zV3 (by omega)] at this
  refine ⟨_,this,h2.one _ (zWU _),fun v hv=>?_⟩
  have:=h2.rel _ v hv;rwa [zV1,zV3 (by omega)] at this
 have hxl:((List.range len).map g).length=len:=by simp
 have hxm:∀ y∈(List.range len).map g,∃ i,i<len/\y=g i:=fun y hy=>by
  obtain ⟨i,hi,rfl⟩:=List.mem_map.1 hy;exact ⟨i,List.mem_range.1 hi,rfl⟩
 have hflat:∀ (m:Nat),m<=len->∀ (k:Nat) (v:V),((List.range m).map g).flatten[k]? =some v->k<m*P.cellsOf e/\(g (k / P.cellsOf e))[k % P.cellsOf e]? =some v:=by
  intro m
  induction m with
  | zero=>intro _ k v hv;simp at hv
  | succ m ihm =>
   intro hm' k v hv
   rw [List.range_succ,List.map_append,List.flatten_append] at hv;have hfl:((List.range m).map g).flatten.length=m*P.cellsOf e:=by
    rw [zBK ((List.range m).map g) (P.cellsOf e) fun y hy=>?_]
    ·simp
    obtain ⟨i,hi,rfl⟩:=List.mem_map.1 hy;exact hgl i (by have:=List.mem_range.1 hi;omega)
   by_cases hk:k<m*P.cellsOf e
   ·rw [zWL (by omega)] at hv
    obtain ⟨h1,h2⟩:=ihm (by omega) k v hv
    exact ⟨by rw [zWY];omega,h2⟩
   rw [zWI (by omega),hfl] at hv
   simp only [zWP,List.map_nil,List.flatten_cons,List.flatten_nil,zWT] at hv;have hlt:=(List.getElem?_eq_some_iff.1 hv).1;rw [hgl m (by omega)] at hlt
   have e1:k / P.cellsOf e=m:=Nat.div_eq_of_lt_le (by omega) (by rw [zWY];omega)
   have e2:k % P.cellsOf e=k-m*P.cellsOf e:=by
    have:=Nat.div_add_mod' k (P.cellsOf e);rw [e1] at this;omega
   exact ⟨by rw [zWY];omega,by rw [e1,e2];exact hv⟩
 refine ⟨(List.range len).map g,fun y hy=>?_,zJH (.sl _ _ false _ (some a) len cap (fun k=>(w.cell? (a.add k)).getD undef) hxl.symm hl hm (by simp) (fun h=>by omega) (fun y hy=>?_) (fun h0=>⟨a,rfl,?_,fun j hj=>?_⟩) fun j u hu=>?_) rfl⟩
 ·obtain ⟨i,hi,rfl⟩:=hxm y hy;obtain ⟨_,h1,_⟩:=hg i hi;exact h1
 ·obtain ⟨i,hi,rfl⟩:=hxm y hy;exact hgl i hi
 ·obtain ⟨u,hu,_⟩:=hcl 0 (Nat.mul_pos h0 hpos);have:=cell_lt hu;rwa [add_block] at this
 ·obtain ⟨u,hu,h1,_⟩:=hcl j hj;rw [hu];exact ⟨rfl,h1⟩
 obtain ⟨h1,h2⟩:=hflat len (zV9 _) j u hu;obtain ⟨u',hu',_,h4⟩:=hcl j h1;rw [hu'];exact h4 u h2
theorem zH4 [Glo] {d:Nat} {tot:Nat} (ih:∀ t,zEl P d t=true->∀ n cs x,DataW.trod enc P w base spare held n t cs=some x->∃ vs,isV P d t vs/\Cs M0 w (X0 w) 0 vs cs) {n:Nat} {cs:List Value} (hl:cs.length=tot) :
  ∀ (fs:List Field) (o:Nat),o<=tot->fsOk P (zEl P d) tot fs o=true->(∀ f∈fs,∃ y,DataW.trod enc P w base spare held n f.type ((cs.drop f.offset).take (P.cellsOf f.type))=some y) ->
   ∃ vs,isFs (isV P d) fs vs/\Cs M0 w (X0 w) 0 vs (cs.drop o)
 | [],o,_,hok,_=>by
  simp only [fsOk,decide_eq_true_eq] at hok;refine ⟨[],rfl,?_⟩;rw [List.drop_of_length_le (by omega)]
  exact ⟨rfl,by simp,by simp⟩
 | f::r,o,ho,hok,hf=>by
  simp only [fsOk,zV5,decide_eq_true_eq] at hok;obtain ⟨⟨⟨h1,hle⟩,h2⟩,h3⟩:=hok;obtain ⟨y,hy⟩:=hf f (zV8 ..);obtain ⟨a,ha,hca⟩:=ih _ h2 _ _ _ hy;obtain ⟨b,hb,hcb⟩:=zH4 ih hl r _ hle h3 (fun f' hf'=>hf f' (zV4 _ hf'))
  refine ⟨a++b,⟨a,b,rfl,ha,hb⟩,?_⟩;have:=zSy hca hcb;rw [h1,<- List.drop_drop,List.take_append_drop] at this;exact this
theorem zPF [Glo] {d:Nat} {e:TypeId} (ih:∀ n cs x,DataW.trod enc P w base spare held n e cs=some x->∃ vs,isV P d e vs/\Cs M0 w (X0 w) 0 vs cs) {n:Nat} {cs:List Value} :
  ∀ (k o:Nat),cs.length=o+k*P.cellsOf e->(∀ i,i<k->∃ y,DataW.trod enc P w base spare held n e ((cs.drop (o+i*P.cellsOf e)).take (P.cellsOf e))=some y) ->
   ∃ vs,isA (isV P d e) k vs/\Cs M0 w (X0 w) 0 vs (cs.drop o)
 | 0,o,hl,_=>⟨[],rfl,by rw [List.drop_of_length_le (by omega)];exact ⟨rfl,by simp,by simp⟩⟩
 | k+1,o,hl,h=>by
  obtain ⟨y,hy⟩:=h 0 (by omega)
  rw [Nat.zero_mul,Nat.add_zero] at hy;obtain ⟨a,ha,hca⟩:=ih _ _ _ hy;obtain ⟨b,hb,hcb⟩:=zPF ih k (o+P.cellsOf e) (by rw [hl,zWY];omega) (fun i hi=>by
   have:=h (i+1) (by omega)
   rw [zWY,Nat.one_mul,show o+(i*P.cellsOf e+P.cellsOf e)=o+P.cellsOf e+i*P.cellsOf e by omega] at this
   exact this)
  refine ⟨a++b,⟨a,b,rfl,ha,hb⟩,?_⟩;have:=zSy hca hcb;rw [<- List.drop_drop,List.take_append_drop] at this;exact this
theorem opens [Glo]:∀ (d:Nat) (t:TypeId),zEl P d t=true->∀ n cs x,DataW.trod enc P w base spare held n t cs=some x->∃ vs,isV P d t vs/\Cs M0 w (X0 w) 0 vs cs
 | 0,_,h=>by simp [zEl] at h
 | d+1,t,hok=>fun n cs x h=>by
  unfold zEl at hok;split at hok
  ·rename_i ht;obtain ⟨b,rfl,_⟩:=DataW.trod_bool ht h;exact ⟨_,by simp only [isV,ht];exact ⟨b,rfl⟩,zJH (.bool _ _) rfl⟩
  ·rename_i k ht;obtain ⟨z,rfl,_,hw⟩:=DataW.trod_int ht h;exact ⟨_,by simp only [isV,ht];exact ⟨z,(Lit.wf_int_iff _ _).1 hw,rfl⟩,zJH (.int _ _ _) rfl⟩
  ·rename_i ht;obtain ⟨s,rfl,_,_⟩:=DataW.trod_string ht h;exact ⟨_,by simp only [isV,ht];exact ⟨s.data.toList,rfl⟩,zJH (zQj s) rfl⟩
  ·rename_i e ht;simp only [zV5,decide_eq_true_eq] at hok;obtain ⟨xs,h1,h2⟩:=zPG ht hok.1 (opens d e hok.2) h;exact ⟨_,by simp only [isV,ht];exact ⟨xs,rfl,h1⟩,h2⟩
  ·rename_i fs ht;obtain ⟨xs,n,_,rfl,hl,hlen,hf⟩:=DataW.trod_struct ht h;obtain ⟨vs,h1,h2⟩:=zH4 (tot:=P.cellsOf t) (n:=n) (opens d) hl fs.toList 0 (Nat.zero_le _) hok (fun f hf'=>by
    obtain ⟨i,hi⟩:=List.getElem?_of_mem hf';have hi':i<xs.length:=by
     have:=(List.getElem?_eq_some_iff.1 hi).1;rw [hlen];simpa using this
    exact ⟨xs[i],(hf i f (by simpa using hi)).trans (zV3 hi')⟩)
   exact ⟨vs,by simp only [isV,ht];exact h1,by simpa using h2⟩
  ·rename_i n e ht;simp only [zV5,decide_eq_true_eq] at hok;obtain ⟨xs,m,_,rfl,hl,hlen,hf⟩:=DataW.trod_array ht h;obtain ⟨vs,h1,h2⟩:=zPF (n:=m) (cs:=cs) (opens d e hok.2) n 0 (by omega) (fun i hi=>⟨xs[i]'(by omega),by
    have:=hf i hi;rw [zWV,this];exact zV3 _⟩)
   exact ⟨vs,by simp only [isV,ht];exact h1,by simpa using h2⟩
  simp at hok
theorem zTi [Glo] {t e:TypeId} {v:Value} {dd:DataW H} {p:List MemPlace} {r:Reach} {b0:Nat} (d:Nat) (hok:zEl P (d+1) t=true) (hs:P.underlying t=some (.slice e)) (hv:Value.okWide P w r b0 t v) (h:DataW.Trod enc P w base spare held t v dd p) :
  ∃ xs,(∀ x∈xs,isV P d e x)/\R M0 w (X0 w) 0 (.sl (P.cellsOf e) false xs) v:=by
 obtain ⟨a,len,cap,rfl⟩:=okWide_slice hs hv;obtain ⟨fuel,hf⟩:=h;obtain ⟨vs,h1,h2⟩:=opens (d+1) t hok _ _ _ hf;unfold isV at h1;simp only [hs] at h1;obtain ⟨xs,rfl,hx⟩:=h1;exact ⟨xs,hx,h2.rel 0 _ rfl⟩
end
end Go.Proofs.YthjpcmecgjfilaaGreat
end
section
namespace Go.Ab
open Go.RowKit
def zDX [Glo] (P:Program) (c:Code) (Q:Exit->St->Prop):Nat->St->Prop
 | 0,_=>False
 | n+1,st=>awp P c (thn (zDX P c Q n) Q) st
theorem zHj [Glo] {P:Program} {c:Code} {Q:Exit->St->Prop} {base:Nat} {Xa:Nat->Prop} {w0:W0} {N:Nat}:∀ (n:Nat) (st:St) (a:Act) (w:World),st.n=N->zDX P c Q n st->Rel base Xa w0 st a w ->
  Code.rounds P c (fun e a' w'=>∃ st',st'.n=N/\Q e st'/\Rel base Xa w0 st' a' w') n a w
 | 0,_,_,_,_,h,_=>h.elim
 | n+1,st,a,w,hn,h,hR=>by
  rw [rounds_succ];refine wp_mono (h base Xa w0 a w hR) fun e a' w' ⟨s,h1,h2,h3⟩=>?_
  cases e with
  | normal=>exact zHj n s a' w' (h1.trans hn) h2 h3
  | _=>exact ⟨s,h1.trans hn,h2,h3⟩
theorem zAX [Glo] {P:Program} {c:Code} {Q:Exit->St->Prop} {st:St} (n:Nat) (h:zDX P c Q n st):awp P (.loop c) Q st:=fun _ _ _ a w hR=>wp_loop_rounds n (zHj n st a w rfl h hR)
theorem zAk [Glo] {P:Program} {c:Code} {Q:Exit->St->Prop} {st:St} {n:Nat} (h:∀ K:St->Prop,(∀ s,zDX P c Q n s->K s)->awp P c (thn K Q) st):zDX P c Q (n+1) st:=h _ fun _ h=>h
end Go.Ab
namespace Go.Ab
open Go.RowKit
theorem RelM.cells [Glo] {base:Nat} {Xa:Nat->Prop} {w0:W0} {st:St} {a:Act} {w:World} {M:Mp} (hM:RelM base Xa w0 st a w M) (id:Nat) {o:Ob} {cs:List V} (cs':List V) (ho:lookO st.ob id=some o) (hx:o.xs=[cs]) (hlen:cs'.length=cs.length)
  (hc:∀ (j:Nat) (u:V),cs'[j]? =some u->∃ u',cs[j]? =some u'/\∀ v,R M w (Xf base Xa w M st.ob) (if o.box then st.nx else 0) u' v->R M w (Xf base Xa w M st.ob) (if o.box then st.nx else 0) u v) :
  RelM base Xa w0 {st with ob:=(id,some {o with xs:=[cs']})::st.ob} a w M:=by
 have hX:∀ b,Xf base Xa w M st.ob b->Xf base Xa w M ((id,some {o with xs:=[cs']})::st.ob) b:=fun b hb=>⟨hb.1,fun i o1 ho1 hf=>by
  simp only [lookO] at ho1;split at ho1
  ·rename_i e;subst e;simp only [zV2] at ho1;subst ho1;exact hb.2 _ o ho hf
  exact hb.2 i o1 ho1 hf⟩
 refine ⟨hM.below,hM.hbase,hM.xa,fun m n v u hv=>(hM.gh m n v u hv).mono (zV9 _) (fun _ _=>rfl) hX (fun _ _=>rfl),hM.pin,hM.defers.mono hX (fun _ _=>rfl),hM.size,fun t=>(hM.tmps t).mono (zV9 _) (fun _ _=>rfl) hX (fun _ _=>rfl),fun i o1 ho1=>?_,fun i i' o1 o2 g h1 h2 hne hg=>?_⟩
 ·simp only [lookO] at ho1;split at ho1
  ·rename_i e;subst e;simp only [zV2] at ho1;subst ho1;obtain ⟨q1,q2⟩:=hM.obs _ o ho;obtain ⟨vals,hrow,hone,hr⟩:=q2.row;refine ⟨q1,q2.pos,q2.off,fun x hx'=>?_,vals,by simpa [hx] using hrow,hone,fun j u hu=>?_⟩
   ·simp only [List.mem_singleton] at hx';subst hx';have:=q2.len cs (by rw [hx];simp)
    rw [hlen];exact this
   simp only [List.flatten_cons,List.flatten_nil,zWT] at hu;obtain ⟨u',e,hw'⟩:=hc j u hu;exact (hw' _ (hr j u' (by rw [hx];simpa using e))).mono (zV9 _) (fun _ _=>rfl) hX (fun _ _=>rfl)
  obtain ⟨q1,q2⟩:=hM.obs i o1 ho1;exact ⟨q1,q2.mono (zV9 _) (fun _ _=>rfl) hX (fun _ _=>rfl) (fun _ _=>rfl)⟩
 have hl:∀ i o1,lookO ((id,some {o with xs:=[cs']})::st.ob) i=some o1->∃ o2,lookO st.ob i=some o2:=fun i o1 h1=>by
  simp only [lookO] at h1;split at h1
  ·rename_i e;subst e;exact ⟨o,ho⟩
  exact ⟨o1,h1⟩
 obtain ⟨p1,r1⟩:=hl i o1 h1;obtain ⟨p2,r2⟩:=hl i' o2 h2;exact hM.dist i i' p1 p2 g r1 r2 hne hg
theorem zKh [Glo] {P:Program} {c:Code} {Q:Exit->St->Prop} {st:St} (id j e s:Nat) (hs:0<s) {o:Ob} {cs:List V} {tt:Bool} (ho:lookO st.ob id=some o) (hx:o.xs=[cs]) (hbox:o.box=true) (hj:cs[j]? =some (.sl 0 tt []))
  (h:awp P c Q {st with nx:=st.nx+1,ob:=(id,some {o with xs:=[cs.set j (.own st.nx)]})::(st.nx,some ⟨e,s,false,false,[]⟩)::st.ob}):awp P c Q st:=fun base Xa w0 a w ⟨M,hM⟩=>by
 obtain ⟨M',hM',hn,hR⟩:=hM.grow (ob1:=st.ob) (fun _ _ h=>h) none (fun _ _ h=>by cases h) (fun _ _ _ _ _ h=>by cases h) (fun _ h=>by cases h) (World.grownBy.refl w none) (.slice none 0 0) (fun g h=>by cases h)
  ⟨e,s,false,false,[]⟩ (fun _=>hs) (by simp) [] (World.ownsG_nil w base e s) (by simp) (fun j u h=>by simp at h)
 have hid:=(hM.obs _ o ho).1;refine h base Xa w0 a w ⟨M',hR.cells id (cs.set j (.own st.nx)) (o:=o) (cs:=cs) (by simp only [lookO];rw [if_neg (by omega)];exact ho) hx (by simp) fun i u hu=>?_⟩
 by_cases e':j=i
 ·subst e';rw [List.getElem?_set_self (by exact (List.getElem?_eq_some_iff.1 hj).1)] at hu
  simp only [zV2] at hu;subst hu;refine ⟨_,hj,fun v hv=>?_⟩
  obtain ⟨A,c',f,hu,_,_,_,hnil,_⟩:=R_sl hv;obtain ⟨rfl,rfl⟩:=hnil rfl;rw [hu,hbox];exact .own _ _ _ _ _ (by simp) hn
 rw [List.getElem?_set_ne e'] at hu;exact ⟨u,hu,fun v hv=>hv⟩
theorem zJM [Glo] {P:Program} {c:Code} {Q:Exit->St->Prop} {st:St} (t id:Nat) {sz k:Nat} {o:Ob} (ht:lkT st.tmp t=.part id sz 0 k) (ho:lookO st.ob id=some o) (hbox:o.box=false) (hf:o.fz=false) (hk:k<=o.xs.length)
  (h:awp P c Q {st with nx:=st.nx+1,tmp:=(t,.own st.nx)::st.tmp,ob:=(st.nx,some ⟨o.ety,o.sz,false,false,o.xs.take k⟩)::(id,none)::st.ob}):awp P c Q st:=fun base Xa w0 a w ⟨M,hM⟩=>by
 have hv:=hM.tmps t;rw [ht] at hv;obtain ⟨g,O,N,cap,hMv,hl,hse⟩:=zGQ hv;obtain ⟨_,hok⟩:=hM.obs id o ho;obtain ⟨vals,hrow,hv1,hvr⟩:=hok.row;simp only [hbox,zWK,if_false] at hvr;rw [hMv] at hrow;have hN:N=o.xs.length:=by
  rcases hrow.sl ⟨_,_,_,rfl⟩ with ⟨hnil,_⟩|⟨g',O',cap',cur,hval,_⟩
  ·simp at hnil
  simp only [Value.slice.injEq] at hval;exact hval.2.1
 subst hN;have hlen:=hok.len;obtain ⟨cur,hbg,hg,hnc,hcm,hcs,htake⟩:=hrow.row;have hse':a.tmps.getD t undef=.slice (some ⟨g,O,none⟩) k cap:=by rw [hse];simp
 have hown':w.ownsG base o.ety o.sz (.slice (some ⟨g,O,none⟩) k cap) k (vals.take (k*o.sz)):=by
  refine ⟨by rw [zWE,hrow.1];exact Nat.min_eq_left (zWO _ (by omega)),.inr (.inl ⟨g,O,cap,cur,rfl,hbg,hg,by omega,hcm,hcs,?_⟩)⟩
  rw [<- htake,List.take_take,Nat.min_eq_left (zWO _ (by omega))]
 obtain ⟨M',hM',hn,hR⟩:=hM.grow (ob1:=(id,none)::st.ob) (fun i o' ho'=>by simp only [lookO] at ho';split at ho'<;>simp_all) (some g)
  (fun b hx' e=>hx'.2 id o ho hf (by rw [hMv];simpa [Value.ownB] using e.symm)) (fun i o' ho' g' hg' e=>by
   simp only [lookO] at ho';split at ho'
   ·simp at ho'
   ·rename_i hne;exact hM.dist i id o' o g' ho' ho hne hg' (by rw [hMv,e];rfl)) (fun g' hg'=>by simp at hg';omega) (World.grownBy.refl w _) (.slice (some ⟨g,O,none⟩) k cap) (fun g' hg'=>by
   simp only [Value.ownB,zV2] at hg';exact .inl (by rw [hg'])) ⟨o.ety,o.sz,false,false,o.xs.take k⟩ (fun _=>hok.pos hbox) (fun y hy=>hlen y (List.mem_of_mem_take hy)) (vals.take (k*o.sz)) (by simpa [Nat.min_eq_left hk] using hown') (fun u hu=>hv1 u (List.mem_of_mem_take hu)) (fun j v hj=>by
   have hq:=zDd o.xs hlen (lo:=0) (len:=k);simp only [List.drop_zero,Nat.zero_mul] at hq;rw [hq,zWJ] at hj;split at hj
   ·rename_i hjl;rw [zV1,zWJ,if_pos hjl,<- zV1];exact hvr j v hj
   cases hj) (fun h=>by have:=hok.off (.inr (h.resolve_left (by simp)));rw [hMv] at this;exact this)
 have:=h base Xa w0 a w ⟨M',hR.below,hR.hbase,hR.xa,hR.gh,hR.pin,hR.defers,hR.size,fun t'=>by
  simp only [lkT];split
  ·rename_i e';subst e';rw [hse'];exact .own _ _ _ _ _ (by simp) hn
  exact hR.tmps t',hR.obs,hR.dist⟩
 exact this
theorem zA5 [Glo] {P:Program} {c:Code} {Q:Exit->St->Prop} (I:Nat->St->Prop) (step:∀ k st,I k st->∀ K:St->Prop,(∀ k' st',k=k'+1->I k' st'->K st')->awp P c (thn K Q) st):∀ k st,I k st->zDX P c Q (k+1) st
 | 0,st,h=>step 0 st h (zDX P c Q 0) (fun k' st' e _=>by cases e)
 | k+1,st,h=>step (k+1) st h (zDX P c Q (k+1)) (fun k' st' e hI=>by cases e;exact zA5 I step k st' hI)
theorem zBV [Glo] {P:Program} {c:Code} {Q:Exit->St->Prop} {n nx pn:Nat} {T:List (Nat × V)} {ob:List (Nat × Option Ob)} (L:List (Nat × V)) (hL:∀ p∈L,lkT T p.1=p.2) (h:awp P c Q ⟨n,L,nx,ob,pn⟩):awp P c Q ⟨n,T,nx,ob,pn⟩ :=
 fun base Xa w0 a w ⟨M,hM⟩=>h base Xa w0 a w ⟨M,hM.weakT fun t=>(zK7 L t).imp (fun h=>h) fun h=>(hL _ h).symm⟩
end Go.Ab
end
section
namespace Go.Ab
open Go.RowKit
def noDef (o:Oper):Bool:=match o.op with
 | .defer _=>false
 | _=>true
theorem zRx {o:Oper} (h:noDef o=true):∀ c,o.op≠.defer c:=fun c e=>by unfold noDef at h;rw [e] at h;cases h
section
variable {P:Program} {base:Nat} {Xa:Nat->Prop} {w0:W0} {K:St->Prop}
theorem zUz {o:Oper} {a:Act} {w:World} {N:Act->World->Prop} {Q:Exit->Act->World->Prop} {F:Fence} (hF:F=Fence.wide\/∃ l,F=Fence.wide.inRound l) (ho:∀ c,o.op≠.defer c) (n:Nat)
  (h:o.wp P a w N fun _ _ _=>False):o.wpIn F n P a w N Q:=by
 have hfn:∀ f,F.fn f:=fun f=>by rcases hF with rfl|⟨l,rfl⟩<;>trivial
 have hdp:F.depth.isSome=true->1<=n:=fun h=>by rcases hF with rfl|⟨l,rfl⟩<;>simp [Fence.wide,Fence.inRound] at h
 refine ⟨fun f _=>hfn f,?_⟩
 rw [Oper.semAt_plain F _ _ ho];unfold Oper.wp at h
 revert h
 generalize (execOp a.eval o).run P w=res;intro h;cases res with
 | ok nx w1 =>
  cases nx with
  | value v=>exact h
  | skip=>exact h
  | defer d=>exact h
  | enter f args =>
   have h':Calls P f args w1 fun|.returned v,w''=>N (a.put o.dst v) w''|.panicked chain,w''=>Q (.panic chain) a w''|.outgrown,_=>LetsOut Q:=by
    refine Calls.mono h fun e w' h=>?_
    cases e with
    | returned v=>exact h
    | panicked c=>exact h.elim
    | outgrown=>obtain ⟨_,_,h⟩:=h;exact h.elim
   refine ⟨hdp,?_⟩;rcases hF with rfl|⟨l,rfl⟩
   ·exact callsIn_wide.2 h'
   exact (callsIn_wide (n:=n-1)).2 h'
  | row r args =>
   refine ⟨hdp,?_⟩;have h':RowsIn Fence.wide (n-1) P r args w1 fun v w''=>N (a.put o.dst v) w'':=fun c cs _=>let ⟨v,w',q,s⟩:=h c cs;⟨v,w',q,stepsIn_wide.2 s⟩
   rcases hF with rfl|⟨l,rfl⟩
   ·exact h'
   exact h'
  | _=>exact h.elim
 | halt e w1=>cases e<;>exact h.elim
theorem zPd [Glo] {ops:Array Oper} {QC:Exit->Act->World->Prop} {m:Nat} {F:Fence} {n:Nat} (hF:F=Fence.wide\/∃ l,F=Fence.wide.inRound l) (rest:List Oper)
  (hQ:∀ a w,Nx base Xa w0 m K a w->wpListIn F n P ops QC rest a w):∀ (l:List Oper) (st:St) (a:Act) (w:World),st.n=m->opsV P (slotsOf ops.toList) l K st->(l.all (okO P m))=true->l.all noDef=true->Rel base Xa w0 st a w->wpListIn F n P ops QC (l++rest) a w
 | [],st,a,w,hn,h,_,_,hR=>hQ a w ⟨st,hn,h,hR⟩
 | o::r,st,a,w,hn,h,hok,hnd,⟨M,hR⟩=>by
  simp only [List.all_cons,zV5] at hok hnd;have next:∀ a' w',Nx base Xa w0 st.n (opsV P (slotsOf ops.toList) r K) a' w'->wpListIn F n P ops QC (r++rest) a' w':=fun a' w' ⟨st',h1,h2,h3⟩=>zPd hF rest hQ r st' a' w' (h1.trans hn) h2 hok.2 hnd.2 h3
  have hs:=zFY (QC:=fun _ _ _=>False) h (by rw [hn];exact hok.1) hR
  rw [zWM];unfold wpListIn;split
  ·rename_i hw;rw [if_pos hw] at hs;exact zUz hF (zRx hnd.1) n (zCA hs next)
  rename_i hw;rw [if_neg hw] at hs;exact ⟨fun f _=>by rcases hF with rfl|⟨l,rfl⟩<;>trivial,next _ _ hs⟩
theorem zLG [Glo] {ops:Array Oper} {QC:Exit->Act->World->Prop} {m:Nat} {F:Fence} {n:Nat} (hF:F=Fence.wide\/∃ l,F=Fence.wide.inRound l)
  (hQ:∀ a w,Nx base Xa w0 m K a w->QC .normal a w) (l:List Oper) (st:St) (a:Act) (w:World) (h1:st.n=m) (h2:opsV P (slotsOf ops.toList) l K st) (h3:(l.all (okO P m))=true) (h4:l.all noDef=true) (h5:Rel base Xa w0 st a w):wpListIn F n P ops QC l a w:=by
 have:=zPd (ops:=ops) (QC:=QC) (n:=n) hF [] hQ l st a w h1 h2 h3 h4 h5;rwa [zWT] at this
end
structure LoopD where
 fn:FuncId
 ps:Array Tmp
 asg:Code
 body:Code
 T:List (Nat × V)
 n:Nat
 nx:Nat
 M0:Mp
 dl:Nat
def LoopD.at (Y:LoopD) (tm:Array Value) (s:LoopState):Obj:=.loop {state:=s,pending:=none,fn:=Y.fn,tmps:=tm,params:=Y.ps,assign:=Y.asg,body:=Y.body,defers:=Y.dl}
def yOk (l:Nat) (Y:LoopD) (w0:W0):Prop :=
 ∃ tm A B,tm.size=Y.n/\w0.mks=A++(l,Y.at tm .ready)::B/\(∀ t,w0.gh Y.M0 Y.nx (lkT Y.T t) (tm.getD t undef))/\∀ i,i<Y.nx->w0.pm i=Y.M0 i
def GloB:Type:=Glo
@[reducible] def gly (g:GloB) (l:Nat) (Y:LoopD):Glo :=
 {(show Glo from g) with
  wok:=yOk l Y
  pmin:=Y.nx
  wokA:=fun {w0 pm gh mk} h hp hg=>by
   obtain ⟨tm,A,B,h1,h2,h3,h4⟩:=h;exact ⟨tm,mk++A,B,h1,by simp [h2],fun t=>hg _ _ _ _ (h3 t),fun i hi=>(hp i hi).trans (h4 i hi)⟩}
section
variable {P:Program} {base:Nat} {Xa:Nat->Prop} {w0:W0} {w:World} {st:St} {a:Act} {M:Mp} {g:GloB} {l:Nat} {Y:LoopD}
theorem RelM.ofY [ht:@Tot g] (h:@RelM (gly g l Y) base Xa w0 st a w M):@RelM g base Xa w0 st a w M:=by
 obtain ⟨h1,h2,⟨h3,_⟩,h4,⟨⟨_,h5⟩,h6⟩,h7,h8,h9,h10,h11⟩:=h;exact @RelM.mk g _ _ _ _ _ _ _ h1 h2 (@XaW.mk g _ _ _ h3 (@Tot.t g ht _)) h4 ⟨⟨by rw [@Tot.p g ht];exact Nat.zero_le _,h5⟩,h6⟩ h7 h8 h9 h10 h11
theorem RelM.toY (h:@RelM g base Xa w0 st a w M) (hy:yOk l Y w0) (hn:Y.nx<=st.pn):@RelM (gly g l Y) base Xa w0 st a w M:=by
 obtain ⟨h1,h2,⟨h3,_⟩,h4,⟨⟨_,h5⟩,h6⟩,h7,h8,h9,h10,h11⟩:=h;exact @RelM.mk (gly g l Y) _ _ _ _ _ _ _ h1 h2 (@XaW.mk (gly g l Y) _ _ _ h3 hy) h4 ⟨⟨hn,h5⟩,h6⟩ h7 h8 h9 h10 h11
theorem Marks.turn {X:Nat->Prop} {A B:List (Nat × Obj)} {o o':Obj} (h:Marks base w X (A++(l,o)::B)) (ho':isRow o'=false):Marks base (w.putObj l o') X (A++(l,o')::B):=by
 have hl:=h.2 (l,o) (by simp)
 have hlt:l<w.heap.size:=(Array.getElem?_eq_some_iff.1 hl.2.2.1).1;have hnd:=h.1;simp only [List.map_append,zWP,List.nodup_append,List.nodup_cons] at hnd;obtain ⟨hA,⟨hlB,hB⟩,hAB⟩:=hnd;have hoth:∀ p∈A++(l,o)::B,p.1≠l->base<=p.1/\X p.1/\(w.putObj l o').heap[p.1]? =some p.2/\isRow p.2=false:=fun p hp hne=>by
  obtain ⟨h1,h2,h3,h4⟩:=h.2 p hp;exact ⟨h1,h2,(World.putObj_heap_other hne).trans h3,h4⟩
 refine ⟨by simpa only [List.map_append,zWP] using h.1,fun p hp=>?_⟩
 rcases List.mem_append.1 hp with hp|hp
 ·exact hoth p (List.mem_append_left _ hp) (fun e=>hAB p.1 (List.mem_map.2 ⟨p,hp,rfl⟩) l (by simp) e)
 rcases List.mem_cons.1 hp with rfl|hp
 ·exact ⟨hl.1,hl.2.1,World.putObj_heap_same hlt,ho'⟩
 exact hoth p (List.mem_append_right _ (zV4 _ hp)) (fun e=>hlB (e ▸ List.mem_map.2 ⟨p,hp,rfl⟩))
theorem R_yld {n l:Nat} {X:Nat->Prop} {u:Value} (h:R M w X n (.yld l) u):u=.func (.yield l) #[] #[]:=by cases h;rfl
def rndV (g:GloB) (P:Program) (Y:LoopD) (p i1 i2 bid:Nat) (asg bod:List Oper) (v:V) (nx:Nat) (ob:List (Nat × Option Ob)) (K:Nat->List (Nat × Option Ob)->Prop):Prop :=
 @opsV g P (slotsOf asg) asg (fun s1=>@opsV g P (slotsOf bod) bod (fun s2=>s2.pn=nx/\K s2.nx s2.ob) s1) ⟨Y.n,(p,v)::Y.T,nx,ob,nx⟩
structure LoopOk (P:Program) (Y:LoopD) (p i1 i2 bid:Nat) (asg bod:List Oper):Prop where
 eps:Y.ps=#[p]
 eas:Y.asg=.region i1 asg.toArray false
 ebo:Y.body=.block bid (.region i2 bod.toArray false)
 hp:p<Y.n
 a1:asg.all (okO P Y.n)=true
 a2:asg.all noDef=true
 b1:bod.all (okO P Y.n)=true
 b2:bod.all noDef=true
theorem zLe [ht:@Tot g] {o:Oper} {f x:Operand} {tys:Array TypeId} (ho:o.op=.call {callee:=.value f,args:=#[x],argTypes:=tys}) {p i1 i2 bid:Nat} {asg bod:List Oper} (hY:LoopOk P Y p i1 i2 bid asg bod)
  (hf:@ev (gly g l Y) st f=.yld l) (hgv:okG (@ev (gly g l Y) st x)) {K:St->Prop} {Q:Exit->Act->World->Prop} {n:Nat}
  (h:rndV g P Y p i1 i2 bid asg bod (unG (@ev (gly g l Y) st x)) st.nx st.ob fun nx ob=>K ({st with nx:=nx,ob:=ob}.put o.dst (.bool true)))
  (hd:∀ d,o.dst=some d->d<st.n) (hR:@RelM (gly g l Y) base Xa w0 st a w M) {N:Act->World->Prop} (hN:∀ a w,@Nx (gly g l Y) base Xa w0 st.n K a w->N a w):o.wpIn Fence.wide n P a w N Q:=by
 letI:Glo:=gly g l Y
 obtain ⟨tm,A,B,hts,hmk,hgh,hpm⟩:=hR.xa.k;have hm:=hR.defers.2;rw [hmk] at hm;have hl0:=hm.2 (l,Y.at tm .ready) (by simp)
 have hl:w.heap[l]? =some (Y.at tm .ready):=hl0.2.2.1;have hfv:=ev_R hR.rx f;have hxv:=ev_R hR.rx x;rw [hf] at hfv;have hfe:=R_yld hfv;have hrun:(execOp a.eval o).run P w=.ok (.round l Y.fn (tm.setIfInBounds p (a.eval x)) Y.asg Y.body) w:=by
  have hy:=run_yield (P:=P) (args:=#[a.eval x]) hl (by rw [hY.eps];rfl)
  simp only [hY.eps] at hy;unfold execOp;simp [ho,resolve,Deferred.ofValue,hfe,invoke,hy]
 refine ⟨fun _ _=>trivial,?_⟩
 rw [Oper.semAt_plain _ _ _ (by rw [ho];intro c e;cases e),hrun,Oper.uponIn_round]
 refine ⟨by simp [Fence.wide],?_⟩
 have hA:=hR.aside;have hG:=RelM.ofY hA;have hnx:Y.nx<=st.nx:=zWR hR.pin.1.1 hR.pin.1.2;obtain ⟨gh,hgh'⟩:∃ gh:Mp->Nat->V->Value->Prop,gh=fun m n v u=>w0.gh m n v u\/(m=M/\n=st.nx/\∃ t,v=lkT st.tmp t/\u=a.tmps.getD t undef):=⟨_,rfl⟩
 rw [<- hgh'] at hA hG;obtain ⟨k1,k2,k3,k4,k5,k6,k7,k8,k9,k10⟩:=hG;have hF:@RelM g base Xa ⟨w0.w,M,gh,mkOf a.defers++w0.mks⟩ ⟨Y.n,(p,unG (@ev (gly g l Y) st x))::Y.T,st.nx,st.ob,st.nx⟩ ⟨tm.setIfInBounds p (a.eval x),[]⟩ w M :=
  @RelM.mk g _ _ _ _ _ _ _ k1 k2 k3 k4 k5 k6 (by simp [hts]) (fun t=>by
   simp only [lkT];split
   ·rename_i e;subst e;have e:(tm.setIfInBounds t (a.eval x)).getD t undef=a.eval x:=by
     rw [zV6,Array.getElem?_setIfInBounds_self_of_lt (by rw [hts];exact hY.hp)];rfl
    rw [e];exact zNv hxv hgv
   rename_i e;have e:(tm.setIfInBounds p (a.eval x)).getD t undef=tm.getD t undef:=by
    rw [zV6,Array.getElem?_setIfInBounds_ne (fun h=>e h.symm),<- zV6]
   rw [e];exact (hR.gh _ _ _ _ (hgh t)).mono hnx (fun i hi=>(hR.pin.2 i (Nat.lt_of_lt_of_le hi hR.pin.1.1)).trans (hpm i hi)) (fun _ h=>h) (fun _ _=>rfl)) k9 k10
 refine roundIn_of_wpIn (F:=Fence.wide) trivial ?_;rw [hY.eas];refine wpIn_region_lit ?_;refine @zLG P base Xa _ _ g asg.toArray _ Y.n (Fence.wide.inRound l) _ (.inr ⟨l,rfl⟩) ?_ asg _ _ w rfl h hY.a1 hY.a2 ⟨M,hF⟩;rintro a1 w1 ⟨s1,hn1,hK1,M1,hR1⟩;have hR1':=hR1;obtain ⟨-,-,-,-,-,⟨hds1,hm1⟩,-,-,-,-⟩:=hR1';simp only [hmk] at hm1;have em:∀ (c:List (Nat × Obj)) (o:Obj),c++(mkOf a.defers++(A++(l,o)::B))=(c++mkOf a.defers++A)++(l,o)::B:=fun c o=>by simp
 rw [em] at hm1;have hl1:=(hm1.2 (l,Y.at tm .ready) (by simp)).2.2.1
 refine ⟨_,run_beginRound hl1 rfl,?_⟩;have hR2:=@RelM.reobj base Xa _ w1 s1 a1 M1 g hR1 l _ (Y.at tm .busy) hl1 hl0.1 rfl rfl a1.defers (mkOf a.defers++(A++(l,Y.at tm .busy)::B)) ⟨hds1,by rw [em];exact hm1.turn rfl⟩ (@Tot.t g ht _)
 refine (show ∀ QQ aa ww,Code.wpIn (Fence.wide.inRound l) (n-1) P (.block bid (.region i2 bod.toArray false)) QQ aa ww->Code.wpIn (Fence.wide.inRound l) (n-1) P Y.body QQ aa ww from fun QQ aa ww h=>by rw [hY.ebo];exact h) _ _ _ ?_
 refine wpIn_block (wpIn_region_lit ?_);refine @zLG P base Xa _ _ g bod.toArray _ Y.n (Fence.wide.inRound l) _ (.inr ⟨l,rfl⟩) ?_ bod s1 _ _ hn1 hK1 hY.b1 hY.b2 ⟨M1,hR2⟩;rintro a2 w2 ⟨s2,hn2,⟨hpn,hK⟩,M2,hR2'⟩;have hR2x:=hR2';obtain ⟨-,-,-,-,-,⟨hds2,hm2⟩,-,-,-,-⟩:=hR2x;simp only at hm2;rw [em] at hm2;have hl2:=(hm2.2 (l,Y.at tm .busy) (by simp)).2.2.1
 refine ⟨_,_,run_endRound none hl2,?_⟩;have hR3:=@RelM.reobj base Xa _ w2 s2 a2 M2 g hR2' l _ (Y.at tm .ready) hl2 hl0.1 rfl rfl a2.defers (mkOf a.defers++w0.mks) ⟨hds2,by rw [hmk,em];exact hm2.turn rfl⟩ (@Tot.t g ht _)
 obtain ⟨q1,q2,q3,q4,q5,q6,q7,q8,q9,q10⟩:=hR3;have h4:@RelM g base Xa ⟨w0.w,M,gh,mkOf a.defers++w0.mks⟩ ⟨0,[],s2.nx,s2.ob,st.nx⟩ ⟨#[],[]⟩ (w2.putObj l (Y.at tm .ready)) M2 :=
  @RelM.mk g _ _ _ _ _ _ _ q1 q2 q3 q4 (by rw [hpn] at q5;exact q5) q6.none rfl (fun t=>by simp only [lkT];exact .poi _ _) q9 q10
 have h5:=RelM.toY h4 hA.xa.k hnx;rw [hgh'] at h5;have h6:=hR.again h5;exact hN _ _ <| Nx.of hK (h6.put (st:={st with nx:=s2.nx,ob:=s2.ob}) hd (.bool _ _)) rfl
theorem zKi [ht:@Tot g] {id:Nat} {pre post:List Oper} {o:Oper} {f x:Operand} {tys:Array TypeId} {Q:Exit->St->Prop} {p i1 i2 bid:Nat} {asg bod:List Oper} (hY:LoopOk P Y p i1 i2 bid asg bod)
  (ho:o.op=.call {callee:=.value f,args:=#[x],argTypes:=tys}) (hg:o.guard=none) (hok:(pre++o::post).all (okO P st.n)=true) (hnd:(pre++o::post).all noDef=true)
  (h:@opsV (gly g l Y) P (slotsOf (pre++o::post)) pre (fun s=>@ev (gly g l Y) s f=.yld l/\okG (@ev (gly g l Y) s x)/\rndV g P Y p i1 i2 bid asg bod (unG (@ev (gly g l Y) s x)) s.nx s.ob fun nx ob =>
   @opsV (gly g l Y) P (slotsOf (pre++o::post)) post (Q .normal) ({s with nx:=nx,ob:=ob}.put o.dst (.bool true))) st):@awp (gly g l Y) P (.region id (pre++o::post).toArray false) Q st:=by
 letI:Glo:=gly g l Y
 intro base Xa w0 a w hR
 refine (wpIn_wide (n:=0)).1 (wpIn_region_lit ?_);rw [List.all_append,List.all_cons,zV5,zV5] at hok hnd;refine zPd (m:=st.n) (.inl rfl) (o::post) ?_ pre st a w rfl h hok.1 hnd.1 hR;rintro a1 w1 ⟨s,hs,⟨hf,hgx,hr⟩,M,hM⟩;unfold wpListIn;rw [if_pos (by simp [Region.wanted,hg])]
 refine zLe (st:=s) ho hY hf hgx hr (fun d hd=>?_) hM fun a2 w2 ⟨s2,hs2,hK,hR2⟩=>?_
 ·have:=hok.2.1;unfold okO at this;simp only [hd,zV5,decide_eq_true_eq] at this;rw [hs];exact this.1
 exact zLG (m:=st.n) (.inl rfl) (fun a w ⟨s,h1,h2,h3⟩=>⟨s,h1,h2,h3⟩) post s2 a2 w2 (hs2.trans hs) hK hok.2.2 hnd.2.2 hR2
end
section
variable {P:Program}
theorem zM6 [g:Glo] [Tot] {gop:Operand} {ps:Array Tmp} {assign body:Code} {Q:Exit->St->Prop} {st:St} {f:FuncId} {fs cs:List (Option (Nat × Nat))} (hg:ev st gop=.cap f fs cs)
  (h:∀ fn l dl M0,@InlC (gly g l ⟨fn,ps,assign,body,st.tmp,st.n,st.nx,M0,dl⟩) P f (fs.map capE++(V.yld l::cs.map capE)) st.nx st.ob fun _ nx ob=>Q .normal {st with nx:=nx,ob:=ob}):awp P (.rangeFunc gop ps assign body) Q st:=fun base Xa w0 a w ⟨M,hR⟩=>by
 have hgv:=ev_R hR.rx gop;rw [hg] at hgv;obtain ⟨fa,ca,hfe,h1,h2,h3,h4⟩:=R_cap hgv;refine wpIn_wide.1 (wpIn_rangeFunc (F:=Fence.wide) (n:=0) fun fn _=>?_)
 obtain ⟨hcall,hin⟩:=h fn (w.heap.size+1) w.heap.size M;obtain ⟨Y,hYe⟩:∃ Y:LoopD,Y=⟨fn,ps,assign,body,st.tmp,st.n,st.nx,M,w.heap.size⟩:=⟨_,rfl⟩;rw [<- hYe] at hin;obtain ⟨lp,hlp⟩:∃ lp:Loop,lp={state:=.ready,pending:=none,fn:=fn,tmps:=a.tmps,params:=ps,assign:=assign,body:=body,defers:=w.heap.size}:=⟨_,rfl⟩;obtain ⟨w1,hw1⟩:∃ w1:World,w1=(w.alloc (.deferred (some []))).alloc (.loop lp):=⟨_,rfl⟩;have hs1:w1.heap.size=w.heap.size+2:=by rw [hw1];simp
 have hbel:Below w.heap.size w w1:=⟨by rw [hw1];rfl,by rw [hw1];rfl,by rw [hw1];rfl,by omega,fun k hk=>by
  rw [hw1,Below.heap_alloc _ _ _ (by simp;omega),Below.heap_alloc _ _ _ hk]⟩
 have hr1:w1.heap[w.heap.size]? =some (.deferred (some [])):=by
  rw [hw1,Below.heap_alloc _ _ _ (by simp)];exact World.alloc_heap_new w _
 have hl1:w1.heap[w.heap.size+1]? =some (.loop lp):=by
  have:=World.alloc_heap_new (w.alloc (.deferred (some []))) (.loop lp);rw [World.size_alloc] at this;rw [hw1];exact this
 have hR1:=hR.world hbel;have hXn:∀ b,w.heap.size<=b->b<w1.heap.size->Xf base Xa w1 M st.ob b:=fun b hb hb'=>⟨.inr ⟨zWR hR.hbase hb,hb'⟩,fun id o ho _ e=>by
  obtain ⟨vals,hrow,_⟩:=(hR.obs id o ho).2.row;have:=(hrow.lt b e).2;omega⟩
 have hold:∀ p∈mkOf a.defers++w0.mks,p.1<w.heap.size:=fun p hp=>(Array.getElem?_eq_some_iff.1 (hR.defers.2.2 p hp).2.2.1).1
 have hm1:Marks base w1 (Xf base Xa w1 M st.ob) (mkOf a.defers++w0.mks):=hR1.defers.2;have hD1:Dfr base w1 (Xf base Xa w1 M st.ob) (zFu w.heap.size::a.defers) w0.mks:=⟨fun d hd=>by
   rcases List.mem_cons.1 hd with rfl|hd
   ·exact ⟨_,rfl⟩
   ·exact hR.defers.1 d hd,by
   show Marks base w1 _ ((w.heap.size,.deferred (some []))::(mkOf a.defers++w0.mks))
   refine ⟨?_,fun p hp=>?_⟩
   ·simp only [zWP,List.nodup_cons];refine ⟨fun hc=>?_,hm1.1⟩
    obtain ⟨p,hp,e⟩:=List.mem_map.1 hc;have:=hold p hp;omega
   rcases List.mem_cons.1 hp with rfl|hp
   ·exact ⟨hR.hbase,hXn _ (zV9 _) (by omega),hr1,rfl⟩
   exact hm1.2 p hp⟩
 have hR1':RelM base Xa w0 st {a with defers:=zFu w.heap.size::a.defers} w1 M:=⟨hR1.below,hR1.hbase,hR1.xa,hR1.gh,hR1.pin,hD1,hR1.size,hR1.tmps,hR1.obs,hR1.dist⟩
 have hA:=hR1'.aside;have hDL:Dfr base w1 (Xf base Xa w1 M st.ob) [] ((w.heap.size+1,.loop lp)::(mkOf (zFu w.heap.size::a.defers)++w0.mks)):=⟨by simp,by
   have hm2:=hD1.2;refine ⟨?_,fun p hp=>?_⟩
   ·show (((w.heap.size+1,Obj.loop lp)::(mkOf (zFu w.heap.size::a.defers)++w0.mks)).map (·.1)).Nodup
    simp only [zWP,List.nodup_cons];refine ⟨fun hc=>?_,hm2.1⟩
    obtain ⟨p,hp,e⟩:=List.mem_map.1 hc;rcases List.mem_cons.1 (show p∈(w.heap.size,Obj.deferred (some []))::(mkOf a.defers++w0.mks) from hp) with rfl|hp
    ·simp at e
    have:=hold p hp;omega
   rcases List.mem_cons.1 (show p∈(w.heap.size+1,Obj.loop lp)::(mkOf (zFu w.heap.size::a.defers)++w0.mks) from hp) with rfl|hp
   ·exact ⟨by have:=hR.hbase;simp only;omega,hXn _ (by simp) (by simp only;omega),hl1,rfl⟩
   exact hm2.2 p hp⟩
 have hA':RelM base Xa ⟨w0.w,M,fun m n v u=>w0.gh m n v u\/(m=M/\n=st.nx/\∃ t,v=lkT st.tmp t/\u=a.tmps.getD t undef),(w.heap.size+1,.loop lp)::(mkOf (zFu w.heap.size::a.defers)++w0.mks)⟩ ⟨0,[],st.nx,st.ob,st.nx⟩ ⟨#[],[]⟩ w1 M :=
  ⟨hA.below,hA.hbase,⟨hA.xa.o,Tot.t _⟩,hA.gh,hA.pin,hDL,hA.size,hA.tmps,hA.obs,hA.dist⟩
 have hAY:=RelM.toY (g:=g) (l:=w.heap.size+1) (Y:=Y) hA' ⟨a.tmps,[],_,by rw [hYe];exact hR.size,by rw [hYe,hlp];rfl,fun t=>by rw [hYe];exact .inr ⟨rfl,rfl,t,rfl,rfl⟩,fun i _=>by rw [hYe]⟩ (by rw [hYe];exact zV9 _)
 have hinv:(invoke (.fn (.func f) ca) (fa++#[Value.func (.yield (w.heap.size+1)) #[] #[]])).run P w1=.ok (.enter f (fa++#[Value.func (.yield (w.heap.size+1)) #[] #[]]++ca)) w1:=by
  unfold zCK at hcall;split at hcall
  ·rename_i fn hfn;simp only [zV5,zWW] at hcall;have h1:¬ fn.name= "runtime.NumGoroutine" :=by simpa using hcall.1
   have h2:¬ fn.body=none:=fun h=>by simp [h] at hcall
   simp [invoke,callFunc,program,Sem.run,hfn,h1,h2]
  simp at hcall
 refine ⟨w.heap.size+1,[zFu w.heap.size],w1,{target:=.fn (.func f) ca,args:=fa++#[Value.func (.yield (w.heap.size+1)) #[] #[]]},w1,f,fa++#[Value.func (.yield (w.heap.size+1)) #[] #[]]++ca,w1,?_,?_,fun _ _=>trivial,hinv,fun hd=>by simp [Fence.wide] at hd,callsIn_wide.2 ?_⟩
 ·rw [hw1,hlp];exact run_enterLoop_outer (w:=w) fn a.tmps ps assign body
 ·have ec:∀ v:Value,a.eval (.const v)=v:=fun _=>rfl
  simp [resolve,rangeCall,Deferred.ofValue,hfe,ec]
 refine (hin base Xa _ w1 M (fa++#[Value.func (.yield (w.heap.size+1)) #[] #[]]++ca) hAY (by simp [h1,h2];try omega) fun j u hu=>?_).mono ?_
 ·simp only [zV6,Array.getElem?_append,Array.size_append,h1];rw [List.getElem?_append,List.length_map] at hu;split at hu
  ·rename_i hj;rw [if_pos (by simp;omega),if_pos hj]
   rw [zWD] at hu;obtain ⟨p,hp,rfl⟩:=Option.map_eq_some_iff.1 hu;have:=(h3 j p hp).R (w:=w1) (X:=Xf base Xa w1 M st.ob);rwa [zV6] at this
  rename_i hj;cases hk:j-fs.length with
  | zero =>
   rw [hk] at hu;simp only [zWQ,zV2] at hu;subst hu;rw [if_pos (by simp;omega),if_neg hj]
   simp [hk];exact .yld _ _
  | succ k =>
   rw [hk] at hu;simp only [List.getElem?_cons_succ] at hu;rw [if_neg (by simp;omega)]
   rw [zWD] at hu;obtain ⟨p,hp,rfl⟩:=Option.map_eq_some_iff.1 hu;have:=(h4 _ p hp).R (w:=w1) (X:=Xf base Xa w1 M st.ob);rw [zV6] at this;rwa [show j-(fs.length+#[Value.func (Fn.yield (w.heap.size+1)) #[] #[]].size)=k by simp;omega]
 rintro e w3 ⟨val,r,nx',ob',M',rfl,hQ,h'',hr⟩
 have h':=RelM.ofY (g:=g) h'';have hl3:w3.heap[w.heap.size+1]? =some (.loop lp):=(h'.defers.2.2 (w.heap.size+1,.loop lp) (by simp [mkOf])).2.2.1
 have hm3:Marks base w3 (Xf base Xa w3 M' ob') ((w.heap.size+1,.loop lp)::(mkOf (zFu w.heap.size::a.defers)++w0.mks)):=by simpa [mkOf] using h'.defers.2
 have hnd:w.heap.size+1 ∉ (mkOf (zFu w.heap.size::a.defers)++w0.mks).map (·.1):=by
  have:=hm3.1;simp only [zWP,List.nodup_cons] at this;exact this.1
 have h4:=h'.reobj (o':=.loop {lp with state:=.exhausted}) hl3 (by have:=hR.hbase;omega) rfl rfl (ds:=[]) (mk:=mkOf (zFu w.heap.size::a.defers)++w0.mks) ⟨by simp,by
  have:=(hm3.sub (List.sublist_cons_self ..)).put (o':=.loop {lp with state:=.exhausted}) hnd
  simpa [mkOf] using this⟩ (Tot.t _)
 have hfin:=hR1'.again h4;refine ⟨none,_,?_,⟨{st with nx:=nx',ob:=ob'},rfl,hQ,M',hfin⟩⟩
 have:=run_endLoop (P:=P) hl3 (by rw [hlp];simp)
 rw [this,hlp]
end
end Go.Ab
end
section
set_option linter.unusedVariables false
set_option linter.unusedSimpArgs false
namespace Go.Ab
open Go.RowKit
def bN (ms:List Nat):List (List Nat):=ms.map fun m=>(List.range 128).filter fun i=>m.testBit i
theorem zAE [Glo] {P:Program} {st:St} {rid:Nat} {ops:List Oper} {Q:Exit->St->Prop} (n:Nat) (ms:List Nat) (segs:List (Nat × List (List Nat) × List (Nat × Nat))) (hv:segsL P (slotsOf ops) segs ops (Q .normal) st) (hd:(P.follows .mixedOrders||!(Region.departs ops.toArray))=true:=by kernel_rfl) (hp:zCO ops (List.range n)=ops:=by kernel_rfl)
  (hck:zEn P st.n ops .any [] (List.range n) (bN ms) segs=true:=by kernel_rfl):awp P (.region rid ops.toArray true) Q st:=zN6 _ _ segs hd hp hck hv
structure Bx (p:Prop):Prop where
 out:p
theorem useK {A:Type} {X K:A->Prop} {s:A} (h:∀ s,X s->K s) (g:X s):K s:=h s g
theorem zQZ {A B C D:Type} {X K:A->B->C->D->Prop} {a:A} {b:B} {c:C} {d:D} (h:∀ a b c d,X a b c d->K a b c d) (g:X a b c d):K a b c d:=h a b c d g
@[irreducible] def Wr (p:Prop):Prop:=p
theorem wr {p:Prop} (h:p):Wr p:=by unfold Wr;exact h
theorem unwr {p:Prop} (h:Wr p):p:=by unfold Wr at h;exact h
theorem kX2 {A0 A1:Prop} (a0:A0) (a1:A1):A0/\A1:=⟨a0,a1⟩
theorem kX3 {A0 A1 A2:Prop} (a0:A0) (a1:A1) (a2:A2):A0/\A1/\A2:=⟨a0,a1,a2⟩
theorem kX4 {A0 A1 A2 A3:Prop} (a0:A0) (a1:A1) (a2:A2) (a3:A3):A0/\A1/\A2/\A3:=⟨a0,a1,a2,a3⟩
theorem kX5 {A0 A1 A2 A3 A4:Prop} (a0:A0) (a1:A1) (a2:A2) (a3:A3) (a4:A4):A0/\A1/\A2/\A3/\A4:=⟨a0,a1,a2,a3,a4⟩
theorem kX6 {A0 A1 A2 A3 A4 A5:Prop} (a0:A0) (a1:A1) (a2:A2) (a3:A3) (a4:A4) (a5:A5):A0/\A1/\A2/\A3/\A4/\A5:=⟨a0,a1,a2,a3,a4,a5⟩
theorem kX7 {A0 A1 A2 A3 A4 A5 A6:Prop} (a0:A0) (a1:A1) (a2:A2) (a3:A3) (a4:A4) (a5:A5) (a6:A6):A0/\A1/\A2/\A3/\A4/\A5/\A6:=⟨a0,a1,a2,a3,a4,a5,a6⟩
theorem kX8 {A0 A1 A2 A3 A4 A5 A6 A7:Prop} (a0:A0) (a1:A1) (a2:A2) (a3:A3) (a4:A4) (a5:A5) (a6:A6) (a7:A7):A0/\A1/\A2/\A3/\A4/\A5/\A6/\A7:=⟨a0,a1,a2,a3,a4,a5,a6,a7⟩
theorem kX9 {A0 A1 A2 A3 A4 A5 A6 A7 A8:Prop} (a0:A0) (a1:A1) (a2:A2) (a3:A3) (a4:A4) (a5:A5) (a6:A6) (a7:A7) (a8:A8):A0/\A1/\A2/\A3/\A4/\A5/\A6/\A7/\A8:=⟨a0,a1,a2,a3,a4,a5,a6,a7,a8⟩
theorem kX10 {A0 A1 A2 A3 A4 A5 A6 A7 A8 A9:Prop} (a0:A0) (a1:A1) (a2:A2) (a3:A3) (a4:A4) (a5:A5) (a6:A6) (a7:A7) (a8:A8) (a9:A9):A0/\A1/\A2/\A3/\A4/\A5/\A6/\A7/\A8/\A9:=⟨a0,a1,a2,a3,a4,a5,a6,a7,a8,a9⟩
theorem kX11 {A0 A1 A2 A3 A4 A5 A6 A7 A8 A9 A10:Prop} (a0:A0) (a1:A1) (a2:A2) (a3:A3) (a4:A4) (a5:A5) (a6:A6) (a7:A7) (a8:A8) (a9:A9) (a10:A10):A0/\A1/\A2/\A3/\A4/\A5/\A6/\A7/\A8/\A9/\A10:=⟨a0,a1,a2,a3,a4,a5,a6,a7,a8,a9,a10⟩
theorem kX12 {A0 A1 A2 A3 A4 A5 A6 A7 A8 A9 A10 A11:Prop} (a0:A0) (a1:A1) (a2:A2) (a3:A3) (a4:A4) (a5:A5) (a6:A6) (a7:A7) (a8:A8) (a9:A9) (a10:A10) (a11:A11):A0/\A1/\A2/\A3/\A4/\A5/\A6/\A7/\A8/\A9/\A10/\A11:=⟨a0,a1,a2,a3,a4,a5,a6,a7,a8,a9,a10,a11⟩
theorem kX13 {A0 A1 A2 A3 A4 A5 A6 A7 A8 A9 A10 A11 A12:Prop} (a0:A0) (a1:A1) (a2:A2) (a3:A3) (a4:A4) (a5:A5) (a6:A6) (a7:A7) (a8:A8) (a9:A9) (a10:A10) (a11:A11) (a12:A12):A0/\A1/\A2/\A3/\A4/\A5/\A6/\A7/\A8/\A9/\A10/\A11/\A12:=⟨a0,a1,a2,a3,a4,a5,a6,a7,a8,a9,a10,a11,a12⟩
theorem kX14 {A0 A1 A2 A3 A4 A5 A6 A7 A8 A9 A10 A11 A12 A13:Prop} (a0:A0) (a1:A1) (a2:A2) (a3:A3) (a4:A4) (a5:A5) (a6:A6) (a7:A7) (a8:A8) (a9:A9) (a10:A10) (a11:A11) (a12:A12) (a13:A13):A0/\A1/\A2/\A3/\A4/\A5/\A6/\A7/\A8/\A9/\A10/\A11/\A12/\A13:=⟨a0,a1,a2,a3,a4,a5,a6,a7,a8,a9,a10,a11,a12,a13⟩
theorem kX15 {A0 A1 A2 A3 A4 A5 A6 A7 A8 A9 A10 A11 A12 A13 A14:Prop} (a0:A0) (a1:A1) (a2:A2) (a3:A3) (a4:A4) (a5:A5) (a6:A6) (a7:A7) (a8:A8) (a9:A9) (a10:A10) (a11:A11) (a12:A12) (a13:A13) (a14:A14):A0/\A1/\A2/\A3/\A4/\A5/\A6/\A7/\A8/\A9/\A10/\A11/\A12/\A13/\A14:=⟨a0,a1,a2,a3,a4,a5,a6,a7,a8,a9,a10,a11,a12,a13,a14⟩
theorem kX16 {A0 A1 A2 A3 A4 A5 A6 A7 A8 A9 A10 A11 A12 A13 A14 A15:Prop} (a0:A0) (a1:A1) (a2:A2) (a3:A3) (a4:A4) (a5:A5) (a6:A6) (a7:A7) (a8:A8) (a9:A9) (a10:A10) (a11:A11) (a12:A12) (a13:A13) (a14:A14) (a15:A15):A0/\A1/\A2/\A3/\A4/\A5/\A6/\A7/\A8/\A9/\A10/\A11/\A12/\A13/\A14/\A15:=⟨a0,a1,a2,a3,a4,a5,a6,a7,a8,a9,a10,a11,a12,a13,a14,a15⟩
theorem qX1 {A0:Prop} (a0:A0):A0/\True:=⟨a0,trivial⟩
theorem qX2 {A0 A1:Prop} (a0:A0) (a1:A1):A0/\A1/\True:=⟨a0,a1,trivial⟩
theorem qX3 {A0 A1 A2:Prop} (a0:A0) (a1:A1) (a2:A2):A0/\A1/\A2/\True:=⟨a0,a1,a2,trivial⟩
theorem qX4 {A0 A1 A2 A3:Prop} (a0:A0) (a1:A1) (a2:A2) (a3:A3):A0/\A1/\A2/\A3/\True:=⟨a0,a1,a2,a3,trivial⟩
theorem qX5 {A0 A1 A2 A3 A4:Prop} (a0:A0) (a1:A1) (a2:A2) (a3:A3) (a4:A4):A0/\A1/\A2/\A3/\A4/\True:=⟨a0,a1,a2,a3,a4,trivial⟩
theorem qX6 {A0 A1 A2 A3 A4 A5:Prop} (a0:A0) (a1:A1) (a2:A2) (a3:A3) (a4:A4) (a5:A5):A0/\A1/\A2/\A3/\A4/\A5/\True:=⟨a0,a1,a2,a3,a4,a5,trivial⟩
section
variable [Glo] {P:Program} {Q:Exit->St->Prop} {st:St} {c:Operand} {x y:Code} {b:Bool} {E:Prop}
theorem cF1 (e:E) (hc:ev st c=.bool b) (h2:awp P y Q st) (t:E->b=true->False:=by intro e h;simp [e] at h):awp P (.cond c x y) Q st:=zAC hc (fun h=>(t e h).elim) (fun _=>h2)
theorem cT1 (e:E) (hc:ev st c=.bool b) (h1:awp P x Q st) (t:E->b=false->False:=by intro e h;simp [e] at h):awp P (.cond c x y) Q st:=zAC hc (fun _=>h1) (fun h=>(t e h).elim)
theorem cF0 (hc:ev st c=.bool b) (h2:awp P y Q st) (t:b=true->False:=by intro h;simp at h):awp P (.cond c x y) Q st:=zAC hc (fun h=>(t h).elim) (fun _=>h2)
theorem cT0 (hc:ev st c=.bool b) (h1:awp P x Q st) (t:b=false->False:=by intro h;simp at h):awp P (.cond c x y) Q st:=zAC hc (fun _=>h1) (fun h=>(t h).elim)
end
theorem aX {I:Nat->St->Prop} {k k':Nat} {st st':St} {E:Prop} (ρ:Nat->Nat) (hI:I k' st') (e:E) (h:k'<k:=by omega) (t:E->Le ρ st st':=by intro e;exact ⟨rfl,by simp [leT,ltV,lt1,ren,ren1,e],by simp [leO,lt1,ren1,e],by (simp;try omega),by simp⟩):again I k st:=zIK k' st' ρ h hI (t e)
section
variable [Glo] {P:Program} {st:St} {Q:Exit->St->Prop} {c:Code} {E:Prop}
theorem lX (I:Nat->St->Prop) {k0:Nat} {st0:St} (ρ:Nat->Nat) (h0:I k0 st0) (round:∀ k s,I k s->s.n=st.n->awp P c (thn (again I k) Q) s) (hle:Le ρ st st0:=by exact ⟨rfl,by simp [leT,ltV,lt1,ren,ren1],by simp [leO,lt1,ren1],by simp,by simp⟩):awp P (.loop c) Q st:=zJL I hle h0 round
theorem lX1 (I:Nat->St->Prop) {k0:Nat} {st0:St} (ρ:Nat->Nat) (h0:I k0 st0) (e:E) (round:∀ k s,I k s->s.n=st.n->awp P c (thn (again I k) Q) s) (t:E->Le ρ st st0:=by intro e;exact ⟨rfl,by simp [leT,ltV,lt1,ren,ren1,e],by simp [leO,lt1,ren1,e],by (simp;try omega),by simp⟩):awp P (.loop c) Q st:=zJL I (t e) h0 round
end
theorem sZ {F M G N:Prop} (f:F) (n:M) (h:N) (t:F->M->Bx N->G:=by intro f n h;refine zAD.of f rfl (by kernel_rfl) rfl ?_;simp only [n,St.start,argT];exact h.out):G:=t f n ⟨h⟩
theorem au {G N:Prop} (h:N) (t:Bx N->G:=by intro h;(repeat (first|(with_reducible first|refine zAw fun Kx hKx=>?_|refine zAl ?_)|((with_reducible first|refine zAe (by kernel_rfl) ?_|refine zA1 ?_|refine zAy ?_|refine zA0 ?_|refine zAz ?_|refine zAx ?_|refine zAv ?_);simp)|((repeat ((fail_if_success (with_reducible refine hKx _ ?_));clear hKx;try clear Kx));(with_reducible refine hKx _ ?_);clear hKx;try clear Kx)|(with_reducible refine useK ‹_› ?_)|refine And.intro (by first|omega|assumption|grind) ?_));refine unwr ?_;(repeat revert Kx);exact h.out):G:=t  ⟨h⟩
theorem af {G N:Prop} (h:N) (t:Bx N->G:=by intro h;(repeat (first|(with_reducible first|refine zAw fun Kx hKx=>?_|refine zAl ?_)|((with_reducible first|refine zAe (by kernel_rfl) ?_|refine zA1 ?_|refine zAy ?_|refine zA0 ?_|refine zAz ?_|refine zCh ?_|refine zCe ?_|refine zCg ?_|refine zCf ?_|refine zAx ?_|refine zAv ?_);simp)|((repeat ((fail_if_success (with_reducible first|refine hKx _ ?_|refine hKx _ _ _ _ ?_));clear hKx;try clear Kx));(with_reducible first|refine hKx _ ?_|refine hKx _ _ _ _ ?_);clear hKx;try clear Kx)|(with_reducible first|refine useK ‹_› ?_|refine zQZ ‹_› ?_)|(with_reducible refine zDO fun Kx hKx=>?_;simp)|(with_reducible refine zDN ?_;try simp only [thn,blk])|(with_reducible refine zDP fun Kx hKx=>?_;simp only [List.take_succ_cons,List.take_zero])|(with_reducible refine zCc fun Kx hKx=>?_;simp)|(with_reducible refine zDF ?_)|(with_reducible refine zCn ?_;simp only [List.drop_succ_cons,List.drop_zero];simp only [stS,eT,eO,zWM,zWa,cond_true,cond_false,Bool.and_true,Bool.and_false,Bool.true_and,Bool.false_and])|(with_reducible refine zB2 ?_ ?_;(· (simp<;>first|omega|grind)))|refine And.intro (by first|omega|assumption|grind) ?_));refine unwr ?_;(repeat revert Kx);exact h.out):G:=t  ⟨h⟩
theorem cc {C G N:Prop} (c:C) (h:N) (t:C->Bx N->G:=by intro c h;first|((first|refine .inl ⟨0,_,c,?_⟩|refine ⟨0,_,c,?_⟩|(refine .inl ⟨0,_,zAD.wk c ?_,?_⟩;focus (simp;done))|(refine ⟨0,_,zAD.wk c ?_,?_⟩;focus (simp;done)));simp [aftC,aftE];exact h.out)|((first|refine zA9 c rfl (fun hgd=>?_) (by simp [obsL]) ?_|refine zAq c rfl (by simp) (fun hgd=>?_) (by simp [obsL]) ?_)<;>simp<;>(try (first|exact hgd|(simp at hgd;first|done|assumption|grind)));exact h.out)|fail):G:=t c  ⟨h⟩
theorem cn {C G N:Prop} (c:C) (h:N) (t:C->Bx N->G:=by intro c h;(first|refine .inl ⟨1,_,c,?_⟩|refine ⟨1,_,c,?_⟩);simp [aftC,noX,noXc,noX1];(first|refine And.intro zAM ?_|skip);exact h.out):G:=t c  ⟨h⟩
theorem rt {G:Prop} (t:G:=by first|(refine zAB ?_;simp;done)|(refine zAI ?_;refine zAB ?_;simp;done)|(refine zAB ?_;simp;first|(simp_all;done)|(simp_all;omega)|grind)|(refine zAI ?_;refine zAB ?_;simp;first|(simp_all;done)|(simp_all;omega)|grind)|fail):G:=t
theorem wx {C D G:Prop} (c:C) (d:D) (t:C->D->G:=by intro c d;(refine au ?_;intros;apply wr);repeat' ((first|(refine zAC rfl (fun h=>?_) (fun h=>?_)<;>(first|(simp at h;done)|(simp at h)|skip)<;>(first|(exfalso;omega)|skip))|((first|refine .inl ⟨1,_,d.1,?_⟩|refine ⟨1,_,d.1,?_⟩);simp [aftC,aftE,noX,noXc,noX1];first|refine And.intro zAM ?_|skip)|((first|refine .inl ⟨1,_,d.2.1,?_⟩|refine ⟨1,_,d.2.1,?_⟩);simp [aftC,aftE,noX,noXc,noX1];first|refine And.intro zAM ?_|skip)|refine cc c.1 ?_|refine cc c.2.1 ?_|refine cc c.2.2.1 ?_|refine cc c.2.2.2.1 ?_|refine cc c.2.2.2.2.1 ?_|refine cc c.2.2.2.2.2.1 ?_|exact rt|fail)<;>(refine au ?_;intros;apply wr))):G:=t c d
theorem au1 {G N E0:Prop} (e0:E0) (h:N) (t:E0->Bx N->G:=by intro e0 h;(repeat (first|(with_reducible first|refine zAw fun Kx hKx=>?_|refine zAl ?_)|((with_reducible first|refine zAe (by kernel_rfl) ?_|refine zA1 ?_|refine zAy ?_|refine zA0 ?_|refine zAz ?_|refine zAx ?_|refine zAv ?_);simp [e0])|((repeat ((fail_if_success (with_reducible refine hKx _ ?_));clear hKx;try clear Kx));(with_reducible refine hKx _ ?_);clear hKx;try clear Kx)|(with_reducible refine useK ‹_› ?_)|refine And.intro (by first|omega|assumption|grind) ?_));refine unwr ?_;(repeat revert Kx);exact h.out):G:=t e0 ⟨h⟩
theorem af1 {G N E0:Prop} (e0:E0) (h:N) (t:E0->Bx N->G:=by intro e0 h;(repeat (first|(with_reducible first|refine zAw fun Kx hKx=>?_|refine zAl ?_)|((with_reducible first|refine zAe (by kernel_rfl) ?_|refine zA1 ?_|refine zAy ?_|refine zA0 ?_|refine zAz ?_|refine zCh ?_|refine zCe ?_|refine zCg ?_|refine zCf ?_|refine zAx ?_|refine zAv ?_);simp [e0])|((repeat ((fail_if_success (with_reducible first|refine hKx _ ?_|refine hKx _ _ _ _ ?_));clear hKx;try clear Kx));(with_reducible first|refine hKx _ ?_|refine hKx _ _ _ _ ?_);clear hKx;try clear Kx)|(with_reducible first|refine useK ‹_› ?_|refine zQZ ‹_› ?_)|(with_reducible refine zDO fun Kx hKx=>?_;simp [e0])|(with_reducible refine zDN ?_;try simp only [thn,blk])|(with_reducible refine zDP fun Kx hKx=>?_;simp only [List.take_succ_cons,List.take_zero])|(with_reducible refine zCc fun Kx hKx=>?_;simp [e0])|(with_reducible refine zDF ?_)|(with_reducible refine zCn ?_;simp only [List.drop_succ_cons,List.drop_zero];simp only [stS,eT,eO,zWM,zWa,cond_true,cond_false,Bool.and_true,Bool.and_false,Bool.true_and,Bool.false_and])|(with_reducible refine zB2 ?_ ?_;(· (simp [e0]<;>first|omega|grind)))|refine And.intro (by first|omega|assumption|grind) ?_));refine unwr ?_;(repeat revert Kx);exact h.out):G:=t e0 ⟨h⟩
theorem cc1 {C G N E0:Prop} (c:C) (e0:E0) (h:N) (t:C->E0->Bx N->G:=by intro c e0 h;first|((first|refine .inl ⟨0,_,c,?_⟩|refine ⟨0,_,c,?_⟩|(refine .inl ⟨0,_,zAD.wk c ?_,?_⟩;focus (simp;done))|(refine ⟨0,_,zAD.wk c ?_,?_⟩;focus (simp;done)));simp [aftC,aftE,e0];exact h.out)|((first|refine zA9 c rfl (fun hgd=>?_) (by simp [obsL]) ?_|refine zAq c rfl (by simp) (fun hgd=>?_) (by simp [obsL]) ?_)<;>simp [e0]<;>(try (first|exact hgd|(simp at hgd;first|done|assumption|grind)));exact h.out)|fail):G:=t c e0 ⟨h⟩
theorem cn1 {C G N E0:Prop} (c:C) (e0:E0) (h:N) (t:C->E0->Bx N->G:=by intro c e0 h;(first|refine .inl ⟨1,_,c,?_⟩|refine ⟨1,_,c,?_⟩);simp [aftC,noX,noXc,noX1,e0];(first|refine And.intro zAM ?_|skip);exact h.out):G:=t c e0 ⟨h⟩
theorem rt1 {G E0:Prop} (e0:E0) (t:E0->G:=by intro e0;first|(refine zAB ?_;simp [e0];done)|(refine zAI ?_;refine zAB ?_;simp [e0];done)|(refine zAB ?_;simp [e0];clear e0;first|(simp_all;done)|(simp_all;omega)|grind)|(refine zAI ?_;refine zAB ?_;simp [e0];clear e0;first|(simp_all;done)|(simp_all;omega)|grind)|fail):G:=t e0
theorem wx1 {C D E G:Prop} (c:C) (d:D) (e:E) (t:C->D->E->G:=by intro c d e;(refine au1 e ?_;intros;apply wr);repeat' ((first|(refine zAC rfl (fun h=>?_) (fun h=>?_)<;>(first|(simp [e] at h;done)|(simp [e] at h)|skip)<;>(first|(exfalso;omega)|skip))|((first|refine .inl ⟨1,_,d.1,?_⟩|refine ⟨1,_,d.1,?_⟩);simp [aftC,aftE,noX,noXc,noX1,e];first|refine And.intro zAM ?_|skip)|((first|refine .inl ⟨1,_,d.2.1,?_⟩|refine ⟨1,_,d.2.1,?_⟩);simp [aftC,aftE,noX,noXc,noX1,e];first|refine And.intro zAM ?_|skip)|refine cc1 c.1 e ?_|refine cc1 c.2.1 e ?_|refine cc1 c.2.2.1 e ?_|refine cc1 c.2.2.2.1 e ?_|refine cc1 c.2.2.2.2.1 e ?_|refine cc1 c.2.2.2.2.2.1 e ?_|exact rt1 e|fail)<;>(refine au1 e ?_;intros;apply wr))):G:=t c d e
theorem aum1 {G N E0:Prop} (e0:E0) (h:N) (t:E0->Bx N->G:=by intro e0 h;(repeat (first|(with_reducible first|refine zAw fun Kx hKx=>?_|refine zAl ?_)|((with_reducible first|refine zAe (by kernel_rfl) ?_|refine zA1 ?_|refine zAy ?_|refine zA0 ?_|refine zAz ?_|refine zAx ?_|refine zAv ?_);simp [-Nat.sub_self,e0])|((repeat ((fail_if_success (with_reducible refine hKx _ ?_));clear hKx;try clear Kx));(with_reducible refine hKx _ ?_);clear hKx;try clear Kx)|(with_reducible refine useK ‹_› ?_)|refine And.intro (by first|omega|assumption|grind) ?_));refine unwr ?_;(repeat revert Kx);exact h.out):G:=t e0 ⟨h⟩
theorem afm1 {G N E0:Prop} (e0:E0) (h:N) (t:E0->Bx N->G:=by intro e0 h;(repeat (first|(with_reducible first|refine zAw fun Kx hKx=>?_|refine zAl ?_)|((with_reducible first|refine zAe (by kernel_rfl) ?_|refine zA1 ?_|refine zAy ?_|refine zA0 ?_|refine zAz ?_|refine zCh ?_|refine zCe ?_|refine zCg ?_|refine zCf ?_|refine zAx ?_|refine zAv ?_);simp [-Nat.sub_self,e0])|((repeat ((fail_if_success (with_reducible first|refine hKx _ ?_|refine hKx _ _ _ _ ?_));clear hKx;try clear Kx));(with_reducible first|refine hKx _ ?_|refine hKx _ _ _ _ ?_);clear hKx;try clear Kx)|(with_reducible first|refine useK ‹_› ?_|refine zQZ ‹_› ?_)|(with_reducible refine zDO fun Kx hKx=>?_;simp [-Nat.sub_self,e0])|(with_reducible refine zDN ?_;try simp only [thn,blk])|(with_reducible refine zDP fun Kx hKx=>?_;simp only [List.take_succ_cons,List.take_zero])|(with_reducible refine zCc fun Kx hKx=>?_;simp [-Nat.sub_self,e0])|(with_reducible refine zDF ?_)|(with_reducible refine zCn ?_;simp only [List.drop_succ_cons,List.drop_zero];simp only [stS,eT,eO,zWM,zWa,cond_true,cond_false,Bool.and_true,Bool.and_false,Bool.true_and,Bool.false_and])|(with_reducible refine zB2 ?_ ?_;(· (simp [-Nat.sub_self,e0]<;>first|omega|grind)))|refine And.intro (by first|omega|assumption|grind) ?_));refine unwr ?_;(repeat revert Kx);exact h.out):G:=t e0 ⟨h⟩
theorem ccm1 {C G N E0:Prop} (c:C) (e0:E0) (h:N) (t:C->E0->Bx N->G:=by intro c e0 h;first|((first|refine .inl ⟨0,_,c,?_⟩|refine ⟨0,_,c,?_⟩|(refine .inl ⟨0,_,zAD.wk c ?_,?_⟩;focus (simp;done))|(refine ⟨0,_,zAD.wk c ?_,?_⟩;focus (simp;done)));simp [aftC,aftE,-Nat.sub_self,e0];exact h.out)|((first|refine zA9 c rfl (fun hgd=>?_) (by simp [obsL]) ?_|refine zAq c rfl (by simp) (fun hgd=>?_) (by simp [obsL]) ?_)<;>simp [-Nat.sub_self,e0]<;>(try (first|exact hgd|(simp at hgd;first|done|assumption|grind)));exact h.out)|fail):G:=t c e0 ⟨h⟩
theorem rtm1 {G E0:Prop} (e0:E0) (t:E0->G:=by intro e0;first|(refine zAB ?_;simp [-Nat.sub_self,e0];done)|(refine zAI ?_;refine zAB ?_;simp [-Nat.sub_self,e0];done)|(refine zAB ?_;simp [-Nat.sub_self,e0];clear e0;first|(simp_all;done)|(simp_all;omega)|grind)|(refine zAI ?_;refine zAB ?_;simp [-Nat.sub_self,e0];clear e0;first|(simp_all;done)|(simp_all;omega)|grind)|fail):G:=t e0
theorem wxm1 {C D E G:Prop} (c:C) (d:D) (e:E) (t:C->D->E->G:=by intro c d e;(refine aum1 e ?_;intros;apply wr);repeat' ((first|(refine zAC rfl (fun h=>?_) (fun h=>?_)<;>(first|(simp [-Nat.sub_self,e] at h;done)|(simp [-Nat.sub_self,e] at h)|skip)<;>(first|(exfalso;omega)|skip))|((first|refine .inl ⟨1,_,d.1,?_⟩|refine ⟨1,_,d.1,?_⟩);simp [aftC,aftE,noX,noXc,noX1,-Nat.sub_self,e];first|refine And.intro zAM ?_|skip)|((first|refine .inl ⟨1,_,d.2.1,?_⟩|refine ⟨1,_,d.2.1,?_⟩);simp [aftC,aftE,noX,noXc,noX1,-Nat.sub_self,e];first|refine And.intro zAM ?_|skip)|refine ccm1 c.1 e ?_|refine ccm1 c.2.1 e ?_|refine ccm1 c.2.2.1 e ?_|refine ccm1 c.2.2.2.1 e ?_|refine ccm1 c.2.2.2.2.1 e ?_|refine ccm1 c.2.2.2.2.2.1 e ?_|exact rtm1 e|fail)<;>(refine aum1 e ?_;intros;apply wr))):G:=t c d e
theorem sX {F M G N:Prop} (f:F) (n:M) (h:N) (t:F->M->Bx N->G:=by intro f n h;refine sZ f n ?_;refine au ?_;exact h.out):G:=t f n ⟨h⟩
theorem sY {F M G N E:Prop} (f:F) (n:M) (e:E) (h:N) (t:F->M->E->Bx N->G:=by intro f n e h;refine sZ f n ?_;refine au1 e ?_;exact h.out):G:=t f n e ⟨h⟩
theorem cX {C G N:Prop} (c:C) (h:N) (t:C->Bx N->G:=by intro c h;refine cc c ?_;refine au ?_;exact h.out):G:=t c ⟨h⟩
theorem cY {C G N E:Prop} (c:C) (e:E) (h:N) (t:C->E->Bx N->G:=by intro c e h;refine cc c ?_;refine au1 e ?_;exact h.out):G:=t c e ⟨h⟩
theorem cZ {C G N D E:Prop} (c:C) (d:D) (e:E) (h:N) (t:C->D->E->Bx N->G:=by intro c d e h;refine cc1 c d ?_;refine au1 e ?_;exact h.out):G:=t c d e ⟨h⟩
theorem cXf {C G N:Prop} (c:C) (h:N) (t:C->Bx N->G:=by intro c h;refine cc c ?_;refine af ?_;exact h.out):G:=t c ⟨h⟩
theorem cYf {C G N E:Prop} (c:C) (e:E) (h:N) (t:C->E->Bx N->G:=by intro c e h;refine cc c ?_;refine af1 e ?_;exact h.out):G:=t c e ⟨h⟩
theorem cZf {C G N D E:Prop} (c:C) (d:D) (e:E) (h:N) (t:C->D->E->Bx N->G:=by intro c d e h;refine cc1 c d ?_;refine af1 e ?_;exact h.out):G:=t c d e ⟨h⟩
section
variable [Glo] {P:Program} {Q:Exit->St->Prop} {st:St} {c:Operand} {x y:Code} {b:Bool} {D E N:Prop}
theorem gT00 (hc:ev st c=.bool b) (h:N) (t:b=false->False:=by intro h;simp at h) (t2:Bx N->awp P x Q st:=by intro h;refine au ?_;exact h.out):awp P (.cond c x y) Q st:=zAC hc (fun h'=>t2 ⟨h⟩) (fun h=>(t h).elim)
theorem gT01 (hc:ev st c=.bool b) (e:E) (h:N) (t:b=false->False:=by intro h;simp at h) (t2:E->Bx N->awp P x Q st:=by intro e h;refine au1 e ?_;exact h.out):awp P (.cond c x y) Q st:=zAC hc (fun h'=>t2 e ⟨h⟩) (fun h=>(t h).elim)
theorem gT10 (d:D) (hc:ev st c=.bool b) (h:N) (t:D->b=false->False:=by intro d h;simp [d] at h) (t2:Bx N->awp P x Q st:=by intro h;refine au ?_;exact h.out):awp P (.cond c x y) Q st:=zAC hc (fun h'=>t2 ⟨h⟩) (fun h=>(t d h).elim)
theorem gT11 (d:D) (hc:ev st c=.bool b) (e:E) (h:N) (t:D->b=false->False:=by intro d h;simp [d] at h) (t2:E->Bx N->awp P x Q st:=by intro e h;refine au1 e ?_;exact h.out):awp P (.cond c x y) Q st:=zAC hc (fun h'=>t2 e ⟨h⟩) (fun h=>(t d h).elim)
theorem gF00 (hc:ev st c=.bool b) (h:N) (t:b=true->False:=by intro h;simp at h) (t2:Bx N->awp P y Q st:=by intro h;refine au ?_;exact h.out):awp P (.cond c x y) Q st:=zAC hc (fun h=>(t h).elim) (fun h'=>t2 ⟨h⟩)
theorem gF01 (hc:ev st c=.bool b) (e:E) (h:N) (t:b=true->False:=by intro h;simp at h) (t2:E->Bx N->awp P y Q st:=by intro e h;refine au1 e ?_;exact h.out):awp P (.cond c x y) Q st:=zAC hc (fun h=>(t h).elim) (fun h'=>t2 e ⟨h⟩)
theorem gF10 (d:D) (hc:ev st c=.bool b) (h:N) (t:D->b=true->False:=by intro d h;simp [d] at h) (t2:Bx N->awp P y Q st:=by intro h;refine au ?_;exact h.out):awp P (.cond c x y) Q st:=zAC hc (fun h=>(t d h).elim) (fun h'=>t2 ⟨h⟩)
theorem gF11 (d:D) (hc:ev st c=.bool b) (e:E) (h:N) (t:D->b=true->False:=by intro d h;simp [d] at h) (t2:E->Bx N->awp P y Q st:=by intro e h;refine au1 e ?_;exact h.out):awp P (.cond c x y) Q st:=zAC hc (fun h=>(t d h).elim) (fun h'=>t2 e ⟨h⟩)
theorem zOy (hc:ev st c=.bool b) (h:N) (t:b=false->False:=by intro h;simp at h) (t2:Bx N->awp P x Q st:=by intro h;refine af ?_;exact h.out):awp P (.cond c x y) Q st:=zAC hc (fun h'=>t2 ⟨h⟩) (fun h=>(t h).elim)
theorem gT01f (hc:ev st c=.bool b) (e:E) (h:N) (t:b=false->False:=by intro h;simp at h) (t2:E->Bx N->awp P x Q st:=by intro e h;refine af1 e ?_;exact h.out):awp P (.cond c x y) Q st:=zAC hc (fun h'=>t2 e ⟨h⟩) (fun h=>(t h).elim)
theorem zDe (d:D) (hc:ev st c=.bool b) (h:N) (t:D->b=false->False:=by intro d h;simp [d] at h) (t2:Bx N->awp P x Q st:=by intro h;refine af ?_;exact h.out):awp P (.cond c x y) Q st:=zAC hc (fun h'=>t2 ⟨h⟩) (fun h=>(t d h).elim)
theorem zCw (d:D) (hc:ev st c=.bool b) (e:E) (h:N) (t:D->b=false->False:=by intro d h;simp [d] at h) (t2:E->Bx N->awp P x Q st:=by intro e h;refine af1 e ?_;exact h.out):awp P (.cond c x y) Q st:=zAC hc (fun h'=>t2 e ⟨h⟩) (fun h=>(t d h).elim)
theorem zBy (hc:ev st c=.bool b) (h:N) (t:b=true->False:=by intro h;simp at h) (t2:Bx N->awp P y Q st:=by intro h;refine af ?_;exact h.out):awp P (.cond c x y) Q st:=zAC hc (fun h=>(t h).elim) (fun h'=>t2 ⟨h⟩)
theorem gF01f (hc:ev st c=.bool b) (e:E) (h:N) (t:b=true->False:=by intro h;simp at h) (t2:E->Bx N->awp P y Q st:=by intro e h;refine af1 e ?_;exact h.out):awp P (.cond c x y) Q st:=zAC hc (fun h=>(t h).elim) (fun h'=>t2 e ⟨h⟩)
theorem zBO (d:D) (hc:ev st c=.bool b) (h:N) (t:D->b=true->False:=by intro d h;simp [d] at h) (t2:Bx N->awp P y Q st:=by intro h;refine af ?_;exact h.out):awp P (.cond c x y) Q st:=zAC hc (fun h=>(t d h).elim) (fun h'=>t2 ⟨h⟩)
theorem zEH (d:D) (hc:ev st c=.bool b) (e:E) (h:N) (t:D->b=true->False:=by intro d h;simp [d] at h) (t2:E->Bx N->awp P y Q st:=by intro e h;refine af1 e ?_;exact h.out):awp P (.cond c x y) Q st:=zAC hc (fun h=>(t d h).elim) (fun h'=>t2 e ⟨h⟩)
end
end Go.Ab
end
section
namespace Go.Ab
open Go.RowKit
theorem ad {G:Prop} (t:G:=by (repeat (first|(with_reducible first|refine zAw fun Kx hKx=>?_|refine zAl ?_)|((with_reducible first|refine zAe (by kernel_rfl) ?_|refine zA1 ?_|refine zAy ?_|refine zA0 ?_|refine zAz ?_|refine zAx ?_|refine zAv ?_);simp)|((repeat ((fail_if_success (with_reducible refine hKx _ ?_));clear hKx;try clear Kx));(with_reducible refine hKx _ ?_);clear hKx;try clear Kx)|(with_reducible refine useK ‹_› ?_)|refine And.intro (by first|omega|assumption|grind) ?_));done):G:=t
def zNS:List Nat->List (Nat × Option Ob)->List (Nat × Option Ob)
 | [],_=>[]
 | i::r,ob=>(i,lookO ob i)::zNS r ob
theorem zGo (ob:List (Nat × Option Ob)):∀ (ids:List Nat) (id:Nat) (o:Ob),lookO (zNS ids ob) id=some o->lookO ob id=some o
 | [],id,o,h=>by simp [zNS,lookO] at h
 | i::r,id,o,h=>by
  simp only [zNS,lookO] at h;split at h
  ·rename_i e;subst e;exact h
  exact zGo ob r id o h
theorem zM5 [Glo] {P:Program} {c:Code} {Q:Exit->St->Prop} {n nx pn:Nat} {tmp:List (Nat × V)} {ob O:List (Nat × Option Ob)} (ids:List Nat) (hO:zNS ids ob=O) (h:awp P c Q ⟨n,tmp,nx,O,pn⟩):awp P c Q ⟨n,tmp,nx,ob,pn⟩ :=
 fun base Xa w0 a w ⟨M,hM⟩=>h base Xa w0 a w ⟨M,by
  have:=hM.sub (ob1:=O) fun id o ho=>⟨o.fz,zGo ob ids id o (by rw [hO];exact ho),fun h=>h⟩
  exact this⟩
theorem auB {G N:Prop} (h:N) (t:Bx N->G:=by intro h;(repeat (first|(with_reducible first|refine zAw fun Kx hKx=>?_|refine zAl ?_)|((with_reducible first|refine zAe (by kernel_rfl) ?_|refine zA1 ?_|refine zAy ?_|refine zA0 ?_|refine zAz ?_|refine zAx ?_|refine zAv ?_);simp (maxSteps:=2000000))|((repeat ((fail_if_success (with_reducible refine hKx _ ?_));clear hKx;try clear Kx));(with_reducible refine hKx _ ?_);clear hKx;try clear Kx)|(with_reducible refine useK ‹_› ?_)|refine And.intro (by first|omega|assumption|grind) ?_));refine unwr ?_;(repeat revert Kx);exact h.out):G:=t  ⟨h⟩
theorem afB {G N:Prop} (h:N) (t:Bx N->G:=by intro h;(repeat (first|(with_reducible first|refine zAw fun Kx hKx=>?_|refine zAl ?_)|((with_reducible first|refine zAe (by kernel_rfl) ?_|refine zA1 ?_|refine zAy ?_|refine zA0 ?_|refine zAz ?_|refine zCh ?_|refine zCe ?_|refine zCg ?_|refine zCf ?_|refine zAx ?_|refine zAv ?_);simp (maxSteps:=2000000))|((repeat ((fail_if_success (with_reducible first|refine hKx _ ?_|refine hKx _ _ _ _ ?_));clear hKx;try clear Kx));(with_reducible first|refine hKx _ ?_|refine hKx _ _ _ _ ?_);clear hKx;try clear Kx)|(with_reducible first|refine useK ‹_› ?_|refine zQZ ‹_› ?_)|(with_reducible refine zDO fun Kx hKx=>?_;simp (maxSteps:=2000000))|(with_reducible refine zDN ?_;try simp only [thn,blk])|(with_reducible refine zDP fun Kx hKx=>?_;simp only [List.take_succ_cons,List.take_zero])|(with_reducible refine zCc fun Kx hKx=>?_;simp (maxSteps:=2000000))|(with_reducible refine zDF ?_)|(with_reducible refine zCn ?_;simp only [List.drop_succ_cons,List.drop_zero];simp only [stS,eT,eO,zWM,zWa,cond_true,cond_false,Bool.and_true,Bool.and_false,Bool.true_and,Bool.false_and])|(with_reducible refine zB2 ?_ ?_;(· (simp (maxSteps:=2000000)<;>first|omega|grind)))|refine And.intro (by first|omega|assumption|grind) ?_));refine unwr ?_;(repeat revert Kx);exact h.out):G:=t  ⟨h⟩
theorem ccB {C G N:Prop} (c:C) (h:N) (t:C->Bx N->G:=by intro c h;first|((first|refine .inl ⟨0,_,c,?_⟩|refine ⟨0,_,c,?_⟩|(refine .inl ⟨0,_,zAD.wk c ?_,?_⟩;focus (simp (maxSteps:=2000000);done))|(refine ⟨0,_,zAD.wk c ?_,?_⟩;focus (simp (maxSteps:=2000000);done)));simp (maxSteps:=2000000) [aftC,aftE];exact h.out)|((first|refine zA9 c rfl (fun hgd=>?_) (by simp (maxSteps:=2000000) [obsL]) ?_|refine zAq c rfl (by simp (maxSteps:=2000000)) (fun hgd=>?_) (by simp (maxSteps:=2000000) [obsL]) ?_)<;>simp (maxSteps:=2000000)<;>(try (first|exact hgd|(simp at hgd;first|done|assumption|grind)));exact h.out)|fail):G:=t c  ⟨h⟩
theorem rtB {G:Prop} (t:G:=by first|(refine zAB ?_;simp (maxSteps:=2000000);done)|(refine zAI ?_;refine zAB ?_;simp (maxSteps:=2000000);done)|(refine zAB ?_;simp (maxSteps:=2000000);first|(simp_all;done)|(simp_all;omega)|grind)|(refine zAI ?_;refine zAB ?_;simp (maxSteps:=2000000);first|(simp_all;done)|(simp_all;omega)|grind)|fail):G:=t
theorem auB1 {G N E0:Prop} (e0:E0) (h:N) (t:E0->Bx N->G:=by intro e0 h;(repeat (first|(with_reducible first|refine zAw fun Kx hKx=>?_|refine zAl ?_)|((with_reducible first|refine zAe (by kernel_rfl) ?_|refine zA1 ?_|refine zAy ?_|refine zA0 ?_|refine zAz ?_|refine zAx ?_|refine zAv ?_);simp (maxSteps:=2000000) [e0])|((repeat ((fail_if_success (with_reducible refine hKx _ ?_));clear hKx;try clear Kx));(with_reducible refine hKx _ ?_);clear hKx;try clear Kx)|(with_reducible refine useK ‹_› ?_)|refine And.intro (by first|omega|assumption|grind) ?_));refine unwr ?_;(repeat revert Kx);exact h.out):G:=t e0 ⟨h⟩
theorem afB1 {G N E0:Prop} (e0:E0) (h:N) (t:E0->Bx N->G:=by intro e0 h;(repeat (first|(with_reducible first|refine zAw fun Kx hKx=>?_|refine zAl ?_)|((with_reducible first|refine zAe (by kernel_rfl) ?_|refine zA1 ?_|refine zAy ?_|refine zA0 ?_|refine zAz ?_|refine zCh ?_|refine zCe ?_|refine zCg ?_|refine zCf ?_|refine zAx ?_|refine zAv ?_);simp (maxSteps:=2000000) [e0])|((repeat ((fail_if_success (with_reducible first|refine hKx _ ?_|refine hKx _ _ _ _ ?_));clear hKx;try clear Kx));(with_reducible first|refine hKx _ ?_|refine hKx _ _ _ _ ?_);clear hKx;try clear Kx)|(with_reducible first|refine useK ‹_› ?_|refine zQZ ‹_› ?_)|(with_reducible refine zDO fun Kx hKx=>?_;simp (maxSteps:=2000000) [e0])|(with_reducible refine zDN ?_;try simp only [thn,blk])|(with_reducible refine zDP fun Kx hKx=>?_;simp only [List.take_succ_cons,List.take_zero])|(with_reducible refine zCc fun Kx hKx=>?_;simp (maxSteps:=2000000) [e0])|(with_reducible refine zDF ?_)|(with_reducible refine zCn ?_;simp only [List.drop_succ_cons,List.drop_zero];simp only [stS,eT,eO,zWM,zWa,cond_true,cond_false,Bool.and_true,Bool.and_false,Bool.true_and,Bool.false_and])|(with_reducible refine zB2 ?_ ?_;(· (simp (maxSteps:=2000000) [e0]<;>first|omega|grind)))|refine And.intro (by first|omega|assumption|grind) ?_));refine unwr ?_;(repeat revert Kx);exact h.out):G:=t e0 ⟨h⟩
theorem ccB1 {C G N E0:Prop} (c:C) (e0:E0) (h:N) (t:C->E0->Bx N->G:=by intro c e0 h;first|((first|refine .inl ⟨0,_,c,?_⟩|refine ⟨0,_,c,?_⟩|(refine .inl ⟨0,_,zAD.wk c ?_,?_⟩;focus (simp (maxSteps:=2000000);done))|(refine ⟨0,_,zAD.wk c ?_,?_⟩;focus (simp (maxSteps:=2000000);done)));simp (maxSteps:=2000000) [aftC,aftE,e0];exact h.out)|((first|refine zA9 c rfl (fun hgd=>?_) (by simp (maxSteps:=2000000) [obsL]) ?_|refine zAq c rfl (by simp (maxSteps:=2000000)) (fun hgd=>?_) (by simp (maxSteps:=2000000) [obsL]) ?_)<;>simp (maxSteps:=2000000) [e0]<;>(try (first|exact hgd|(simp at hgd;first|done|assumption|grind)));exact h.out)|fail):G:=t c e0 ⟨h⟩
end Go.Ab
end
section
namespace Go.Proofs.YthjpcmecgjfilaaGreat
open Go.Ab Tryz
instance glo0:Glo where
 tab:=[]
 inv:=fun _=>True
 mono:=fun _ _=>trivial
 capt:=fun f=>f==125||f==126||f==185||f==314||f==191
 prt:=fun t=>t==55||t==52
 mbx:=fun t=>t==302
instance:Tot:=⟨fun _=>trivial,rfl⟩
theorem gin0 (w:World) (X:Nat->Prop):GIn w X:=⟨trivial,fun g cs h=>by simp [Glo.tab,zRq] at h⟩
@[simp] theorem capt0 (f:Nat):Glo.capt f=(f==125||f==126||f==185||f==314||f==191):=rfl
@[simp] theorem prt0 (t:Nat):Glo.prt t=(t==55||t==52):=rfl
@[simp] theorem mbx0 (t:Nat):Glo.mbx t=(t==302):=rfl
@[simp] theorem T0:tyE prog 1=some (1,false)/\tyE prog 2=some (1,false)/\zeroE prog 2=some [V.int .i64 0]/\isInt prog 2=some .i64/\tyE prog 3=some (1,false)/\zeroE prog 3=some [V.int .i64 0]/\isInt prog 3=some .i64/\tyE prog 4=some (1,false)/\zeroE prog 4=some [V.bool false]/\byE prog 5=true/\tyE prog 5=some (1,false)/\zeroE prog 5=some [V.int .u8 0]/\isInt prog 5=some .u8/\byE prog 6=true/\tyE prog 6=some (1,false)/\isInt prog 6=some .u8/\tyE prog 7=some (4,true)/\allE prog 7=true/\tyE prog 8=some (4,true)/\allE prog 8=true/\tyE prog 9=some (1,false)/\zeroE prog 9=some [V.str []]/\slE prog 9=none/\zCj prog 9=true/\tyE prog 10=some (1,false):=by and_intros<;>kernel_rfl
@[simp] theorem T46:slE prog 10=none/\zCj prog 10=true/\tyE prog 11=some (1,false)/\slE prog 11=none/\zCj prog 11=true/\tyE prog 12=some (1,false)/\isInt prog 12=some .u64/\tyE prog 13=some (2,true)/\allE prog 13=true/\tyE prog 14=some (2,true)/\allE prog 14=true/\tyE prog 15=some (1,false)/\tyE prog 16=some (1,false)/\tyE prog 17=some (1,false)/\tyE prog 18=some (1,true)/\allE prog 18=true/\tyE prog 19=some (1,true)/\allE prog 19=true/\tyE prog 20=some (1,false)/\tyE prog 21=some (1,false)/\zeroE prog 21=some [V.int .i32 0]/\isInt prog 21=some .i32/\tyE prog 22=some (1,false)/\zeroE prog 22=some [V.sl 0 true []]/\slE prog 22=some (3,1,8):=by and_intros<;>kernel_rfl
@[simp] theorem T93:tyE prog 23=some (1,false)/\tyE prog 24=some (1,false)/\zeroE prog 24=some [V.int .u64 0]/\isInt prog 24=some .u64/\tyE prog 25=some (1,false)/\zeroE prog 25=some [V.int .u32 0]/\isInt prog 25=some .u32/\tyE prog 26=some (16,true):=by and_intros<;>kernel_rfl
@[simp] theorem T103:arE prog 26=some (16,1,false):=by kernel_rfl
@[simp] theorem T104 (i:Nat):plE prog 26 i=some (i*1,1):=zGy T103 i
@[simp] theorem T105:allE prog 26=true/\tyE prog 27=some (8,true)/\zeroE prog 27=some [V.int .u32 0,V.int .u32 0,V.int .u32 0,V.int .u32 0,V.int .u32 0,V.int .u32 0,V.int .u32 0,V.int .u32 0]:=by and_intros<;>kernel_rfl
@[simp] theorem T108:arE prog 27=some (8,1,false):=by kernel_rfl
@[simp] theorem T109 (i:Nat):plE prog 27 i=some (i*1,1):=zGy T108 i
@[simp] theorem T110:allE prog 27=true/\tyE prog 28=some (25,true)/\allE prog 28=true/\tyE prog 29=some (25,true)/\zeroE prog 29=some [V.int .u32 0,V.int .u32 0,V.int .u32 0,V.int .u32 0,V.int .u32 0,V.int .u32 0,V.int .u32 0,V.int .u32 0,V.int .u32 0,V.int .u32 0,V.int .u32 0,V.int .u32 0,V.int .u32 0,V.int .u32 0,V.int .u32 0,V.int .u32 0,V.int .u32 0,V.int .u32 0,V.int .u32 0,V.int .u32 0,V.int .u32 0,V.int .u32 0,V.int .u32 0,V.int .u32 0,V.int .u32 0]/\fldE prog 29 0=some (0,16,true)/\fldE prog 29 1=some (16,1,false)/\plE prog 29 1=some (16,1)/\fldE prog 29 2=some (17,8,true)/\allE prog 29=true/\eqE prog 29=some [.i,.i,.i,.i,.i,.i,.i,.i,.i,.i,.i,.i,.i,.i,.i,.i,.i,.i,.i,.i,.i,.i,.i,.i,.i]/\tyE prog 30=some (1,false)/\zeroE prog 30=some [V.sl 0 true []]/\slE prog 30=some (25,1,4)/\tyE prog 31=some (1,true)/\allE prog 31=true/\tyE prog 32=some (1,true)/\zeroE prog 32=some [V.str []]/\fldE prog 32 0=some (0,1,false)/\allE prog 32=true/\eqE prog 32=some [.s]/\tyE prog 33=some (3,true)/\allE prog 33=true/\tyE prog 34=some (3,true)/\zeroE prog 34=some [V.bool false,V.int .u32 0,V.bool false]:=by and_intros<;>kernel_rfl
@[simp] theorem T155:fldE prog 34 0=some (0,1,false)/\plE prog 34 0=some (0,1)/\fldE prog 34 1=some (1,1,false)/\plE prog 34 1=some (1,1)/\fldE prog 34 2=some (2,1,false)/\plE prog 34 2=some (2,1)/\allE prog 34=true/\eqE prog 34=some [.b,.i,.b]/\tyE prog 35=some (8,true)/\allE prog 35=true/\tyE prog 36=some (8,true)/\zeroE prog 36=some [V.int .u32 0,V.int .u32 0,V.int .u32 0,V.int .i64 0,V.int .i64 0,V.int .u32 0,V.int .u32 0,V.str []]/\fldE prog 36 0=some (0,1,false)/\fldE prog 36 1=some (1,1,false)/\fldE prog 36 2=some (2,1,false)/\fldE prog 36 3=some (3,1,false)/\fldE prog 36 4=some (4,1,false)/\fldE prog 36 5=some (5,1,false)/\fldE prog 36 6=some (6,1,false)/\fldE prog 36 7=some (7,1,false)/\allE prog 36=true/\eqE prog 36=some [.i,.i,.i,.i,.i,.i,.i,.s]/\tyE prog 37=some (6,true)/\allE prog 37=true/\tyE prog 38=some (6,true):=by and_intros<;>kernel_rfl
@[simp] theorem T218:zeroE prog 38=some [V.int .u32 0,V.int .u32 0,V.bool false,V.int .u32 0,V.bool false,V.int .u32 0]/\fldE prog 38 0=some (0,1,false)/\fldE prog 38 1=some (1,1,false)/\fldE prog 38 2=some (2,1,false)/\fldE prog 38 3=some (3,1,false)/\fldE prog 38 4=some (4,1,false)/\fldE prog 38 5=some (5,1,false)/\allE prog 38=true/\eqE prog 38=some [.i,.i,.b,.i,.b,.i]/\tyE prog 39=some (2,true)/\allE prog 39=true/\tyE prog 40=some (2,true)/\zeroE prog 40=some [V.int .u32 0,V.int .u32 0]/\fldE prog 40 0=some (0,1,false)/\fldE prog 40 1=some (1,1,false)/\allE prog 40=true/\eqE prog 40=some [.i,.i]/\tyE prog 41=some (49,true)/\allE prog 41=true/\tyE prog 42=some (49,true)/\zeroE prog 42=some [V.int .u32 0,V.int .u32 0,V.int .u32 0,V.int .u32 0,V.int .u32 0,V.int .u32 0,V.int .u32 0,V.int .u32 0,V.int .u32 0,V.int .u32 0,V.int .u32 0,V.int .u32 0,V.int .u32 0,V.int .u32 0,V.int .u32 0,V.int .u32 0,V.int .u32 0,V.int .u32 0,V.int .u32 0,V.int .u32 0,V.int .u32 0,V.int .u32 0,V.int .u32 0,V.int .u32 0,V.int .u32 0,V.sl 0 true [],V.str [],V.bool false,V.int .u32 0,V.bool false,V.int .u32 0,V.int .u32 0,V.int .u32 0,V.int .i64 0,V.int .i64 0,V.int .u32 0,V.int .u32 0,V.str [],V.int .u32 0,V.int .u32 0,V.bool false,V.int .u32 0,V.bool false,V.int .u32 0,V.int .u32 0,V.int .u32 0,V.int .u64 0,V.bool false,V.bool false]/\fldE prog 42 0=some (0,25,true)/\plE prog 42 0=some (0,25)/\fldE prog 42 1=some (25,1,false)/\plE prog 42 1=some (25,1):=by and_intros<;>kernel_rfl
@[simp] theorem T277:fldE prog 42 2=some (26,1,true)/\fldE prog 42 3=some (27,3,true)/\fldE prog 42 4=some (30,8,true)/\fldE prog 42 5=some (38,6,true)/\fldE prog 42 6=some (44,2,true)/\fldE prog 42 7=some (46,1,false)/\fldE prog 42 8=some (47,1,false)/\fldE prog 42 9=some (48,1,false)/\allE prog 42=true/\tyE prog 43=some (1,false)/\zeroE prog 43=some [V.sl 0 true []]/\slE prog 43=some (84,4,40)/\tyE prog 44=some (1,false)/\zeroE prog 44=some [V.sl 0 true []]/\slE prog 44=some (72,3,32)/\tyE prog 45=some (52,true)/\allE prog 45=true/\tyE prog 46=some (52,true)/\zeroE prog 46=some [V.int .u32 0,V.int .u32 0,V.int .u32 0,V.int .u32 0,V.int .u32 0,V.int .u32 0,V.int .u32 0,V.int .u32 0,V.int .u32 0,V.int .u32 0,V.int .u32 0,V.int .u32 0,V.int .u32 0,V.int .u32 0,V.int .u32 0,V.int .u32 0,V.int .u32 0,V.int .u32 0,V.int .u32 0,V.int .u32 0,V.int .u32 0,V.int .u32 0,V.int .u32 0,V.int .u32 0,V.int .u32 0,V.sl 0 true [],V.str [],V.bool false,V.int .u32 0,V.bool false,V.int .u32 0,V.int .u32 0,V.int .u32 0,V.int .i64 0,V.int .i64 0,V.int .u32 0,V.int .u32 0,V.str [],V.int .u32 0,V.int .u32 0,V.bool false,V.int .u32 0,V.bool false,V.int .u32 0,V.int .u32 0,V.int .u32 0,V.int .u64 0,V.bool false,V.bool false,V.int .u32 0,V.sl 0 true [],V.sl 0 true []]/\fldE prog 46 0=some (0,49,true)/\plE prog 46 0=some (0,49)/\fldE prog 46 1=some (49,1,false)/\fldE prog 46 2=some (50,1,false)/\fldE prog 46 3=some (51,1,false)/\allE prog 46=true:=by and_intros<;>kernel_rfl
@[simp] theorem T322:tyE prog 47=some (52,true)/\allE prog 47=true/\tyE prog 48=some (52,true)/\zeroE prog 48=some [V.int .u32 0,V.int .u32 0,V.int .u32 0,V.int .u32 0,V.int .u32 0,V.int .u32 0,V.int .u32 0,V.int .u32 0,V.int .u32 0,V.int .u32 0,V.int .u32 0,V.int .u32 0,V.int .u32 0,V.int .u32 0,V.int .u32 0,V.int .u32 0,V.int .u32 0,V.int .u32 0,V.int .u32 0,V.int .u32 0,V.int .u32 0,V.int .u32 0,V.int .u32 0,V.int .u32 0,V.int .u32 0,V.sl 0 true [],V.str [],V.bool false,V.int .u32 0,V.bool false,V.int .u32 0,V.int .u32 0,V.int .u32 0,V.int .i64 0,V.int .i64 0,V.int .u32 0,V.int .u32 0,V.str [],V.int .u32 0,V.int .u32 0,V.bool false,V.int .u32 0,V.bool false,V.int .u32 0,V.int .u32 0,V.int .u32 0,V.int .u64 0,V.bool false,V.bool false,V.sl 0 true [],V.int .u64 0,V.int .u32 0]/\fldE prog 48 0=some (0,49,true)/\plE prog 48 0=some (0,49)/\fldE prog 48 1=some (49,1,false)/\fldE prog 48 2=some (50,1,false)/\plE prog 48 2=some (50,1)/\fldE prog 48 3=some (51,1,false)/\allE prog 48=true/\tyE prog 49=some (1,false)/\zeroE prog 49=some [V.sl 0 true []]/\slE prog 49=some (90,4,40)/\tyE prog 50=some (3,true)/\allE prog 50=true/\tyE prog 51=some (3,true)/\zeroE prog 51=some [V.sl 0 true [],V.int .u64 0,V.int .u64 0]/\fldE prog 51 0=some (0,1,false)/\fldE prog 51 1=some (1,1,false)/\plE prog 51 1=some (1,1)/\fldE prog 51 2=some (2,1,false)/\allE prog 51=true/\tyE prog 52=some (1,false)/\zeroE prog 52=some [V.sl 0 true []]:=by and_intros<;>kernel_rfl
@[simp] theorem T367:slE prog 52=some (150,3,40)/\tyE prog 53=some (4,true)/\allE prog 53=true/\tyE prog 54=some (4,true)/\zeroE prog 54=some [V.int .u64 0,V.int .u64 0,V.int .u64 0,V.sl 0 true []]/\fldE prog 54 0=some (0,1,false)/\plE prog 54 0=some (0,1)/\fldE prog 54 1=some (1,1,false)/\plE prog 54 1=some (1,1)/\fldE prog 54 2=some (2,1,false)/\plE prog 54 2=some (2,1)/\fldE prog 54 3=some (3,1,false)/\allE prog 54=true/\tyE prog 55=some (1,false)/\zeroE prog 55=some [V.sl 0 true []]/\slE prog 55=some (154,4,48)/\tyE prog 56=some (3,true)/\allE prog 56=true/\tyE prog 57=some (3,true)/\zeroE prog 57=some [V.int .u64 0,V.int .u64 0,V.sl 0 true []]/\fldE prog 57 0=some (0,1,false)/\plE prog 57 0=some (0,1)/\fldE prog 57 1=some (1,1,false)/\plE prog 57 1=some (1,1)/\fldE prog 57 2=some (2,1,false):=by and_intros<;>kernel_rfl
@[simp] theorem T410:allE prog 57=true/\tyE prog 58=some (3,true)/\allE prog 58=true/\tyE prog 59=some (3,true)/\zeroE prog 59=some [V.int .i64 0,V.int .i64 0,V.int .u64 0]/\fldE prog 59 0=some (0,1,false)/\plE prog 59 0=some (0,1)/\fldE prog 59 1=some (1,1,false)/\fldE prog 59 2=some (2,1,false)/\allE prog 59=true/\eqE prog 59=some [.i,.i,.i]/\tyE prog 60=some (125,true)/\allE prog 60=true/\tyE prog 61=some (125,true)/\zeroE prog 61=some [V.int .i64 0,V.int .i64 0,V.int .u64 0,V.int .u32 0,V.int .u32 0,V.int .u32 0,V.int .u32 0,V.int .u32 0,V.int .u32 0,V.int .u32 0,V.int .u32 0,V.int .u32 0,V.int .u32 0,V.int .u32 0,V.int .u32 0,V.int .u32 0,V.int .u32 0,V.int .u32 0,V.int .u32 0,V.int .u32 0,V.int .u32 0,V.int .u32 0,V.int .u32 0,V.int .u32 0,V.int .u32 0,V.int .u32 0,V.int .u32 0,V.int .u32 0,V.sl 0 true [],V.str [],V.bool false,V.int .u32 0,V.bool false,V.int .u32 0,V.int .u32 0,V.int .u32 0,V.int .i64 0,V.int .i64 0,V.int .u32 0,V.int .u32 0,V.str [],V.int .u32 0,V.int .u32 0,V.bool false,V.int .u32 0,V.bool false,V.int .u32 0,V.int .u32 0,V.int .u32 0,V.int .u64 0,V.bool false,V.bool false,V.int .u32 0,V.sl 0 true [],V.sl 0 true [],V.int .u32 0,V.int .u32 0,V.int .u32 0,V.int .u32 0,V.int .u32 0,V.int .u32 0,V.int .u32 0,V.int .u32 0,V.int .u32 0,V.int .u32 0,V.int .u32 0,V.int .u32 0,V.int .u32 0,V.int .u32 0,V.int .u32 0,V.int .u32 0,V.int .u32 0,V.int .u32 0,V.int .u32 0,V.int .u32 0,V.int .u32 0,V.int .u32 0,V.int .u32 0,V.int .u32 0,V.int .u32 0,V.sl 0 true [],V.str [],V.bool false,V.int .u32 0,V.bool false,V.int .u32 0,V.int .u32 0,V.int .u32 0,V.int .i64 0,V.int .i64 0,V.int .u32 0,V.int .u32 0,V.str [],V.int .u32 0,V.int .u32 0,V.bool false,V.int .u32 0,V.bool false,V.int .u32 0,V.int .u32 0,V.int .u32 0,V.int .u64 0,V.bool false,V.bool false,V.sl 0 true [],V.int .u64 0,V.int .u32 0,V.sl 0 true [],V.int .u64 0,V.int .u64 0,V.int .u64 0,V.int .u64 0,V.int .u64 0,V.int .u64 0,V.sl 0 true [],V.int .u64 0,V.int .u64 0,V.sl 0 true [],V.int .i64 0,V.int .i64 0,V.int .u64 0,V.int .u64 0,V.int .i64 0,V.int .u64 0,V.sl 0 true []]/\fldE prog 61 0=some (0,1,false)/\plE prog 61 0=some (0,1)/\fldE prog 61 1=some (1,1,false)/\fldE prog 61 2=some (2,1,false)/\plE prog 61 2=some (2,1)/\fldE prog 61 3=some (3,52,true)/\fldE prog 61 4=some (55,52,true)/\fldE prog 61 5=some (107,3,true)/\plE prog 61 5=some (107,3)/\fldE prog 61 6=some (110,1,false):=by and_intros<;>kernel_rfl
@[simp] theorem T476:plE prog 61 6=some (110,1)/\fldE prog 61 7=some (111,4,true)/\fldE prog 61 8=some (115,3,true)/\fldE prog 61 9=some (118,3,true)/\plE prog 61 9=some (118,3)/\fldE prog 61 10=some (121,1,false)/\fldE prog 61 11=some (122,1,false)/\fldE prog 61 12=some (123,1,false)/\fldE prog 61 13=some (124,1,false)/\allE prog 61=true/\tyE prog 62=some (1,false)/\zeroE prog 62=some [V.sl 0 true []]/\slE prog 62=some (9,1,16)/\tyE prog 63=some (3,true)/\allE prog 63=true/\tyE prog 64=some (3,true)/\zeroE prog 64=some [V.sl 0 true [],V.int .u64 0,V.int .i64 0]/\fldE prog 64 0=some (0,1,false)/\plE prog 64 0=some (0,1)/\fldE prog 64 1=some (1,1,false)/\fldE prog 64 2=some (2,1,false)/\plE prog 64 2=some (2,1)/\allE prog 64=true/\tyE prog 65=some (255,true)/\allE prog 65=true:=by and_intros<;>kernel_rfl
@[simp] theorem T526:tyE prog 66=some (255,true)/\zeroE prog 66=some [V.int .i64 0,V.int .i64 0,V.int .u64 0,V.int .u32 0,V.int .u32 0,V.int .u32 0,V.int .u32 0,V.int .u32 0,V.int .u32 0,V.int .u32 0,V.int .u32 0,V.int .u32 0,V.int .u32 0,V.int .u32 0,V.int .u32 0,V.int .u32 0,V.int .u32 0,V.int .u32 0,V.int .u32 0,V.int .u32 0,V.int .u32 0,V.int .u32 0,V.int .u32 0,V.int .u32 0,V.int .u32 0,V.int .u32 0,V.int .u32 0,V.int .u32 0,V.sl 0 true [],V.str [],V.bool false,V.int .u32 0,V.bool false,V.int .u32 0,V.int .u32 0,V.int .u32 0,V.int .i64 0,V.int .i64 0,V.int .u32 0,V.int .u32 0,V.str [],V.int .u32 0,V.int .u32 0,V.bool false,V.int .u32 0,V.bool false,V.int .u32 0,V.int .u32 0,V.int .u32 0,V.int .u64 0,V.bool false,V.bool false,V.int .u32 0,V.sl 0 true [],V.sl 0 true [],V.int .u32 0,V.int .u32 0,V.int .u32 0,V.int .u32 0,V.int .u32 0,V.int .u32 0,V.int .u32 0,V.int .u32 0,V.int .u32 0,V.int .u32 0,V.int .u32 0,V.int .u32 0,V.int .u32 0,V.int .u32 0,V.int .u32 0,V.int .u32 0,V.int .u32 0,V.int .u32 0,V.int .u32 0,V.int .u32 0,V.int .u32 0,V.int .u32 0,V.int .u32 0,V.int .u32 0,V.int .u32 0,V.sl 0 true [],V.str [],V.bool false,V.int .u32 0,V.bool false,V.int .u32 0,V.int .u32 0,V.int .u32 0,V.int .i64 0,V.int .i64 0,V.int .u32 0,V.int .u32 0,V.str [],V.int .u32 0,V.int .u32 0,V.bool false,V.int .u32 0,V.bool false,V.int .u32 0,V.int .u32 0,V.int .u32 0,V.int .u64 0,V.bool false,V.bool false,V.sl 0 true [],V.int .u64 0,V.int .u32 0,V.sl 0 true [],V.int .u64 0,V.int .u64 0,V.int .u64 0,V.int .u64 0,V.int .u64 0,V.int .u64 0,V.sl 0 true [],V.int .u64 0,V.int .u64 0,V.sl 0 true [],V.int .i64 0,V.int .i64 0,V.int .u64 0,V.int .u64 0,V.int .i64 0,V.int .u64 0,V.sl 0 true [],V.int .i64 0,V.int .i64 0,V.int .u64 0,V.int .u32 0,V.int .u32 0,V.int .u32 0,V.int .u32 0,V.int .u32 0,V.int .u32 0,V.int .u32 0,V.int .u32 0,V.int .u32 0,V.int .u32 0,V.int .u32 0,V.int .u32 0,V.int .u32 0,V.int .u32 0,V.int .u32 0,V.int .u32 0,V.int .u32 0,V.int .u32 0,V.int .u32 0,V.int .u32 0,V.int .u32 0,V.int .u32 0,V.int .u32 0,V.int .u32 0,V.int .u32 0,V.sl 0 true [],V.str [],V.bool false,V.int .u32 0,V.bool false,V.int .u32 0,V.int .u32 0,V.int .u32 0,V.int .i64 0,V.int .i64 0,V.int .u32 0,V.int .u32 0,V.str [],V.int .u32 0,V.int .u32 0,V.bool false,V.int .u32 0,V.bool false,V.int .u32 0,V.int .u32 0,V.int .u32 0,V.int .u64 0,V.bool false,V.bool false,V.int .u32 0,V.sl 0 true [],V.sl 0 true [],V.int .u32 0,V.int .u32 0,V.int .u32 0,V.int .u32 0,V.int .u32 0,V.int .u32 0,V.int .u32 0,V.int .u32 0,V.int .u32 0,V.int .u32 0,V.int .u32 0,V.int .u32 0,V.int .u32 0,V.int .u32 0,V.int .u32 0,V.int .u32 0,V.int .u32 0,V.int .u32 0,V.int .u32 0,V.int .u32 0,V.int .u32 0,V.int .u32 0,V.int .u32 0,V.int .u32 0,V.int .u32 0,V.sl 0 true [],V.str [],V.bool false,V.int .u32 0,V.bool false,V.int .u32 0,V.int .u32 0,V.int .u32 0,V.int .i64 0,V.int .i64 0,V.int .u32 0,V.int .u32 0,V.str [],V.int .u32 0,V.int .u32 0,V.bool false,V.int .u32 0,V.bool false,V.int .u32 0,V.int .u32 0,V.int .u32 0,V.int .u64 0,V.bool false,V.bool false,V.sl 0 true [],V.int .u64 0,V.int .u32 0,V.sl 0 true [],V.int .u64 0,V.int .u64 0,V.int .u64 0,V.int .u64 0,V.int .u64 0,V.int .u64 0,V.sl 0 true [],V.int .u64 0,V.int .u64 0,V.sl 0 true [],V.int .i64 0,V.int .i64 0,V.int .u64 0,V.int .u64 0,V.int .i64 0,V.int .u64 0,V.sl 0 true [],V.sl 0 true [],V.sl 0 true [],V.sl 0 true [],V.int .u64 0,V.int .i64 0]/\fldE prog 66 0=some (0,125,true)/\fldE prog 66 1=some (125,125,true)/\fldE prog 66 4=some (252,3,true)/\allE prog 66=true/\tyE prog 68=some (1,false)/\tyE prog 70=some (1,false)/\tyE prog 71=some (3,true)/\allE prog 71=true/\tyE prog 72=some (3,true)/\zeroE prog 72=some [V.int .i64 0,V.int .u32 0,V.str []]/\fldE prog 72 0=some (0,1,false)/\plE prog 72 0=some (0,1)/\fldE prog 72 1=some (1,1,false)/\plE prog 72 1=some (1,1)/\fldE prog 72 2=some (2,1,false)/\allE prog 72=true/\eqE prog 72=some [.i,.i,.s]/\tyE prog 73=some (1,false)/\tyE prog 74=some (1,false)/\tyE prog 75=some (1,false)/\tyE prog 77=some (1,false)/\tyE prog 78=some (1,false)/\tyE prog 79=some (1,false):=by and_intros<;>kernel_rfl
@[simp] theorem T574:tyE prog 80=some (1,false)/\tyE prog 82=some (1,false)/\tyE prog 83=some (4,true)/\allE prog 83=true/\tyE prog 84=some (4,true)/\zeroE prog 84=some [V.int .u64 0,V.int .i64 0,V.int .u32 0,V.str []]/\fldE prog 84 0=some (0,1,false)/\plE prog 84 0=some (0,1)/\fldE prog 84 1=some (1,3,true)/\plE prog 84 1=some (1,3)/\allE prog 84=true/\eqE prog 84=some [.i,.i,.i,.s]/\tyE prog 85=some (1,false)/\tyE prog 86=some (1,false)/\tyE prog 89=some (4,true)/\allE prog 89=true/\tyE prog 90=some (4,true)/\zeroE prog 90=some [V.int .i64 0,V.int .u64 0,V.int .u32 0,V.str []]/\fldE prog 90 0=some (0,1,false)/\plE prog 90 0=some (0,1)/\fldE prog 90 1=some (1,1,false)/\plE prog 90 1=some (1,1)/\fldE prog 90 2=some (2,1,false)/\plE prog 90 2=some (2,1)/\fldE prog 90 3=some (3,1,false):=by and_intros<;>kernel_rfl
@[simp] theorem T617:plE prog 90 3=some (3,1)/\allE prog 90=true/\eqE prog 90=some [.i,.i,.i,.s]/\tyE prog 93=some (1,false)/\zeroE prog 93=some [V.sl 0 true []]/\slE prog 93=some (206,5,48)/\tyE prog 97=some (1,false)/\tyE prog 98=some (1,false)/\tyE prog 102=some (1,false)/\tyE prog 103=some (1,false)/\tyE prog 104=some (1,false)/\tyE prog 106=some (1,false)/\tyE prog 107=some (1,false)/\isInt prog 107=some .u64/\tyE prog 108=some (1,false)/\tyE prog 109=some (1,false)/\tyE prog 110=some (1,false)/\tyE prog 111=some (1,false)/\tyE prog 112=some (1,false)/\tyE prog 113=some (1,false)/\tyE prog 114=some (1,false)/\tyE prog 115=some (1,false)/\tyE prog 116=some (1,false)/\tyE prog 117=some (1,false)/\tyE prog 127=some (1,false):=by and_intros<;>kernel_rfl
@[simp] theorem T660:tyE prog 128=some (1,false)/\tyE prog 129=some (1,false)/\tyE prog 130=some (1,false)/\tyE prog 134=some (1,false)/\tyE prog 135=some (1,false)/\zeroE prog 135=some [V.int .i64 0]/\isInt prog 135=some .i64/\tyE prog 136=some (2,true)/\allE prog 136=true/\tyE prog 137=some (2,true)/\zeroE prog 137=some [V.int .i64 0,V.int .i64 0]/\fldE prog 137 0=some (0,1,false)/\plE prog 137 0=some (0,1)/\plE prog 137 1=some (1,1)/\allE prog 137=true/\tyE prog 139=some (1,false)/\tyE prog 140=some (1,false)/\tyE prog 141=some (1,false)/\tyE prog 143=some (1,false)/\tyE prog 144=some (1,false)/\tyE prog 145=some (1,false)/\tyE prog 146=some (1,false)/\tyE prog 147=some (1,false)/\tyE prog 148=some (1,false)/\tyE prog 149=some (3,true):=by and_intros<;>kernel_rfl
@[simp] theorem T711:allE prog 149=true/\tyE prog 150=some (3,true)/\zeroE prog 150=some [V.int .u64 0,V.int .u64 0,V.sl 0 true []]/\fldE prog 150 0=some (0,1,false)/\plE prog 150 0=some (0,1)/\fldE prog 150 1=some (1,1,false)/\plE prog 150 1=some (1,1)/\fldE prog 150 2=some (2,1,false)/\plE prog 150 2=some (2,1)/\allE prog 150=true/\tyE prog 151=some (1,false)/\tyE prog 152=some (1,false)/\tyE prog 153=some (4,true)/\allE prog 153=true/\tyE prog 154=some (4,true)/\zeroE prog 154=some [V.int .u64 0,V.int .u64 0,V.int .u64 0,V.sl 0 true []]/\fldE prog 154 0=some (0,1,false)/\plE prog 154 0=some (0,1)/\fldE prog 154 1=some (1,3,true)/\plE prog 154 1=some (1,3)/\allE prog 154=true/\tyE prog 155=some (1,false)/\tyE prog 156=some (1,false)/\tyE prog 158=some (1,false)/\tyE prog 159=some (1,false):=by and_intros<;>kernel_rfl
@[simp] theorem T746:zeroE prog 159=some [V.sl 0 true []]/\slE prog 159=some (5,1,1)/\bsE prog 159=true/\tyE prog 161=some (1,false)/\tyE prog 163=some (1,false)/\tyE prog 165=some (1,false)/\tyE prog 166=some (1,false)/\tyE prog 180=some (1,false)/\tyE prog 182=some (1,false)/\tyE prog 185=some (1,false)/\tyE prog 186=some (1,false)/\tyE prog 187=some (1,false)/\tyE prog 188=some (1,false)/\tyE prog 191=some (1,false)/\tyE prog 204=some (1,false)/\tyE prog 205=some (5,true)/\allE prog 205=true/\tyE prog 206=some (5,true)/\zeroE prog 206=some [V.int .i64 0,V.int .u64 0,V.int .u32 0,V.str [],V.int .u64 0]/\plE prog 206 0=some (0,4)/\plE prog 206 1=some (4,1)/\allE prog 206=true/\eqE prog 206=some [.i,.i,.i,.s,.i]/\tyE prog 210=some (1,false)/\zeroE prog 210=some [V.sl 0 true []]:=by and_intros<;>kernel_rfl
@[simp] theorem T790:slE prog 210=some (272,2,24)/\tyE prog 211=some (1,false)/\zeroE prog 211=some [V.sl 0 true []]/\slE prog 211=some (216,6,72)/\tyE prog 214=some (1,false)/\zeroE prog 214=some [V.sl 0 true []]/\slE prog 214=some (218,3,32)/\tyE prog 215=some (6,true)/\allE prog 215=true/\tyE prog 216=some (6,true)/\zeroE prog 216=some [V.str [],V.int .i64 0,V.sl 0 true [],V.int .i64 0,V.int .i64 0,V.int .i64 0]/\fldE prog 216 0=some (0,1,false)/\plE prog 216 0=some (0,1)/\fldE prog 216 1=some (1,1,false)/\plE prog 216 1=some (1,1)/\fldE prog 216 2=some (2,1,false)/\plE prog 216 2=some (2,1)/\fldE prog 216 3=some (3,1,false)/\fldE prog 216 4=some (4,1,false)/\fldE prog 216 5=some (5,1,false)/\plE prog 216 5=some (5,1)/\allE prog 216=true/\tyE prog 217=some (3,true)/\allE prog 217=true/\tyE prog 218=some (3,true):=by and_intros<;>kernel_rfl
@[simp] theorem T837:zeroE prog 218=some [V.int .i64 0,V.int .i64 0,V.str []]/\fldE prog 218 0=some (0,1,false)/\plE prog 218 0=some (0,1)/\fldE prog 218 1=some (1,1,false)/\plE prog 218 1=some (1,1)/\fldE prog 218 2=some (2,1,false)/\plE prog 218 2=some (2,1)/\allE prog 218=true/\tyE prog 222=some (5,true)/\allE prog 222=true/\tyE prog 223=some (5,true)/\zeroE prog 223=some [V.int .i64 0,V.int .i64 0,V.int .i64 0,V.int .i64 0,V.int .i32 0]/\fldE prog 223 0=some (0,1,false)/\plE prog 223 0=some (0,1)/\fldE prog 223 1=some (1,1,false)/\plE prog 223 1=some (1,1)/\fldE prog 223 2=some (2,1,false)/\plE prog 223 2=some (2,1)/\fldE prog 223 3=some (3,1,false)/\plE prog 223 3=some (3,1)/\fldE prog 223 4=some (4,1,false)/\plE prog 223 4=some (4,1)/\allE prog 223=true/\eqE prog 223=some [.i,.i,.i,.i,.i]/\tyE prog 231=some (1,false):=by and_intros<;>kernel_rfl
@[simp] theorem T873:zeroE prog 231=some [V.poi]/\tyE prog 235=some (1,false)/\zeroE prog 235=some [V.sl 0 true []]/\slE prog 235=some (43,1,24)/\tyE prog 238=some (1,false)/\tyE prog 239=some (1,false)/\tyE prog 241=some (1,false)/\zeroE prog 241=some [V.nilp]/\tyE prog 260=some (1,false)/\tyE prog 271=some (2,true)/\allE prog 271=true/\tyE prog 272=some (2,true)/\zeroE prog 272=some [V.str [],V.int .u32 0]/\fldE prog 272 0=some (0,1,false)/\plE prog 272 0=some (0,1)/\fldE prog 272 1=some (1,1,false)/\plE prog 272 1=some (1,1)/\allE prog 272=true/\tyE prog 283=some (4,true)/\allE prog 283=true/\tyE prog 284=some (4,true)/\zeroE prog 284=some [V.int .i64 0,V.int .i64 0,V.int .i64 0,V.int .u32 0]/\fldE prog 284 0=some (0,1,false)/\plE prog 284 0=some (0,1)/\fldE prog 284 1=some (1,1,false):=by and_intros<;>kernel_rfl
@[simp] theorem T915:plE prog 284 1=some (1,1)/\fldE prog 284 2=some (2,1,false)/\plE prog 284 2=some (2,1)/\fldE prog 284 3=some (3,1,false)/\plE prog 284 3=some (3,1)/\allE prog 284=true/\tyE prog 301=some (1,false)/\tyE prog 302=some (1,false)/\zeroE prog 302=some [V.poi]/\mpE prog 302=some (2,false,[V.sl 0 true []])/\tyE prog 303=some (3,true)/\allE prog 303=true/\tyE prog 304=some (3,true)/\zeroE prog 304=some [V.str [],V.poi,V.int .i64 0]/\fldE prog 304 0=some (0,1,false)/\plE prog 304 0=some (0,1)/\fldE prog 304 1=some (1,1,false)/\plE prog 304 1=some (1,1)/\fldE prog 304 2=some (2,1,false)/\allE prog 304=true/\tyE prog 310=some (8,true)/\zeroE prog 310=some [V.int .u8 0,V.int .u8 0,V.int .u8 0,V.int .u8 0,V.int .u8 0,V.int .u8 0,V.int .u8 0,V.int .u8 0]:=by and_intros<;>kernel_rfl
@[simp] theorem T946:arE prog 310=some (8,1,false):=by kernel_rfl
@[simp] theorem T947 (i:Nat):plE prog 310 i=some (i*1,1):=zGy T946 i
@[simp] theorem T948:allE prog 310=true/\tyE prog 311=some (1,false)/\tyE prog 312=some (2,true)/\allE prog 312=true/\tyE prog 313=some (2,true)/\zeroE prog 313=some [V.str [],V.bool false]/\fldE prog 313 0=some (0,1,false)/\plE prog 313 0=some (0,1)/\fldE prog 313 1=some (1,1,false)/\allE prog 313=true/\tyE prog 323=some (1,false)/\zeroE prog 323=some [V.sl 0 true []]/\slE prog 323=some (327,3,32)/\tyE prog 326=some (3,true)/\allE prog 326=true/\tyE prog 327=some (3,true)/\zeroE prog 327=some [V.int .i64 0,V.str [],V.bool false]/\fldE prog 327 0=some (0,1,false)/\plE prog 327 0=some (0,1)/\fldE prog 327 1=some (1,1,false)/\plE prog 327 1=some (1,1)/\fldE prog 327 2=some (2,1,false)/\plE prog 327 2=some (2,1)/\allE prog 327=true/\tyE prog 336=some (1,false):=by and_intros<;>kernel_rfl
@[simp] theorem T988:isInt prog 336=some .i16/\tyE prog 367=some (1,false)/\tyE prog 368=some (1,false)/\zeroE prog 368=some [V.nilp]/\tyE prog 369=some (2,true)/\allE prog 369=true/\tyE prog 370=some (2,true)/\zeroE prog 370=some [V.nilp,V.sl 0 true []]/\fldE prog 370 0=some (0,1,false)/\fldE prog 370 1=some (1,1,false)/\allE prog 370=true/\tyE prog 371=some (1,false)/\tyE prog 372=some (1,false)/\tyE prog 390=some (3,true)/\allE prog 390=true/\tyE prog 391=some (3,true)/\zeroE prog 391=some [V.int .u32 0,V.int .u32 0,V.int .i64 0]/\fldE prog 391 0=some (0,1,false)/\plE prog 391 0=some (0,1)/\fldE prog 391 1=some (1,1,false)/\plE prog 391 1=some (1,1)/\fldE prog 391 2=some (2,1,false)/\plE prog 391 2=some (2,1)/\allE prog 391=true/\tyE prog 402=some (5,true):=by and_intros<;>kernel_rfl
@[simp] theorem T1030:zeroE prog 402=some [V.bool false,V.bool false,V.bool false,V.bool false,V.bool false]:=by kernel_rfl
@[simp] theorem T1031:arE prog 402=some (5,1,false):=by kernel_rfl
@[simp] theorem T1032 (i:Nat):plE prog 402 i=some (i*1,1):=zGy T1031 i
@[simp] theorem T1033:allE prog 402=true/\tyE prog 406=some (5,true)/\allE prog 406=true/\tyE prog 407=some (5,true)/\zeroE prog 407=some [V.bool false,V.bool false,V.bool false,V.int .i32 0,V.int .i32 0]/\fldE prog 407 0=some (0,1,false)/\plE prog 407 0=some (0,1)/\fldE prog 407 1=some (1,1,false)/\plE prog 407 1=some (1,1)/\fldE prog 407 2=some (2,1,false)/\plE prog 407 2=some (2,1)/\fldE prog 407 3=some (3,1,false)/\plE prog 407 3=some (3,1)/\fldE prog 407 4=some (4,1,false)/\plE prog 407 4=some (4,1)/\allE prog 407=true/\tyE prog 415=some (1,false)/\tyE prog 434=some (4,true)/\allE prog 434=true/\tyE prog 435=some (4,true)/\allE prog 435=true/\tyE prog 436=some (0,true):=by and_intros<;>kernel_rfl
@[simp] theorem T1086:arE prog 436=some (0,1,false):=by kernel_rfl
@[simp] theorem T1087 (i:Nat):plE prog 436 i=some (i*1,1):=zGy T1086 i
@[simp] theorem T1088:allE prog 436=true/\tyE prog 437=some (0,true)/\allE prog 437=true/\tyE prog 438=some (0,true)/\allE prog 438=true/\byE prog 439=true/\tyE prog 439=some (1,false)/\isInt prog 439=some .u8/\byE prog 440=true/\tyE prog 440=some (1,false)/\isInt prog 440=some .u8/\tyE prog 441=some (1,false)/\tyE prog 442=some (1,false)/\isInt prog 442=some .i32/\tyE prog 443=some (1,false)/\isInt prog 443=some .i32/\tyE prog 444=some (11,true)/\allE prog 444=true/\tyE prog 445=some (11,true)/\allE prog 445=true:=by and_intros<;>kernel_rfl
end Go.Proofs.YthjpcmecgjfilaaGreat
end
section

end
section
namespace Go.Proofs.YthjpcmecgjfilaaGreat
open Go.Ab Go.ChangeShapes Go.WideShapes Go.ChangeAt Go.RowKit Tryz
variable {w:World} {base:Nat} {spare:Nat->Bool} {held:Bool} {H:Type} {enc:TypeId × Value->H} {v:Value} {d:DataW H} {p:List MemPlace} {r:Reach} {b0:Nat}
set_option maxRecDepth 100000
theorem intsOf (k:IntKind):∀ xs:List (List V),(∀ x∈xs,∃ n,(k.min<=n/\n<=k.max)/\x=[V.int k n])->∃ l,xs=ints k l
 | [],_=>⟨[],rfl⟩
 | x::xs,h=>by
  obtain ⟨l,rfl⟩:=intsOf k xs fun y hy=>h y (zV4 _ hy)
  obtain ⟨n,hn,rfl⟩:=h x (zV8 ..);exact ⟨n::l,by simp [ints]⟩
theorem R_ints (hv:Value.okWide prog w r b0 22 v) (h:DataW.Trod enc prog w base spare held 22 v d p):∃ l:List Int,R M0 w (X0 w) 0 (.sl 1 false (ints .i64 l)) v/\True:=by
 obtain ⟨xs,h1,h2⟩:=zTi 1 (by kernel_rfl) Tryz.underlying22 hv h
 simp only [isV,Tryz.underlying3] at h1;obtain ⟨l,rfl⟩:=intsOf .i64 xs h1;rw [show prog.cellsOf 3=1 by kernel_rfl] at h2
 exact ⟨l,h2,trivial⟩
end Go.Proofs.YthjpcmecgjfilaaGreat
end
