/- A part of the proof of ReplicaFollows. -/
import Derived.Test.YthjpcmecgjfilaaGreatB03
import Derived.Test.YthjpcmecgjfilaaGreatB04
import Derived.Test.YthjpcmecgjfilaaGreatB14
import Derived.Test.YthjpcmecgjfilaaGreatB24
import Derived.Test.YthjpcmecgjfilaaGreatB25
import Derived.Test.YthjpcmecgjfilaaGreatB27
set_option linter.unusedSimpArgs false
set_option linter.unusedVariables false
set_option maxHeartbeats 16000000
set_option maxRecDepth 100000
section
namespace Go.Proofs.YthjpcmecgjfilaaGreat
open Go.Ab Go.RowKit Tryz
inductive Tr (u:Int):MchD->List EntD->List OutD->MchD->List EntD->Prop
 | nil {m l}:m.count=u->firstOk m.count l=true->Tr u m l [] m l
 | ev {m e l O m' r}:m.count<u->e.kind≠1->Tr u (applyD m e).1 l O m' r->Tr u m (⟨m.count,e⟩::l) O m' r
 | go {m l O m' r}:m.count<u->runsD m=true->readsD m=false->(∀ e,l.head? =some e->m.count<e.at_)->Tr u (goD m 0).1 l O m' r->Tr u m l ((goD m 0).2++O) m' r
 | clk {m k l O m' r}:m.count<u->W32 k->runsD m=true->readsD m=true->Tr u (goD m k).1 l O m' r->Tr u m (⟨m.count,⟨1,k,[]⟩⟩::l) ((goD m k).2++O) m' r
theorem Tr.le {u:Int} {m m':MchD} {l r:List EntD} {O:List OutD} (h:Tr u m l O m' r):m.count<=u:=by
 cases h<;>omega
theorem Tr.first {u:Int} {m m':MchD} {l r:List EntD} {O:List OutD} (h:Tr u m l O m' r):firstOk m.count l=true:=by
 cases h with
 | nil _ h=>exact h
 | ev _ _ _=>simp [firstOk]
 | go _ _ _ h _ =>
  cases l with
  | nil=>rfl
  | cons e l=>have:=h e rfl;simp [firstOk];omega
 | clk _ _ _ _ _=>simp [firstOk]
theorem zBP (m:MchD) (e:EvD):(applyD m e).1.count=m.count:=by
 unfold applyD
 (repeat' split)<;>rfl
theorem zDi (m:MchD) (k:Int):(goD m k).1.count=m.count+1:=by
 show (zBH _ _ _ _).1.count+1=_
 rw [zD3,zDE]
theorem Tr.split {u:Int} {m m':MchD} {l r:List EntD} {O:List OutD} (h:Tr u m l O m' r):∀ t:Int,m.count<=t->t<=u->∃ y L O1 O2,Tr t m l O1 y L/\Tr u y L O2 m' r/\O=O1++O2/\y.count=t:=by
 induction h with
 | @nil m l h1 h2 =>
  intro t h3 h4
  exact ⟨m,l,[],[],.nil (by omega) h2,.nil h1 h2,rfl,by omega⟩
 | @ev m e l O m' r h1 h2 h3 ih =>
  intro t h4 h5
  by_cases h:m.count=t
  ·have hT:Tr u m (⟨m.count,e⟩::l) O m' r:=.ev h1 h2 h3;exact ⟨m,_,[],O,.nil h hT.first,hT,rfl,h⟩
  obtain ⟨y,L,O1,O2,a1,a2,a3,a4⟩:=ih t (by rw [zBP];omega) h5
  exact ⟨y,L,O1,O2,.ev (by omega) h2 a1,a2,a3,a4⟩
 | @go m l O m' r h1 h2 h3 h4 h5 ih =>
  intro t h6 h7
  by_cases h:m.count=t
  ·have hT:Tr u m l ((goD m 0).2++O) m' r:=.go h1 h2 h3 h4 h5;exact ⟨m,_,[],_,.nil h hT.first,hT,rfl,h⟩
  obtain ⟨y,L,O1,O2,a1,a2,a3,a4⟩:=ih t (by rw [zDi];omega) h7
  exact ⟨y,L,_,O2,.go (by omega) h2 h3 h4 a1,a2,by rw [a3,zWW],a4⟩
 | @clk m k l O m' r h1 h2 h3 h4 h5 ih =>
  intro t h6 h7
  by_cases h:m.count=t
  ·have hT:Tr u m (⟨m.count,⟨1,k,[]⟩⟩::l) ((goD m k).2++O) m' r:=.clk h1 h2 h3 h4 h5;exact ⟨m,_,[],_,.nil h hT.first,hT,rfl,h⟩
  obtain ⟨y,L,O1,O2,a1,a2,a3,a4⟩:=ih t (by rw [zDi];omega) h7
  exact ⟨y,L,_,O2,.clk (by omega) h2 h3 h4 a1,a2,by rw [a3,zWW],a4⟩
theorem Tr.pre {t:Int} {m y:MchD} {l L:List EntD} {O:List OutD} (h:Tr t m l O y L):∀ n:Nat,(∀ k e,n<=k->l[k]? =some e->t<=e.at_)->∃ us,L=l.drop us/\us<=n/\us<=l.length/\Tr t m (l.take n) O y ((l.take n).drop us):=by
 induction h with
 | @nil m l h1 h2 =>
  intro n _
  refine ⟨0,rfl,by omega,by omega,.nil h1 ?_⟩
  cases n with
  | zero=>rfl
  | succ n=>cases l with|nil=>rfl|cons e l=>simpa [firstOk] using h2
 | @ev m e l O m' r h1 h2 h3 ih =>
  intro n hn
  cases n with
  | zero=>have:=hn 0 _ (by omega) rfl;simp only at this;omega
  | succ n =>
   obtain ⟨us,a1,a2,a3,a4⟩:=ih n (fun k e hk he=>hn (k+1) e (by omega) (by simpa using he))
   exact ⟨us+1,by simpa using a1,by omega,by simp;omega,by simpa using Tr.ev h1 h2 a4⟩
 | @go m l O m' r h1 h2 h3 h4 h5 ih =>
  intro n hn
  obtain ⟨us,a1,a2,a3,a4⟩:=ih n hn;refine ⟨us,a1,a2,a3,.go h1 h2 h3 (fun e he=>?_) a4⟩
  cases n with
  | zero=>simp at he
  | succ n=>cases l with|nil=>simp at he|cons x l=>exact h4 e (by simpa using he)
 | @clk m k l O m' r h1 h2 h3 h4 h5 ih =>
  intro n hn
  cases n with
  | zero=>have:=hn 0 _ (by omega) rfl;simp only at this;omega
  | succ n =>
   obtain ⟨us,a1,a2,a3,a4⟩:=ih n (fun k e hk he=>hn (k+1) e (by omega) (by simpa using he))
   exact ⟨us+1,by simpa using a1,by omega,by simp;omega,by simpa using Tr.clk h1 h2 h3 h4 a4⟩
theorem Tr.end_cnt {u:Int} {m m':MchD} {l r:List EntD} {O:List OutD} (h:Tr u m l O m' r):m'.count=u:=by
 induction h with
 | nil h _=>exact h
 | ev _ _ _ ih=>exact ih
 | go _ _ _ _ _ ih=>exact ih
 | clk _ _ _ _ _ ih=>exact ih
theorem Tr.ok {u:Int} {m m':MchD} {l r:List EntD} {O:List OutD} (h:Tr u m l O m' r) (hE:∀ e∈l,W32 e.ev.n):OkM m->mayD m=true->OkM m'/\mayD m'=true:=by
 induction h with
 | nil _ _=>exact fun a b=>⟨a,b⟩
 | @ev m e l O m' r _ _ _ ih =>
  exact fun a b=>ih (fun x hx=>hE x (zWI _ hx)) (zCx a (hE _ (zWM ..))).1 (zBl a b e)
 | go _ h2 _ _ _ ih=>exact fun a b=>ih hE (zNf a h2 zAp).1 ((zBf _).2 (zH8 a h2 0))
 | clk _ hk h2 _ _ ih=>exact fun a b=>ih (fun x hx=>hE x (zWI _ hx)) (zNf a h2 hk).1 ((zBf _).2 (zH8 a h2 _))
theorem zNd {c:Int} {l:List EntD} {x:EntD} (h:firstOk c l=true) (hx:c<=x.at_):firstOk c (l++[x])=true:=by
 cases l with
 | nil=>simpa [firstOk] using hx
 | cons e l=>simpa [firstOk] using h
theorem Tr.snoc {u:Int} {m m':MchD} {l r:List EntD} {O:List OutD} (h:Tr u m l O m' r) {x:EntD} (hx:u<=x.at_):Tr u m (l++[x]) O m' (r++[x]):=by
 induction h with
 | nil h1 h2=>exact .nil h1 (zNd h2 (by omega))
 | ev h1 h2 _ ih=>exact .ev h1 h2 ih
 | @go m l O m' r h1 h2 h3 h4 _ ih =>
  refine .go h1 h2 h3 (fun e he=>?_) ih
  cases l with
  | nil=>simp at he;subst he;omega
  | cons a l=>exact h4 e (by simpa using he)
 | clk h1 h2 h3 h4 _ ih=>exact .clk h1 h2 h3 h4 ih
theorem Tr.comp {u u':Int} {m m' m2:MchD} {l r r2:List EntD} {O O2:List OutD} (h:Tr u m l O m' r) (hu:u<=u') (h2:Tr u' m' r O2 m2 r2):Tr u' m l (O++O2) m2 r2:=by
 induction h with
 | nil _ _=>exact h2
 | ev h1 h3 _ ih=>exact .ev (by omega) h3 (ih h2)
 | go h1 h3 h4 h5 _ ih=>rw [zWW];exact .go (by omega) h3 h4 h5 (ih h2)
 | clk h1 h3 h4 h5 _ ih=>rw [zWW];exact .clk (by omega) h3 h4 h5 (ih h2)
abbrev appL (m:MchD) (l:List EntD):MchD:=l.foldl (fun x e=>(applyD x e.ev).1) m
theorem Tr.evs {u:Int}:∀ (l:List EntD) {m m':MchD} {l2 r:List EntD} {O:List OutD},m.count<u->(∀ e∈l,e.at_=m.count/\e.ev.kind≠1)->Tr u (appL m l) l2 O m' r->Tr u m (l++l2) O m' r
 | [],_,_,_,_,_,_,_,h=>h
 | e::l,m,m',l2,r,O,hc,he,h=>by
  obtain ⟨e1,e2⟩:=he e (zWM ..);have ih:=Tr.evs l (m:=(applyD m e.ev).1) (by rw [zBP];exact hc) (fun x hx=>by rw [zBP];exact he x (zWI _ hx)) h
  have hE:e=⟨m.count,e.ev⟩:=by cases e;simp only at e1;subst e1;rfl
  rw [hE];exact .ev hc e2 ih
def Rb (m0:MchD) (H:List EntD) (O:List OutD) (m:MchD):Prop :=
 ∃ m1 rest,Tr m.count m0 H O m1 rest/\appL m1 rest=m/\∀ e∈rest,e.at_=m.count/\e.ev.kind≠1
theorem Rb.nil (m:MchD):Rb m [] [] m:=⟨m,[],.nil rfl rfl,rfl,by simp⟩
theorem Rb.ev {m0 m:MchD} {H:List EntD} {O:List OutD} (h:Rb m0 H O m) {e:EvD} (he:e.kind≠1):Rb m0 (H++[⟨m.count,e⟩]) O (applyD m e).1:=by
 obtain ⟨m1,rest,h1,h2,h3⟩:=h;have hc:=zBP m e;refine ⟨m1,rest++[⟨m.count,e⟩],by rw [hc];exact h1.snoc (Int.le_refl _),?_,fun x hx=>?_⟩
 ·show List.foldl _ _ _=_
  rw [List.foldl_append];show (applyD (appL m1 rest) e).1=_
  rw [h2]
 rw [hc];rcases List.mem_append.1 hx with q|q
 ·exact h3 x q
 rw [List.mem_singleton.1 q];exact ⟨rfl,he⟩
theorem Rb.go {m0 m:MchD} {H:List EntD} {O:List OutD} (h:Rb m0 H O m) (hr:runsD m=true) (hd:readsD m=false):Rb m0 H (O++(goD m 0).2) (goD m 0).1:=by
 obtain ⟨m1,rest,h1,h2,h3⟩:=h;have hc:=zDi m 0;have hm1:=h1.end_cnt;refine ⟨(goD m 0).1,[],?_,rfl,by simp⟩
 rw [hc];refine h1.comp (by omega) ?_
 have:=Tr.evs (u:=m.count+1) rest (m:=m1) (m':=(goD m 0).1) (l2:=[]) (r:=[]) (O:=(goD m 0).2) (by omega) (fun e he=>by rw [hm1];exact h3 e he) (by
  rw [h2];have:=Tr.go (u:=m.count+1) (m:=m) (l:=[]) (O:=[]) (m':=(goD m 0).1) (r:=[]) (by omega) hr hd (by simp) (.nil (by omega) rfl)
  rwa [zWh] at this)
 rwa [zWh] at this
theorem Rb.clk {m0 m:MchD} {H:List EntD} {O:List OutD} (h:Rb m0 H O m) {k:Int} (hk:W32 k) (hr:runsD m=true) (hd:readsD m=true):Rb m0 (H++[⟨m.count,⟨1,k,[]⟩⟩]) (O++(goD m k).2) (goD m k).1:=by
 obtain ⟨m1,rest,h1,h2,h3⟩:=h;have hc:=zDi m k;have hm1:=h1.end_cnt;refine ⟨(goD m k).1,[],?_,rfl,by simp⟩
 rw [hc];refine (h1.snoc (x:=⟨m.count,⟨1,k,[]⟩⟩) (Int.le_refl _)).comp (by omega) ?_
 refine Tr.evs (u:=m.count+1) rest (m:=m1) (by omega) (fun e he=>by rw [hm1];exact h3 e he) ?_
 rw [h2];have:=Tr.clk (u:=m.count+1) (m:=m) (k:=k) (l:=[]) (O:=[]) (m':=(goD m k).1) (r:=[]) (by omega) hk hr hd (.nil (by omega) rfl)
 rwa [zWh] at this
theorem zSO (m:MchD) (p k k':Int) (h:p≠2):zAd m p k=zAd m p k':=by
 unfold zAd
 (repeat' split)<;>first|rfl|(exfalso;omega)
theorem go_clk {m:MchD} (hr:runsD m=true) (hd:readsD m=false) (k k':Int):goD m k=goD m k':=by
 have h:¬ ((effD m).kind=1/\(effD m).port=2):=by
  intro q
  unfold readsD at hd;rw [hr,q.1,q.2] at hd;simp at hd
 have hE:zBH (zBg m) (effD m) k m.count=zBH (zBg m) (effD m) k' m.count:=by
  unfold zBH;by_cases h1:(effD m).kind=1
  ·rw [if_pos h1,if_pos h1,zSO _ _ k k' (fun z=>h ⟨h1,z⟩)]
  rw [if_neg h1,if_neg h1]
 unfold goD;rw [hE]
def Rr (m0:MchD) (H:List EntD) (r:RecD) (O:List OutD):Prop:=Rb m0 (H++r.log) O r.m
theorem Rr.offer {m0:MchD} {H:List EntD} {r:RecD} {O:List OutD} (h:Rr m0 H r O) {e:EvD} (he:e.kind≠1):Rr m0 H (zAV r e) O:=by
 unfold zAV;split
 ·show Rb m0 (H++(r.log++[⟨r.m.count,e⟩])) O (applyD r.m e).1
  rw [<- zWW];exact Rb.ev h he
 exact h
theorem Rr.tick {m0:MchD} {H:List EntD} {r:RecD} {O:List OutD} (h:Rr m0 H r O):Rr m0 H (zAu r) O:=by
 unfold zAu;split
 ·exact h.offer (by decide)
 exact h
theorem zKX {m:MchD} (hm:mayD m=true) (h:zDT m≠true) (hc:m.count<=1152921504606846976):runsD m=true:=by
 unfold zDT at h;rw [ne_eq,Bool.not_eq_true] at h;simp only [Bool.or_eq_false_iff,decide_eq_false_iff_not] at h;obtain ⟨⟨h1,h2⟩,h3⟩:=h;unfold runsD;rw [hm,h1,h2];simp;omega
theorem Rr.go {m0:MchD} {H:List EntD} {r:RecD} {O:List OutD} (h:Rr m0 H r O) (hk:W32 r.clock) (hr:runsD r.m=true):Rr m0 H (goR r).1 (O++(goR r).2):=by
 have hs:stepD r.m r.clock=goD r.m r.clock:=by unfold stepD;rw [if_pos hr]
 unfold goR clkR Rr;rw [hs];cases hd:readsD r.m with
 | true =>
  simp only [if_true];rw [<- zWW];exact Rb.clk h hk hr hd
 | false =>
  simp only [zWa,if_false];rw [go_clk hr hd r.clock 0];exact Rb.go h hr hd
theorem Rr.run {m0:MchD} {H:List EntD}:∀ (n:Nat) {r:RecD} {k:Nat} {O:List OutD},Rr m0 H r O->OkR r k->mayD r.m=true->Rr m0 H (runR n r []).1 (O++(runR n r []).2)/\∀ o,runR n r o=((runR n r []).1,o++(runR n r []).2)
 | 0,r,k,O,h,_,_=>⟨by simpa [runR] using h,fun o=>by simp [runR]⟩
 | n+1,r,k,O,h,hR,hm=>by
  obtain ⟨h1,-⟩:=hR.tick;have h2:=h.tick;have hm2:mayD (zAu r).m=true:=by
   unfold zAu;split
   ·unfold zAV;split
    ·exact zBl hR.m hm _
    exact hm
   exact hm
  by_cases hs:zDT (zAu r).m=true
  ·refine ⟨?_,fun o=>?_⟩
   ·unfold runR;rw [if_pos hs,zWh];exact h2
   unfold runR;rw [if_pos hs,if_pos hs,zWh]
  have hr:=zKX hm2 hs (by have:=((zBf _).1 hm2).n;omega)
  have h3:=h2.go h1.c hr;have hm3:mayD (goR (zAu r)).1.m=true:=zE5 h1.m hm2 _;obtain ⟨a1,a2⟩:=Rr.run n h3 h1.go hm3;have e1:∀ o,runR (n+1) r o=runR n (goR (zAu r)).1 (o++(goR (zAu r)).2):=fun o=>by rw [runR,if_neg hs]
  refine ⟨?_,fun o=>?_⟩
  ·rw [e1,a2];simp only [zWj];rw [<- zWW];exact a1
  rw [e1,e1,a2,a2 ([]++_)];simp
theorem Rr.offers {m0:MchD} {H:List EntD} {O:List OutD}:∀ (l:List EvD) {r:RecD},Rr m0 H r O->(∀ e∈l,e.kind≠1)->Rr m0 H (l.foldl zAV r) O
 | [],_,h,_=>h
 | e::l,r,h,hl=>Rr.offers l (h.offer (hl e (zWM ..))) (fun x hx=>hl x (zWI _ hx))
theorem zEC:∀ (l:List EvD) {r:RecD} {k:Nat},OkR r k->(∀ e∈l,OkV e)->mayD r.m=true->mayD (l.foldl zAV r).m=true
 | [],_,_,_,_,h=>h
 | e::l,r,k,hR,hl,h=>by
  obtain ⟨h1,-⟩:=hR.offer (hl e (zWM ..));refine zEC l h1 (fun x hx=>hl x (zWI _ hx)) ?_
  unfold zAV;split
  ·exact zBl hR.m h _
  exact h
theorem adv_b {m0:MchD} {H:List EntD} {O:List OutD} {r:RecD} (h:Rb m0 H O r.m) (hl:r.log=[]) (hR:OkR r 0) (hm:mayD r.m=true) (hq:∀ e∈r.queue,e.kind≠1) {clock:Int} (hc:W32 clock) (steps:Int) :
  Rb m0 (H++(advD r steps clock).1.log) (O++(advD r steps clock).2) (advD r steps clock).1.m:=by
 have h0:Rr m0 H {r with clock:=max r.clock clock} O:=by
  show Rb m0 (H++r.log) O r.m
  rw [hl,zWh];exact h
 have hR0:OkR {r with clock:=max r.clock clock} 0:=⟨hR.m,zNm hR.c hc,hR.l,hR.q,hR.v,hR.t⟩
 have h1:Rr m0 H (zBc r clock) O:=Rr.offers r.queue h0 hq;have h2:mayD (zBc r clock).m=true:=zEC r.queue hR0 hR.v hm;obtain ⟨a1,-⟩:=Rr.run (limS steps) h1 (hR.queue hc) h2;unfold advD;rw [if_pos hm];exact a1
theorem zMG:∀ (l k:List OutD) (b:Int),heldOk b (l++k)=true->heldOk b l=true
 | [],_,_,_=>rfl
 | o::l,k,b,h=>by
  rw [zWd,heldOk,zWJ] at h;rw [heldOk,zWJ];exact ⟨h.1,zMG l k o.at_ h.2⟩
abbrev conO (o:OutD):Bool:=decide (o.kind=1)||decide (o.kind=2)
structure Oo (b c:Int) (O:List OutD):Prop where
 a:∀ o∈O,b<=o.at_/\o.at_<c
 f:∀ o∈O,conO o=true->fitsD o=true
 s:heldOk b (O.filter conO)=true
theorem zJ3:∀ (l:List OutD) (b:Int) (o:OutD),heldOk b l=true->fitsD o=true->b<=o.at_->(∀ x∈l,x.at_<=o.at_)->heldOk b (l++[o])=true
 | [],b,o,_,hf,hb,_=>by simp [heldOk,hf,hb]
 | x::l,b,o,h,hf,hb,hl=>by
  rw [heldOk,zWJ] at h;rw [zWd,heldOk,zWJ];exact ⟨h.1,zJ3 l x.at_ o h.2 hf (hl x (zWM ..)) (fun y hy=>hl y (zWI _ hy))⟩
theorem Oo.up {b c c':Int} {O:List OutD} (h:Oo b c O) (hc:c<=c'):Oo b c' O:=⟨fun o ho=>by have:=h.a o ho;omega,h.f,h.s⟩
theorem Oo.snoc {b c:Int} {O:List OutD} (h:Oo b c O) {o:OutD} (ho:o.at_=c) (hb:b<=c) (hf:conO o=true->fitsD o=true):Oo b (c+1) (O++[o]):=by
 refine ⟨fun x hx=>?_,fun x hx=>?_,?_⟩
 ·rcases List.mem_append.1 hx with q|q
  ·have:=h.a x q;omega
  rw [List.mem_singleton.1 q];omega
 ·rcases List.mem_append.1 hx with q|q
  ·exact h.f x q
  rw [List.mem_singleton.1 q];exact hf
 rw [List.filter_append];cases hc:conO o with
 | true =>
  rw [show [o].filter conO=[o] by simp [hc]]
  refine zJ3 _ b o h.s (hf hc) (by omega) (fun x hx=>?_)
  have:=h.a x (List.mem_filter.1 hx).1;omega
 | false=>rw [show [o].filter conO=[] by simp [hc],zWh];exact h.s
abbrev Og (t:Int) (o:OutD):Prop:=o.at_=t/\(conO o=true->fitsD o=true)
theorem zU5 (d:DskD) (l:List Int) {c:Int} (hc:c=1\/c=2) (t:Int):∀ o∈(zBQ d l c t).2,Og t o:=by
 intro o ho
 unfold zBQ at ho;split at ho
 ·simp at ho
 split at ho
 ·simp at ho
 rw [List.mem_singleton.1 ho];unfold zB9;rcases hc with rfl|rfl<;>exact ⟨by simp,by simp [conO]⟩
theorem zUT (d:DskD) (l:List Int) (p v t:Int):∀ o∈(zBI d l p v t).2,Og t o:=by
 unfold zBI
 (repeat' split)<;>first|(rename_i q;exact zU5 _ _ q _)|simp
theorem zVD (n:NicD) (l:List Int) (p v t:Int):∀ o∈(zAb n l p v t).2,Og t o:=by
 unfold zAb;split
 ·simp
 split
 ·simp
 split
 ·split
  ·simp only;split
   ·rename_i q;intro o ho;rw [List.mem_singleton.1 ho];refine ⟨rfl,fun _=>?_⟩
    have:((zBb l n.frame).take n.len.toNat).length<=128:=by rw [zWS];omega
    simp only [fitsD];simp;omega
   simp
  (repeat' split)<;>simp
 simp
theorem zQz (m:MchD) (p v t:Int):∀ o∈(zAL m p v t).2,Og t o:=by
 unfold zAL;split
 ·intro o ho
  rw [List.mem_singleton.1 ho];exact ⟨rfl,fun _=>by simp [fitsD]⟩
 (repeat' split)<;>first|exact zUT _ _ _ _ _|exact zVD _ _ _ _ _|simp
theorem go_con (m:MchD) (k:Int):∀ o∈(goD m k).2,Og m.count o:=by
 show ∀ o∈(zBH _ _ _ _).2,_
 unfold zBH
 (repeat' split)<;>first|exact zQz _ _ _ _|simp
theorem Tr.outs {u:Int} {m m':MchD} {l r:List EntD} {O:List OutD} (h:Tr u m l O m' r):∀ {b:Int} {P:List OutD},b<=m.count->Oo b m.count P->Oo b u (P++O):=by
 have hgo:∀ {m:MchD} {b:Int} {P:List OutD} (k:Int),runsD m=true->b<=m.count->Oo b m.count P->Oo b (m.count+1) (P++(goD m k).2):=by
  intro m b P k hr hb hP
  have h1:=go_con m k;have h2:(goD m k).2.length<=1:=by have:=zDu m k;unfold stepD at this;rwa [if_pos hr] at this
  generalize (goD m k).2=q at h1 h2
  match q,h1,h2 with
  | [],_,_=>rw [zWh];exact hP.up (by omega)
  | [o],h1,_=>exact hP.snoc (h1 o (List.mem_singleton.2 rfl)).1 hb (h1 o (List.mem_singleton.2 rfl)).2
  | a::b::q,_,h2=>simp at h2
 induction h with
 | nil h1 _=>intro b P hb hP;rw [zWh];rw [<- h1];exact hP
 | @ev m e l O m' r h1 h2 h3 ih=>intro b P hb hP;exact ih (by rw [zBP];exact hb) (by rw [zBP];exact hP)
 | @go m l O m' r h1 h2 h3 h4 h5 ih =>
  intro b P hb hP
  rw [<- zWW];exact ih (by rw [zDi];omega) (by rw [zDi];exact hgo 0 h2 hb hP)
 | @clk m k l O m' r h1 h2 h3 h4 h5 ih =>
  intro b P hb hP
  rw [<- zWW];exact ih (by rw [zDi];omega) (by rw [zDi];exact hgo k h3 hb hP)
theorem Rb.outs {m0 m:MchD} {H:List EntD} {O:List OutD} (h:Rb m0 H O m):Oo m0.count m.count O:=by
 obtain ⟨m1,rest,h1,-,-⟩:=h;have:=h1.outs (b:=m0.count) (P:=[]) (Int.le_refl _) ⟨by simp,by simp,rfl⟩
 simpa using this
theorem zIg:∀ (l:List OutD) (g:GateD),(∀ o∈l,g.acked<=o.at_)->l.foldl zCJ g={g with held:=g.held++l.filter conO}
 | [],g,_=>by simp
 | o::l,g,h=>by
  have h1:=h o (zWM ..);rw [List.foldl_cons];cases hc:conO o with
  | true =>
   have e:zCJ g o={g with held:=g.held++[o]}:=by
    unfold zCJ;simp [conO] at hc;rw [if_neg (by omega),if_pos h1]
   rw [e,zIg l {g with held:=g.held++[o]} (fun x hx=>h x (zWI _ hx)),List.filter_cons_of_pos hc]
   simp
  | false =>
   have e:zCJ g o=g:=by
    unfold zCJ;simp [conO] at hc;rw [if_pos hc]
   rw [e,zIg l _ (fun x hx=>h x (zWI _ hx)),List.filter_cons_of_neg (by simp [hc])]
theorem hold_b {b c:Int} {P Q:List OutD} {g:GateD} (hg:g.held=P.filter conO) (ha:g.acked=b) (h:Oo b c (P++Q)):(zDj g Q).1={g with held:=(P++Q).filter conO}:=by
 have h1:=zIg Q g (fun o ho=>by rw [ha];exact (h.a o (List.mem_append_right _ ho)).1)
 have h2:zCE (Q.foldl zCJ g)=true:=by
  rw [h1];unfold zCE;simp only;rw [hg,<- List.filter_append,ha];exact h.s
 unfold zDj;split
 ·rw [h1];simp only;rw [hg,List.filter_append]
 rename_i q;exfalso;apply q;refine ⟨?_,h2⟩;have hs:=h.s;unfold zCE;rw [hg,ha];rw [List.filter_append] at hs;exact zMG _ _ _ hs
def dueE (c:Int) (e:EntD):Bool:=decide (e.at_<=c)&&!decide (e.ev.kind=1)
def evP (p:RplD):RplD:={p with m:=appL p.m (p.log.takeWhile (dueE p.m.count)),log:=p.log.dropWhile (dueE p.m.count)}
def hdE (l:List EntD):EntD:=l.headD ⟨0,⟨0,0,[]⟩⟩
def zHf (p:RplD):Bool :=
 if readsD p.m=true then decide ((hdE p.log).ev.kind=1)&&decide ((hdE p.log).at_=p.m.count) else !(decide ((hdE p.log).ev.kind=1)&&decide ((hdE p.log).at_<=p.m.count))
def stpP (p:RplD):RplD × List OutD :=
 if readsD p.m=true then ({p with m:=(stepD p.m (hdE p.log).ev.n).1,log:=p.log.tail,clock:=uw ((hdE p.log).ev.n+1)},(stepD p.m (hdE p.log).ev.n).2)
 else ({p with m:=(stepD p.m 0).1},(stepD p.m 0).2)
def zE0:Nat->RplD->List OutD->RplD × List OutD
 | 0,p,o=>(p,o)
 | n+1,p,o=>if p.known<=p.m.count then (p,o) else if zDT (evP p).m=true\/zHf (evP p)=false then (evP p,o) else zE0 n (stpP (evP p)).1 (o++(stpP (evP p)).2)
def zCK (p:RplD) (steps:Int):RplD × List OutD:=if mayD p.m=true then zE0 (limS steps) p [] else (p,[])
theorem zHE (n:Nat) (p:RplD) (o:List OutD):zE0 (n+1) p o=if p.known<=p.m.count then (p,o) else if zDT (evP p).m=true\/zHf (evP p)=false then (evP p,o) else zE0 n (stpP (evP p)).1 (o++(stpP (evP p)).2):=rfl
theorem zI7:∀ (n:Nat) (p:RplD) (o:List OutD),zE0 n p o=((zE0 n p []).1,o++(zE0 n p []).2)
 | 0,p,o=>by simp [zE0]
 | n+1,p,o=>by
  unfold zE0;split
  ·simp
  split
  ·simp
  rw [zI7 n _ (o++_),zI7 n _ ([]++_)];simp
structure OkJ (p:RplD):Prop where
 m:OkM p.m
 e:∀ e∈p.log,OkT e
 k:L64 p.known
theorem zOM:∀ (l:List EntD) (m:MchD),OkM m->(∀ e∈l,OkT e)->OkM (appL m l)
 | [],m,h,_=>h
 | e::l,m,h,hl=>zOM l _ (zCx h (hl e (zWM ..)).n).1 (fun x hx=>hl x (zWI _ hx))
theorem zLq:∀ (l:List EntD) (m:MchD),OkM m->(∀ e∈l,OkT e)->mayD m=true->mayD (appL m l)=true
 | [],m,h,_,hm=>hm
 | e::l,m,h,hl,hm=>zLq l _ (zCx h (hl e (zWM ..)).n).1 (fun x hx=>hl x (zWI _ hx)) (zBl h hm e.ev)
theorem OkJ.ev {p:RplD} (h:OkJ p):OkJ (evP p) :=
 ⟨zOM _ _ h.m fun e he=>h.e e ((List.takeWhile_sublist _).subset he),fun e he=>h.e e ((List.dropWhile_sublist _).subset he),h.k⟩
theorem OkJ.may {p:RplD} (h:OkJ p) (hm:mayD p.m=true):mayD (evP p).m=true:=zLq _ _ h.m (fun e he=>h.e e ((List.takeWhile_sublist _).subset he)) hm
theorem zL8 {p:RplD} {e:EntD} {r:List EntD} (hl:p.log=e::r) (hd:dueE p.m.count e=true):evP p=evP {p with m:=(applyD p.m e.ev).1,log:=r}:=by
 unfold evP;simp only [hl,zBP];rw [List.takeWhile_cons_of_pos hd,List.dropWhile_cons_of_pos hd];rfl
theorem zGD {p:RplD} (h:∀ e r,p.log=e::r->dueE p.m.count e=false):evP p=p:=by
 obtain ⟨m,l,k,c⟩:=p;unfold evP;cases l with
 | nil=>rfl
 | cons e r =>
  have hd:=h e r rfl;simp only at hd ⊢;rw [List.takeWhile_cons_of_neg (by simp [hd]),List.dropWhile_cons_of_neg (by simp [hd])]
  rfl
theorem zQc {m:MchD} (h:runsD m=true):¬ zDT m=true:=by
 unfold runsD at h;unfold zDT;simp only [zWJ,zWl,decide_eq_true_eq] at h;obtain ⟨⟨⟨_,h1⟩,h2⟩,h3⟩:=h;have h4:¬ m.count=1152921504606846976:=by omega
 simp [h1,h2,h4]
theorem Tr.repl {u:Int} {m m':MchD} {l r:List EntD} {O:List OutD} (h:Tr u m l O m' r):∀ (n:Nat) (p:RplD),p.m=m->p.log=l->p.known=u->(u-m.count).toNat<=n->OkJ p->mayD m=true->∃ c,zE0 n p []=(⟨m',r,u,c⟩,O):=by
 induction h with
 | @nil m l h1 h2 =>
  intro n p hm hl hk hn hJ hmay
  refine ⟨p.clock,?_⟩;cases n with
  | zero=>unfold zE0;rw [<- hm,<- hl,<- hk]
  | succ n=>unfold zE0;rw [if_pos (by rw [hk,hm,h1];omega),<- hm,<- hl,<- hk]
 | @ev m e l O m' r h1 h2 h3 ih =>
  intro n p hm hl hk hn hJ hmay
  have hd:dueE m.count ⟨m.count,e⟩=true:=by simp [dueE,h2]
  have hE:OkT ⟨m.count,e⟩:=hJ.e _ (by rw [hl];exact zWM ..)
  have hM:OkM m:=by rw [<- hm];exact hJ.m
  obtain ⟨c,hc⟩:=ih n ⟨(applyD m e).1,l,p.known,p.clock⟩ rfl rfl hk (by rw [zBP];exact hn) ⟨(zCx hM hE.n).1,fun x hx=>hJ.e x (by rw [hl];exact zWI _ hx),hJ.k⟩ (zBl hM hmay e)
  refine ⟨c,?_⟩;rw [<- hc];have hev:evP p=evP ⟨(applyD m e).1,l,p.known,p.clock⟩:=by
   have:=zL8 hl (by rw [hm];exact hd)
   rw [hm] at this;exact this
  obtain ⟨n,rfl⟩:∃ q,n=q+1:=⟨n-1,by omega⟩
  rw [zHE,zHE,hev];simp only [hm,zBP];rw [if_neg (show ¬ p.known<=m.count by omega),if_neg (show ¬ p.known<=m.count by omega)]
 | @go m l O m' r h1 h2 h3 h4 h5 ih =>
  intro n p hm hl hk hn hJ hmay
  have hM:OkM m:=by rw [<- hm];exact hJ.m
  have hev:evP p=p:=zGD fun e r hx=>by
   rw [hl] at hx;have:=h4 e (by rw [hx];rfl)
   rw [hm];simp [dueE];omega
  obtain ⟨n,rfl⟩:∃ q,n=q+1:=⟨n-1,by omega⟩
  have hs:stepD m 0=goD m 0:=by unfold stepD;rw [if_pos h2]
  have hcnt:=zDi m 0;obtain ⟨c,hc⟩:=ih n ⟨(goD m 0).1,l,p.known,p.clock⟩ rfl rfl hk (by omega) ⟨(zNf hM h2 zAp).1,fun x hx=>hJ.e x (by rw [hl];exact hx),hJ.k⟩ ((zBf _).2 (zH8 hM h2 0))
  refine ⟨c,?_⟩;have hst:=zQc h2;have hp:zHf p=true:=by
   unfold zHf;rw [hm,hl,if_neg (by simp [h3])]
   cases l with
   | nil=>simp [hdE]
   | cons e l=>have:=h4 e rfl;simp [hdE];omega
  rw [zHE,if_neg (by rw [hk,hm];omega),hev,if_neg (by rw [hm];simp [hst,hp]),zI7]
  have e1:stpP p=(⟨(goD m 0).1,l,p.known,p.clock⟩,(goD m 0).2):=by
   unfold stpP;rw [hm,hl,if_neg (by simp [h3]),hs]
  rw [e1,hc];simp
 | @clk m k l O m' r h1 hk' h2 h3 h5 ih =>
  intro n p hm hl hk hn hJ hmay
  have hM:OkM m:=by rw [<- hm];exact hJ.m
  have hd:dueE m.count ⟨m.count,⟨1,k,[]⟩⟩=false:=by simp [dueE]
  have hev:evP p=p:=zGD fun e r hx=>by
   rw [hl] at hx;cases hx;rw [hm];exact hd
  obtain ⟨n,rfl⟩:∃ q,n=q+1:=⟨n-1,by omega⟩
  have hs:stepD m k=goD m k:=by unfold stepD;rw [if_pos h2]
  have hcnt:=zDi m k;obtain ⟨c,hc⟩:=ih n ⟨(goD m k).1,l,p.known,uw (k+1)⟩ rfl rfl hk (by omega) ⟨(zNf hM h2 hk').1,fun x hx=>hJ.e x (by rw [hl];exact zWI _ hx),hJ.k⟩ ((zBf _).2 (zH8 hM h2 k))
  refine ⟨c,?_⟩;have hst:=zQc h2;have hp:zHf p=true:=by
   unfold zHf;rw [hm,hl,if_pos h3];simp [hdE]
  rw [zHE,if_neg (by rw [hk,hm];omega),hev,if_neg (by rw [hm];simp [hst,hp]),zI7]
  have e1:stpP p=(⟨(goD m k).1,l,p.known,uw (k+1)⟩,(goD m k).2):=by
   unfold stpP;rw [hm,hl,if_pos h3];simp [hdE,hs]
  rw [e1,hc];simp
abbrev rplO (p:RplD):Ob:=⟨48,52,true,false,[p.row]⟩
def zTx (R:Nat) (Y:LoopD) (pp i1 i2 bid:Nat) (asg bod:List Oper):Prop :=
 ∀ (p:RplD) (e:EvD) (nx:Nat) (ob:List (Nat × Option Ob)),OkM p.m->W32 e.n->e.data.length<=100000->lookO ob R=some (rplO p)->R<nx->∀ K:Nat->List (Nat × Option Ob)->Prop,
  (∀ nx' ob',lookO ob' R=some (rplO {p with m:=(applyD p.m e).1})->nx<=nx'->(∀ q,q<nx->q≠R->lookO ob' q=lookO ob q)->K nx' ob')->rndV glo0 prog Y pp i1 i2 bid asg bod (.st e.row) nx ob K
theorem zUU (R a b:Nat) (p:RplD) (k:Int) (hM:OkM p.m) (hE:∀ e∈p.log,W32 e.ev.n/\e.ev.data.length<=100000) (hk:k=p.m.count) {nx:Nat} {ob:List (Nat × Option Ob)} (hR:lookO ob R=some (rplO p))
  (ha:lookO ob a=some ⟨241,1,true,false,[[.ptr R 52 0 49]]⟩) (hb:lookO ob b=some ⟨24,1,true,false,[[lv k]]⟩) (n1:a≠R) (n2:b≠R) (n3:R<nx) (n4:a<nx) (n5:b<nx)
  {l:Nat} {Y:LoopD} {pp i1 i2 bid:Nat} {asg bod:List Oper} (hY:LoopOk prog Y pp i1 i2 bid asg bod) (hr:zTx R Y pp i1 i2 bid asg bod) :
  @InlC (gly glo0 l Y) prog 185 [.yld l,.ptr a 1 0 0,.ptr b 1 0 0] nx ob fun r nx' ob'=>lookO ob' R=some (rplO (evP p))/\nx<=nx'/\∀ q,q<nx->q≠R->lookO ob' q=lookO ob q:=by
 letI:Glo:=gly glo0 l Y
 refine InlC.of func185 rfl (by kernel_rfl) rfl ?_
 simp only [ntmps185,St.startI,argT];refine au ?_;(repeat intro K hK);apply wr
 refine zAW (p.log.length+1) ?_;refine zA2 (fun c stt=>∃ (T:List (Nat × V)) (x:Nat) (o:List (Nat × Option Ob)) (z:RplD),stt=⟨46,T,x,o,nx⟩/\(lkT T 0=.yld l/\lkT T 1=.ptr a 1 0 0/\lkT T 2=.ptr b 1 0 0)/\z.log.length<=c/\evP z=evP p/\z.m.count=k/\OkM z.m/\(∀ e∈z.log,W32 e.ev.n/\e.ev.data.length<=100000)/\lookO o R=some (rplO z)/\nx<=x/\∀ q,q<nx->q≠R->lookO o q=lookO ob q) ?_ _ _ ⟨_,nx,ob,p,rfl,by simp [lkT],zWN _,rfl,hk.symm,hM,hE,hR,zWN _,fun q _ _=>rfl⟩
 rintro c stt ⟨T,x,o,z,rfl,⟨t0,t1,t2⟩,hc,hev,hzk,hzM,hzE,hzR,hx,hq⟩ Kl hKl
 refine zBS [(0,.yld l),(1,.ptr a 1 0 0),(2,.ptr b 1 0 0)] (by simp [t0,t1,t2]) ?_
 have hoa:lookO o a=some ⟨241,1,true,false,[[.ptr R 52 0 49]]⟩:=(hq a n4 n1).trans ha;have hobb:lookO o b=some ⟨24,1,true,false,[[lv k]]⟩:=(hq b n5 n2).trans hb;obtain ⟨zm,zl,zk,zc⟩:=z;simp only at hzk hzM hzE hc;cases zl with
 | nil =>
  have hfin:evP p=⟨zm,[],zk,zc⟩:=by rw [<- hev];rfl
  refine au ?_;(repeat intro K hK);apply wr
  refine zAG 25 [0,1,3,7,15,31,63,127,255,511,1023,2047,63,8191,16383,32767,65535,131071,262143,524287,1048575,2097151,4194303,8388607,16777215] [(1,([],[])),(1,([],[])),(1,([],[])),(1,([],[])),(1,([],[])),(1,([],[])),(7,([[],[0],[0,1],[0,1,2],[0,1,2,3],[0,1,2,3,4],[]],[])),(1,([],[])),(1,([],[])),(1,([],[])),(1,([],[])),(1,([],[])),(1,([],[])),(1,([],[])),(1,([],[])),(1,([],[])),(1,([],[])),(1,([],[])),(1,([],[]))] ?_;refine af1 (kX3 @hoa @hobb @hzR) ?_;(repeat intro K hK);apply wr
  refine zBM rfl ?_;(repeat intro K hK);apply wr
  first|exact hq|exact ⟨by rw [hzR,hfin],hx,hq⟩
 | cons e r =>
  have hl:=zAn r;have he:=hzE e (zWM ..);have hpos:(0:Int)<(ents r).length+1:=by omega
  have hcons:ents (e::r)=e.row::ents r:=rfl;obtain ⟨c,rfl⟩:∃ q,c=q+1:=⟨c-1,by simp at hc;omega⟩
  by_cases h1:e.at_<=k
  ·by_cases h2:e.ev.kind=1
   ·have hfin:evP p=⟨zm,e::r,zk,zc⟩:=by
     rw [<- hev];exact zGD fun e' r' hh=>by cases hh;simp [dueE,h2]
    have b1:decide (e.at_<=k)=true:=by simpa using h1
    have b2:(e.ev.kind != 1)=false:=by simp [h2]
    refine af ?_;(repeat intro K hK);apply wr
    refine zAG 25 [0,1,3,7,15,31,63,127,255,511,1023,2047,63,8191,16383,32767,65535,131071,262143,524287,1048575,2097151,4194303,8388607,16777215] [(1,([],[])),(1,([],[])),(1,([],[])),(1,([],[])),(1,([],[])),(1,([],[])),(7,([[],[0],[0,1],[0,1,2],[0,1,2,3],[0,1,2,3,4],[]],[])),(1,([],[])),(1,([],[])),(1,([],[])),(1,([],[])),(1,([],[])),(1,([],[])),(1,([],[])),(1,([],[])),(1,([],[])),(1,([],[])),(1,([],[])),(1,([],[]))] ?_;refine af1 (kX8 @hoa @hobb @hzR @hcons @hpos @b1 @b2 @h1) ?_;(repeat intro K hK);apply wr
    refine zAt @h2 rfl ?_;(repeat intro K hK);apply wr
    first|exact hq|exact ⟨by rw [hzR,hfin],hx,hq⟩
   have b1:decide (e.at_<=k)=true:=by simpa using h1
   have b2:(e.ev.kind != 1)=true:=by simp [h2]
   refine af ?_;(repeat intro K hK);apply wr
   refine zAG 25 [0,1,3,7,15,31,63,127,255,511,1023,2047,63,8191,16383,32767,65535,131071,262143,524287,1048575,2097151,4194303,8388607,16777215] [(1,([],[])),(1,([],[])),(1,([],[])),(1,([],[])),(1,([],[])),(1,([],[])),(7,([[],[0],[0,1],[0,1,2],[0,1,2,3],[0,1,2,3,4],[]],[])),(1,([],[])),(1,([],[])),(1,([],[])),(1,([],[])),(1,([],[])),(1,([],[])),(1,([],[])),(1,([],[])),(1,([],[])),(1,([],[])),(1,([],[])),(1,([],[]))] ?_;refine af1 (kX8 @hoa @hobb @hzR @hcons @hpos @b1 @b2 @h1) ?_;(repeat intro K hK);apply wr
   refine cT1 @h2 rfl ?_;have ne1:¬ a=x:=by omega
   have ne2:¬ b=x:=by omega
   have ne3:¬ R=x:=by omega
   have ne4:¬ x=R:=by omega
   refine af1 (kX8 @hoa @hobb @hzR @hcons @hpos @ne1 @ne2 @ne3) ?_;(repeat intro K hK);apply wr
   have hkx:Bx _:=⟨hK⟩;clear hK;refine zAG 7 [0,0,2,6,14,31,63] [(5,([[],[],[1],[1,2],[1,2,3]],[])),(1,([],[])),(1,([],[]))] ?_;refine af1 (kX9 @hoa @hobb @hzR @hcons @hpos @ne1 @ne2 @ne3 @ne4) ?_;(repeat intro K hK);apply wr
   refine hkx.out _ ?_;clear hkx;refine zOQ ?_;refine zKs (g:=glo0) (l:=l) (pre:=[_,_]) (post:=[_]) hY rfl rfl (by kernel_rfl) (by kernel_rfl) ?_
   simp [ne4];refine hr ⟨zm,r,zk,zc⟩ e.ev (x+1) _ hzM he.1 he.2 (by simp [lookO]) (by omega) _ fun nx' ob' g1 g2 g3=>?_
   have hcnt:=zBP zm e.ev;have hnew:evP ⟨(applyD zm e.ev).1,r,zk,zc⟩=evP p:=by
    rw [<- hev];exact (zL8 (p:=⟨zm,e::r,zk,zc⟩) rfl (by simp [dueE,hzk,h1,h2])).symm
   refine zBM rfl ?_;(repeat intro K hK);apply wr
   refine hKl c _ rfl ⟨_,nx',ob',⟨(applyD zm e.ev).1,r,zk,zc⟩,rfl,by simp [lkT],by simp at hc;simpa using hc,hnew,by rw [<- hzk];exact hcnt,(zCx hzM he.1).1,fun y hy=>hzE y (zWI _ hy),g1,by omega,fun q hq1 hq2=>?_⟩
   rw [g3 q (by omega) hq2]
   have hqx:¬ q=x:=by omega
   simp [lookO,hq2,hqx];exact hq q hq1 hq2
  have hfin:evP p=⟨zm,e::r,zk,zc⟩:=by
   rw [<- hev];exact zGD fun e' r' hh=>by cases hh;simp [dueE,hzk,h1]
  have b1:decide (e.at_<=k)=false:=by simpa using h1
  refine af ?_;(repeat intro K hK);apply wr
  refine zAG 25 [0,1,3,7,15,31,63,127,255,511,1023,2047,63,8191,16383,32767,65535,131071,262143,524287,1048575,2097151,4194303,8388607,16777215] [(1,([],[])),(1,([],[])),(1,([],[])),(1,([],[])),(1,([],[])),(1,([],[])),(7,([[],[0],[0,1],[0,1,2],[0,1,2,3],[0,1,2,3,4],[]],[])),(1,([],[])),(1,([],[])),(1,([],[])),(1,([],[])),(1,([],[])),(1,([],[])),(1,([],[])),(1,([],[])),(1,([],[])),(1,([],[])),(1,([],[])),(1,([],[]))] ?_;refine af1 (kX7 @hoa @hobb @hzR @hcons @hpos @b1 @h1) ?_;(repeat intro K hK);apply wr
  refine zBM rfl ?_;(repeat intro K hK);apply wr
  first|exact hq|exact ⟨by rw [hzR,hfin],hx,hq⟩
end Go.Proofs.YthjpcmecgjfilaaGreat
end
