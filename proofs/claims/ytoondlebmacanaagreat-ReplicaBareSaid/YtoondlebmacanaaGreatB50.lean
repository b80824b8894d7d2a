/- A part of the proof of ReplicaBare+ReplicaWindow. -/
import Derived.Test.YtoondlebmacanaaGreatB20
import Derived.Test.YtoondlebmacanaaGreatB31
import Derived.Test.YtoondlebmacanaaGreatB33
import Derived.Test.YtoondlebmacanaaGreatB34
import Derived.Test.YtoondlebmacanaaGreatB39
set_option linter.unusedSimpArgs false
set_option linter.unusedVariables false
set_option maxHeartbeats 16000000
set_option maxRecDepth 100000
section
namespace Go.Proofs.YtoondlebmacanaaGreat
open Go.Ab Go.RowKit
theorem zFz:∀ (l:List EntD) (i j:Nat) (a b:EntD),ordD l=true→l[i]? =some a→l[j]? =some b→i≤j→a.at_≤b.at_
 | [],i,j,a,b,_,ha,_,_=>by simp at ha
 | x::l,0,0,a,b,_,ha,hb,_=>by simp at ha hb;subst ha hb;omega
 | x::l,i+1,0,a,b,_,_,_,h=>by omega
 | x::l,i+1,j+1,a,b,ho,ha,hb,h=>by
  have ho2:ordD l=true:=by cases l with|nil=>rfl|cons y l=>rw [ordD,zWd] at ho;exact ho.2
  exact zFz l i j a b ho2 (by simpa using ha) (by simpa using hb) (by omega)
 | x::l,0,j+1,a,b,ho,ha,hb,h=>by
  simp at ha;subst ha;cases l with
  | nil=>simp at hb
  | cons y l =>
   rw [ordD,zWd] at ho;have h1:x.at_≤y.at_:=by
    have:=ho.1;simp at this;omega
   exact Int.le_trans h1 (zFz (y::l) 0 j y b ho.2 rfl (by simpa using hb) (by omega))
theorem zIb:∀ (l:List EntD) (n:Nat),ordD l=true→ordD (l.drop n)=true
 | l,0,h=>h
 | [],n+1,_=>rfl
 | x::l,n+1,h=>by
  have h2:ordD l=true:=by cases l with|nil=>rfl|cons y l=>rw [ordD,zWd] at h;exact h.2
  exact zIb l n h2
theorem zIc:∀ (l:List EntD) (n:Nat),ordD l=true→ordD (l.take n)=true
 | _,0,_=>by simp [ordD]
 | [],n+1,_=>by simp [ordD]
 | [x],n+1,_=>by simp [ordD]
 | x::y::l,1,_=>by simp [ordD]
 | x::y::l,n+2,h=>by
  rw [ordD,zWd] at h;have:=zIc (y::l) (n+1) h.2;simp only [List.take_succ_cons] at this ⊢;rw [ordD,zWd];exact ⟨h.1,this⟩
theorem zNM {c:Int} {l:List EntD} {x:EntD} (h:firstOk c l=true) (hx:c≤x.at_):firstOk c (l++[x])=true:=by
 cases l with
 | nil=>simpa [firstOk] using hx
 | cons e l=>simpa [firstOk] using h
theorem Tr.snoc {u:Int} {m m':MchD} {l r:List EntD} {O:List OutD} (h:Tr u m l O m' r) {x:EntD} (hx:u≤x.at_):Tr u m (l++[x]) O m' (r++[x]):=by
 induction h with
 | nil h1 h2=>exact .nil h1 (zNM h2 (by omega))
 | ev h1 h2 _ ih=>exact .ev h1 h2 ih
 | @go m l O m' r h1 h2 h3 h4 _ ih =>
  refine .go h1 h2 h3 (fun e he=>?_) ih
  cases l with
  | nil=>simp at he;subst he;omega
  | cons a l=>exact h4 e (by simpa using he)
 | clk h1 h2 h3 h4 _ ih=>exact .clk h1 h2 h3 h4 ih
theorem Tr.comp {u u':Int} {m m' m2:MchD} {l r r2:List EntD} {O O2:List OutD} (h:Tr u m l O m' r) (hu:u≤u') (h2:Tr u' m' r O2 m2 r2):Tr u' m l (O++O2) m2 r2:=by
 induction h with
 | nil _ _=>exact h2
 | ev h1 h3 _ ih=>exact .ev (by omega) h3 (ih h2)
 | go h1 h3 h4 h5 _ ih=>rw [zWu];exact .go (by omega) h3 h4 h5 (ih h2)
 | clk h1 h3 h4 h5 _ ih=>rw [zWu];exact .clk (by omega) h3 h4 h5 (ih h2)
abbrev appL (m:MchD) (l:List EntD):MchD:=l.foldl (fun x e=>(applyD x e.ev).1) m
theorem Tr.evs {u:Int}:∀ (l:List EntD) {m m':MchD} {l2 r:List EntD} {O:List OutD},m.count<u→(∀ e∈l,e.at_=m.count∧e.ev.kind≠1)→Tr u (appL m l) l2 O m' r→Tr u m (l++l2) O m' r
 | [],_,_,_,_,_,_,_,h=>h
 | e::l,m,m',l2,r,O,hc,he,h=>by
  obtain ⟨e1,e2⟩:=he e (zWf ..);have ih:=Tr.evs l (m:=(applyD m e.ev).1) (by rw [zCk];exact hc) (fun x hx=>by rw [zCk];exact he x (zWc _ hx)) h
  have hE:e=⟨m.count,e.ev⟩:=by cases e;simp only at e1;subst e1;rfl
  rw [hE];exact .ev hc e2 ih
def Rb (m0:MchD) (H:List EntD) (O:List OutD) (m:MchD):Prop :=
 ∃ m1 rest,Tr m.count m0 H O m1 rest∧appL m1 rest=m∧∀ e∈rest,e.at_=m.count∧e.ev.kind≠1
theorem Rb.nil (m:MchD):Rb m [] [] m:=⟨m,[],.nil rfl rfl,rfl,by simp⟩
theorem Rb.ev {m0 m:MchD} {H:List EntD} {O:List OutD} (h:Rb m0 H O m) {e:EvD} (he:e.kind≠1):Rb m0 (H++[⟨m.count,e⟩]) O (applyD m e).1:=by
 obtain ⟨m1,rest,h1,h2,h3⟩:=h;have hc:=zCk m e;refine ⟨m1,rest++[⟨m.count,e⟩],by rw [hc];exact h1.snoc (Int.le_refl _),?_,fun x hx=>?_⟩
 ·show List.foldl _ _ _=_
  rw [List.foldl_append];show (applyD (appL m1 rest) e).1=_
  rw [h2]
 rw [hc];rcases List.mem_append.1 hx with q|q
 ·exact h3 x q
 rw [List.mem_singleton.1 q];exact ⟨rfl,he⟩
theorem Rb.go {m0 m:MchD} {H:List EntD} {O:List OutD} (h:Rb m0 H O m) (hr:runsD m=true) (hd:readsD m=false):Rb m0 H (O++(goD m 0).2) (goD m 0).1:=by
 obtain ⟨m1,rest,h1,h2,h3⟩:=h;have hc:=zEt m 0;have hm1:=h1.end_cnt;refine ⟨(goD m 0).1,[],?_,rfl,by simp⟩
 rw [hc];refine h1.comp (by omega) ?_
 have:=Tr.evs (u:=m.count+1) rest (m:=m1) (m':=(goD m 0).1) (l2:=[]) (r:=[]) (O:=(goD m 0).2) (by omega) (fun e he=>by rw [hm1];exact h3 e he) (by
  rw [h2];have:=Tr.go (u:=m.count+1) (m:=m) (l:=[]) (O:=[]) (m':=(goD m 0).1) (r:=[]) (by omega) hr hd (by simp) (.nil (by omega) rfl)
  rwa [List.append_nil] at this)
 rwa [List.append_nil] at this
theorem Rb.clk {m0 m:MchD} {H:List EntD} {O:List OutD} (h:Rb m0 H O m) {k:Int} (hk:W32 k) (hr:runsD m=true) (hd:readsD m=true):Rb m0 (H++[⟨m.count,⟨1,k,[]⟩⟩]) (O++(goD m k).2) (goD m k).1:=by
 obtain ⟨m1,rest,h1,h2,h3⟩:=h;have hc:=zEt m k;have hm1:=h1.end_cnt;refine ⟨(goD m k).1,[],?_,rfl,by simp⟩
 rw [hc];refine (h1.snoc (x:=⟨m.count,⟨1,k,[]⟩⟩) (Int.le_refl _)).comp (by omega) ?_
 refine Tr.evs (u:=m.count+1) rest (m:=m1) (by omega) (fun e he=>by rw [hm1];exact h3 e he) ?_
 rw [h2];have:=Tr.clk (u:=m.count+1) (m:=m) (k:=k) (l:=[]) (O:=[]) (m':=(goD m k).1) (r:=[]) (by omega) hk hr hd (.nil (by omega) rfl)
 rwa [List.append_nil] at this
theorem zSe (m:MchD) (p k k':Int) (h:p≠2):zAS m p k=zAS m p k':=by
 unfold zAS
 (repeat' split)<;>first|rfl|(exfalso;omega)
theorem go_clk {m:MchD} (hr:runsD m=true) (hd:readsD m=false) (k k':Int):goD m k=goD m k':=by
 have h:¬ ((effD m).kind=1∧(effD m).port=2):=by
  intro q
  unfold readsD at hd;rw [hr,q.1,q.2] at hd;simp at hd
 have hE:zBQ (zCC m) (effD m) k m.count=zBQ (zCC m) (effD m) k' m.count:=by
  unfold zBQ;by_cases h1:(effD m).kind=1
  ·rw [if_pos h1,if_pos h1,zSe _ _ k k' (fun z=>h ⟨h1,z⟩)]
  rw [if_neg h1,if_neg h1]
 unfold goD;rw [hE]
def Rr (m0:MchD) (H:List EntD) (r:RecD) (O:List OutD):Prop:=Rb m0 (H++r.log) O r.m
theorem Rr.offer {m0:MchD} {H:List EntD} {r:RecD} {O:List OutD} (h:Rr m0 H r O) {e:EvD} (he:e.kind≠1):Rr m0 H (zAf r e) O:=by
 unfold zAf;split
 ·show Rb m0 (H++(r.log++[⟨r.m.count,e⟩])) O (applyD r.m e).1
  rw [← zWu];exact Rb.ev h he
 exact h
theorem Rr.tick {m0:MchD} {H:List EntD} {r:RecD} {O:List OutD} (h:Rr m0 H r O):Rr m0 H (zBH r) O:=by
 unfold zBH;split
 ·exact h.offer (by decide)
 exact h
theorem zKA {m:MchD} (hm:mayD m=true) (h:zG3 m≠true) (hc:m.count≤1152921504606846976):runsD m=true:=by
 unfold zG3 at h;rw [ne_eq,Bool.not_eq_true] at h;simp only [Bool.or_eq_false_iff,decide_eq_false_iff_not] at h;obtain ⟨⟨h1,h2⟩,h3⟩:=h;unfold runsD;rw [hm,h1,h2];simp;omega
theorem Rr.go {m0:MchD} {H:List EntD} {r:RecD} {O:List OutD} (h:Rr m0 H r O) (hk:W32 r.clock) (hr:runsD r.m=true):Rr m0 H (goR r).1 (O++(goR r).2):=by
 have hs:stepD r.m r.clock=goD r.m r.clock:=by unfold stepD;rw [if_pos hr]
 unfold goR clkR Rr;rw [hs];cases hd:readsD r.m with
 | true =>
  simp only [if_true];rw [← zWu];exact Rb.clk h hk hr hd
 | false =>
  simp only [zWv,if_false];rw [go_clk hr hd r.clock 0];exact Rb.go h hr hd
theorem Rr.run {m0:MchD} {H:List EntD}:∀ (n:Nat) {r:RecD} {k:Nat} {O:List OutD},Rr m0 H r O→OkR r k→mayD r.m=true→Rr m0 H (runR n r []).1 (O++(runR n r []).2)∧∀ o,runR n r o=((runR n r []).1,o++(runR n r []).2)
 | 0,r,k,O,h,_,_=>⟨by simpa [runR] using h,fun o=>by simp [runR]⟩
 | n+1,r,k,O,h,hR,hm=>by
  obtain ⟨h1,-⟩:=hR.tick;have h2:=h.tick;have hm2:mayD (zBH r).m=true:=by
   unfold zBH;split
   ·unfold zAf;split
    ·exact zCl hR.m hm _
    exact hm
   exact hm
  by_cases hs:zG3 (zBH r).m=true
  ·refine ⟨?_,fun o=>?_⟩
   ·unfold runR;rw [if_pos hs,List.append_nil];exact h2
   unfold runR;rw [if_pos hs,if_pos hs,List.append_nil]
  have hr:=zKA hm2 hs (by have:=((zBx _).1 hm2).n;omega)
  have h3:=h2.go h1.c hr;have hm3:mayD (goR (zBH r)).1.m=true:=zGT h1.m hm2 _;obtain ⟨a1,a2⟩:=Rr.run n h3 h1.go hm3;have e1:∀ o,runR (n+1) r o=runR n (goR (zBH r)).1 (o++(goR (zBH r)).2):=fun o=>by rw [runR,if_neg hs]
  refine ⟨?_,fun o=>?_⟩
  ·rw [e1,a2];simp only [List.nil_append];rw [← zWu];exact a1
  rw [e1,e1,a2,a2 ([]++_)];simp
theorem Rr.offers {m0:MchD} {H:List EntD} {O:List OutD}:∀ (l:List EvD) {r:RecD},Rr m0 H r O→(∀ e∈l,e.kind≠1)→Rr m0 H (l.foldl zAf r) O
 | [],_,h,_=>h
 | e::l,r,h,hl=>Rr.offers l (h.offer (hl e (zWf ..))) (fun x hx=>hl x (zWc _ hx))
theorem zEN:∀ (l:List EvD) {r:RecD} {k:Nat},OkR r k→(∀ e∈l,OkV e)→mayD r.m=true→mayD (l.foldl zAf r).m=true
 | [],_,_,_,_,h=>h
 | e::l,r,k,hR,hl,h=>by
  obtain ⟨h1,-⟩:=hR.offer (hl e (zWf ..));refine zEN l h1 (fun x hx=>hl x (zWc _ hx)) ?_
  unfold zAf;split
  ·exact zCl hR.m h _
  exact h
theorem adv_b {m0:MchD} {H:List EntD} {O:List OutD} {r:RecD} (h:Rb m0 H O r.m) (hl:r.log=[]) (hR:OkR r 0) (hm:mayD r.m=true) (hq:∀ e∈r.queue,e.kind≠1) {clock:Int} (hc:W32 clock) (steps:Int) :
  Rb m0 (H++(advD r steps clock).1.log) (O++(advD r steps clock).2) (advD r steps clock).1.m:=by
 have h0:Rr m0 H {r with clock:=max r.clock clock} O:=by
  show Rb m0 (H++r.log) O r.m
  rw [hl,List.append_nil];exact h
 have hR0:OkR {r with clock:=max r.clock clock} 0:=⟨hR.m,zPV hR.c hc,hR.l,hR.q,hR.v,hR.t⟩
 have h1:Rr m0 H (zCD r clock) O:=Rr.offers r.queue h0 hq;have h2:mayD (zCD r clock).m=true:=zEN r.queue hR0 hR.v hm;obtain ⟨a1,-⟩:=Rr.run (limS steps) h1 (hR.queue hc) h2;unfold advD;rw [if_pos hm];exact a1
theorem zLu:∀ (l k:List OutD) (b:Int),heldOk b (l++k)=true→heldOk b l=true
 | [],_,_,_=>rfl
 | o::l,k,b,h=>by
  rw [zWz,heldOk,zWd] at h;rw [heldOk,zWd];exact ⟨h.1,zLu l k o.at_ h.2⟩
abbrev conO (o:OutD):Bool:=decide (o.kind=1)||decide (o.kind=2)
structure Oo (b c:Int) (O:List OutD):Prop where
 a:∀ o∈O,b≤o.at_∧o.at_<c
 f:∀ o∈O,conO o=true→fitsD o=true
 s:heldOk b (O.filter conO)=true
theorem zJe:∀ (l:List OutD) (b:Int) (o:OutD),heldOk b l=true→fitsD o=true→b≤o.at_→(∀ x∈l,x.at_≤o.at_)→heldOk b (l++[o])=true
 | [],b,o,_,hf,hb,_=>by simp [heldOk,hf,hb]
 | x::l,b,o,h,hf,hb,hl=>by
  rw [heldOk,zWd] at h;rw [zWz,heldOk,zWd];exact ⟨h.1,zJe l x.at_ o h.2 hf (hl x (zWf ..)) (fun y hy=>hl y (zWc _ hy))⟩
theorem Oo.up {b c c':Int} {O:List OutD} (h:Oo b c O) (hc:c≤c'):Oo b c' O:=⟨fun o ho=>by have:=h.a o ho;omega,h.f,h.s⟩
theorem Oo.snoc {b c:Int} {O:List OutD} (h:Oo b c O) {o:OutD} (ho:o.at_=c) (hb:b≤c) (hf:conO o=true→fitsD o=true):Oo b (c+1) (O++[o]):=by
 refine ⟨fun x hx=>?_,fun x hx=>?_,?_⟩
 ·rcases List.mem_append.1 hx with q|q
  ·have:=h.a x q;omega
  rw [List.mem_singleton.1 q];omega
 ·rcases List.mem_append.1 hx with q|q
  ·exact h.f x q
  rw [List.mem_singleton.1 q];exact hf
 rw [List.filter_append];cases hc:conO o with
 | true =>
  rw [show [o].filter conO=[o] by simp [hc]]
  refine zJe _ b o h.s (hf hc) (by omega) (fun x hx=>?_)
  have:=h.a x (List.mem_filter.1 hx).1;omega
 | false=>rw [show [o].filter conO=[] by simp [hc],List.append_nil];exact h.s
abbrev Og (t:Int) (o:OutD):Prop:=o.at_=t∧(conO o=true→fitsD o=true)
theorem zVG (d:DskD) (l:List Int) {c:Int} (hc:c=1∨c=2) (t:Int):∀ o∈(zAo d l c t).2,Og t o:=by
 intro o ho
 unfold zAo at ho;split at ho
 ·simp at ho
 split at ho
 ·simp at ho
 rw [List.mem_singleton.1 ho];unfold zA3;rcases hc with rfl|rfl<;>exact ⟨by simp,by simp [conO]⟩
theorem zUf (d:DskD) (l:List Int) (p v t:Int):∀ o∈(zAn d l p v t).2,Og t o:=by
 unfold zAn
 (repeat' split)<;>first|(rename_i q;exact zVG _ _ q _)|simp
theorem zVQ (n:NicD) (l:List Int) (p v t:Int):∀ o∈(zAd n l p v t).2,Og t o:=by
 unfold zAd;split
 ·simp
 split
 ·simp
 split
 ·split
  ·simp only;split
   ·rename_i q;intro o ho;rw [List.mem_singleton.1 ho];refine ⟨rfl,fun _=>?_⟩
    have:((zBS l n.frame).take n.len.toNat).length≤128:=by rw [zWw];omega
    simp only [fitsD];simp;omega
   simp
  (repeat' split)<;>simp
 simp
theorem zQ3 (m:MchD) (p v t:Int):∀ o∈(zAJ m p v t).2,Og t o:=by
 unfold zAJ;split
 ·intro o ho
  rw [List.mem_singleton.1 ho];exact ⟨rfl,fun _=>by simp [fitsD]⟩
 (repeat' split)<;>first|exact zUf _ _ _ _ _|exact zVQ _ _ _ _ _|simp
theorem go_con (m:MchD) (k:Int):∀ o∈(goD m k).2,Og m.count o:=by
 show ∀ o∈(zBQ _ _ _ _).2,_
 unfold zBQ
 (repeat' split)<;>first|exact zQ3 _ _ _ _|simp
theorem Tr.outs {u:Int} {m m':MchD} {l r:List EntD} {O:List OutD} (h:Tr u m l O m' r):∀ {b:Int} {P:List OutD},b≤m.count→Oo b m.count P→Oo b u (P++O):=by
 have hgo:∀ {m:MchD} {b:Int} {P:List OutD} (k:Int),runsD m=true→b≤m.count→Oo b m.count P→Oo b (m.count+1) (P++(goD m k).2):=by
  intro m b P k hr hb hP
  have h1:=go_con m k;have h2:(goD m k).2.length≤1:=by have:=zDN m k;unfold stepD at this;rwa [if_pos hr] at this
  generalize (goD m k).2=q at h1 h2
  match q,h1,h2 with
  | [],_,_=>rw [List.append_nil];exact hP.up (by omega)
  | [o],h1,_=>exact hP.snoc (h1 o (List.mem_singleton.2 rfl)).1 hb (h1 o (List.mem_singleton.2 rfl)).2
  | a::b::q,_,h2=>simp at h2
 induction h with
 | nil h1 _=>intro b P hb hP;rw [List.append_nil];rw [← h1];exact hP
 | @ev m e l O m' r h1 h2 h3 ih=>intro b P hb hP;exact ih (by rw [zCk];exact hb) (by rw [zCk];exact hP)
 | @go m l O m' r h1 h2 h3 h4 h5 ih =>
  intro b P hb hP
  rw [← zWu];exact ih (by rw [zEt];omega) (by rw [zEt];exact hgo 0 h2 hb hP)
 | @clk m k l O m' r h1 h2 h3 h4 h5 ih =>
  intro b P hb hP
  rw [← zWu];exact ih (by rw [zEt];omega) (by rw [zEt];exact hgo k h3 hb hP)
theorem Rb.outs {m0 m:MchD} {H:List EntD} {O:List OutD} (h:Rb m0 H O m):Oo m0.count m.count O:=by
 obtain ⟨m1,rest,h1,-,-⟩:=h;have:=h1.outs (b:=m0.count) (P:=[]) (Int.le_refl _) ⟨by simp,by simp,rfl⟩
 simpa using this
theorem zIH:∀ (l:List OutD) (g:GateD),(∀ o∈l,g.acked≤o.at_)→l.foldl zCR g={g with held:=g.held++l.filter conO}
 | [],g,_=>by simp
 | o::l,g,h=>by
  have h1:=h o (zWf ..);rw [List.foldl_cons];cases hc:conO o with
  | true =>
   have e:zCR g o={g with held:=g.held++[o]}:=by
    unfold zCR;simp [conO] at hc;rw [if_neg (by omega),if_pos h1]
   rw [e,zIH l {g with held:=g.held++[o]} (fun x hx=>h x (zWc _ hx)),List.filter_cons_of_pos hc]
   simp
  | false =>
   have e:zCR g o=g:=by
    unfold zCR;simp [conO] at hc;rw [if_pos hc]
   rw [e,zIH l _ (fun x hx=>h x (zWc _ hx)),List.filter_cons_of_neg (by simp [hc])]
theorem hold_b {b c:Int} {P Q:List OutD} {g:GateD} (hg:g.held=P.filter conO) (ha:g.acked=b) (h:Oo b c (P++Q)):(zF6 g Q).1={g with held:=(P++Q).filter conO}:=by
 have h1:=zIH Q g (fun o ho=>by rw [ha];exact (h.a o (List.mem_append_right _ ho)).1)
 have h2:zCO (Q.foldl zCR g)=true:=by
  rw [h1];unfold zCO;simp only;rw [hg,← List.filter_append,ha];exact h.s
 unfold zF6;split
 ·rw [h1];simp only;rw [hg,List.filter_append]
 rename_i q;exfalso;apply q;refine ⟨?_,h2⟩;have hs:=h.s;unfold zCO;rw [hg,ha];rw [List.filter_append] at hs;exact zLu _ _ _ hs
def cntP (p:Int) (l:List EntD):Nat:=(l.filter fun e=>decide (e.at_=p)).length
theorem zGE (p:Int) (a b:List EntD):cntP p (a++b)=cntP p a+cntP p b:=by simp [cntP]
theorem zH7 (p:Int) (l:List EntD):cntP p l≤l.length:=List.length_filter_le _ _
theorem zKX {p:Int} {l:List EntD} (h:∀ e∈l,e.at_≠p):cntP p l=0:=by
 unfold cntP;rw [List.length_eq_zero_iff,List.filter_eq_nil_iff];intro e he;simpa using h e he
theorem zJr (r:RecD) (e:EvD):∃ E,(zAf r e).log=r.log++E∧E.length≤1∧∀ x∈E,x.at_=r.m.count:=by
 unfold zAf;split
 ·exact ⟨[⟨r.m.count,e⟩],rfl,by simp,by simp⟩
 exact ⟨[],by simp,by simp,by simp⟩
theorem zTN (r:RecD):∃ E,(zBH r).log=r.log++E∧E.length≤1∧∀ x∈E,x.at_=r.m.count:=by
 unfold zBH;split
 ·exact zJr _ _
 exact ⟨[],by simp,by simp,by simp⟩
theorem go_new (r:RecD):∃ E,(goR r).1.log=r.log++E∧E.length≤1∧∀ x∈E,x.at_=r.m.count:=by
 show ∃ E,(clkR r).log=_∧_
 unfold clkR;split
 ·exact ⟨[⟨r.m.count,⟨1,r.clock,[]⟩⟩],rfl,by simp,by simp⟩
 exact ⟨[],by simp,by simp,by simp⟩
theorem zMr {r:RecD} {k:Nat} (hR:OkR r k) (hm:mayD r.m=true):mayD (zBH r).m=true:=by
 unfold zBH;split
 ·unfold zAf;split
  ·exact zCl hR.m hm _
  exact hm
 exact hm
theorem zQY:∀ (n:Nat) {r:RecD} {k:Nat} (o:List OutD),OkR r k→mayD r.m=true→∃ E,(runR n r o).1.log=r.log++E∧(∀ x∈E,r.m.count≤x.at_)∧∀ p,cntP p E≤2
 | 0,r,k,o,_,_=>⟨[],by simp [runR],by simp,by simp [cntP]⟩
 | n+1,r,k,o,hR,hm=>by
  obtain ⟨h1,-,-,hcT⟩:=hR.tick;have hm2:=zMr hR hm;obtain ⟨E1,a1,a2,a3⟩:=zTN r;by_cases hs:zG3 (zBH r).m=true
  ·refine ⟨E1,by rw [runR,if_pos hs];exact a1,fun x hx=>by rw [a3 x hx];omega,fun p=>Nat.le_trans (zH7 p E1) (by omega)⟩
  have hr:=zKA hm2 hs (by have:=((zBx _).1 hm2).n;omega)
  have hm3:mayD (goR (zBH r)).1.m=true:=zGT h1.m hm2 _;obtain ⟨E2,b1,b2,b3⟩:=go_new (zBH r);obtain ⟨E3,c1,c2,c3⟩:=zQY n (o++(goR (zBH r)).2) h1.go hm3;have hcg:(goR (zBH r)).1.m.count=r.m.count+1:=by
   show (stepD _ _).1.count=_
   rw [zMk,if_pos hr,hcT]
  refine ⟨E1++(E2++E3),by rw [runR,if_neg hs,c1,b1,a1];simp,fun x hx=>?_,fun p=>?_⟩
  ·rcases List.mem_append.1 hx with q|q
   ·rw [a3 x q];omega
   rcases List.mem_append.1 q with q|q
   ·rw [b3 x q,hcT];omega
   have:=c2 x q;omega
  rw [zGE,zGE];by_cases hp:p=r.m.count
  ·have h0:cntP p E3=0:=zKX (fun e he=>by have:=c2 e he;omega)
   have h1:=zH7 p E1;have h2:=zH7 p E2;omega
  have h0:cntP p E1=0:=zKX (fun e he=>by rw [a3 e he];omega)
  have h1:cntP p E2=0:=zKX (fun e he=>by rw [b3 e he,hcT];omega)
  have h2:=c3 p;omega
theorem zHr:∀ (l:List EvD) (r:RecD),(∀ e∈l,OkV e)→∀ {k:Nat},OkR r k→∃ E,(l.foldl zAf r).log=r.log++E∧E.length≤l.length
 | [],r,_,_,_=>⟨[],by simp,by simp⟩
 | e::l,r,hl,k,hR=>by
  obtain ⟨E1,a1,a2,-⟩:=zJr r e;obtain ⟨h1,-⟩:=hR.offer (hl e (zWf ..));obtain ⟨E2,b1,b2⟩:=zHr l (zAf r e) (fun x hx=>hl x (zWc _ hx)) h1
  exact ⟨E1++E2,by rw [List.foldl_cons,b1,a1];simp,by simp;omega⟩
theorem zUG {r:RecD} (hR:OkR r 0) (hm:mayD r.m=true) (hl:r.log=[]) {clock:Int} (hc:W32 clock) (steps:Int) (p:Int):cntP p (advD r steps clock).1.log≤r.queue.length+2:=by
 have hR0:OkR {r with clock:=max r.clock clock} 0:=⟨hR.m,zPV hR.c hc,hR.l,hR.q,hR.v,hR.t⟩
 have h2:mayD (zCD r clock).m=true:=zEN r.queue hR0 hR.v hm;obtain ⟨E1,a1,a2⟩:=zHr r.queue {r with clock:=max r.clock clock} hR.v hR0
 obtain ⟨E2,b1,-,b3⟩:=zQY (limS steps) [] (hR.queue hc) h2;have e1:(zCD r clock).log=E1:=by
  show (r.queue.foldl zAf _).log=_
  rw [a1];show r.log++E1=E1
  rw [hl,List.nil_append]
 unfold advD;rw [if_pos hm,b1,e1,zGE];have:=zH7 p E1;have:=b3 p;omega
theorem spr_of:∀ {l:List EntD},ordD l=true→(∀ p,cntP p l≤400)→∀ k a b,l[k]? =some a→l[k+400]? =some b→a.at_<b.at_:=by
 intro l ho hc k a b ha hb
 have h1:=zFz l k (k+400) a b ho ha hb (by omega)
 rcases Int.lt_or_eq_of_le h1 with q|q
 ·exact q
 exfalso
 have hlt:k+400<l.length:=by
  rcases Nat.lt_or_ge (k+400) l.length with z|z
  ·exact z
  rw [zWy z] at hb;cases hb
 have hsub:((l.drop k).take 401).Sublist l:=(List.take_sublist _ _).trans (List.drop_sublist _ _);have h3:cntP a.at_ ((l.drop k).take 401)≤cntP a.at_ l:=(hsub.filter _).length_le;have h4:cntP a.at_ ((l.drop k).take 401)=401:=by
  unfold cntP;rw [List.filter_eq_self.2]
  ·rw [zWw,zW3];omega
  intro e he
  obtain ⟨j,hj⟩:=List.mem_iff_getElem?.1 he;rw [zWs] at hj;split at hj
  ·rename_i hj4;rw [zW0] at hj;have g1:=zFz l k (k+j) a e ho ha hj (by omega)
   have g2:=zFz l (k+j) (k+400) e b ho hj hb (by omega)
   simp;omega
  cases hj
 have:=hc a.at_;omega
theorem Tr.ord {u:Int} {m m':MchD} {l r:List EntD} {O:List OutD} (h:Tr u m l O m' r):ordD r=true→ordD l=true:=by
 have cons:∀ (c:Int) (e:EvD) (l:List EntD),firstOk c l=true→ordD l=true→(e.kind=1→firstOk (c+1) l=true)→ordD (⟨c,e⟩::l)=true:=by
  intro c e l h1 h2 h3
  cases l with
  | nil=>rfl
  | cons b l =>
   rw [ordD,h2,Bool.and_true];simp only [firstOk,decide_eq_true_eq] at h1;simp only [Bool.not_eq_true',Bool.or_eq_false_iff,Bool.and_eq_false_iff,decide_eq_false_iff_not];refine ⟨by omega,?_⟩
   by_cases z:e.kind=1
   ·have:=h3 z;simp only [firstOk,decide_eq_true_eq] at this;exact .inl (by omega)
   exact .inr z
 induction h with
 | nil _ _=>exact id
 | @ev m e l O m' r h1 h2 h3 ih =>
  intro ho
  refine cons _ _ _ ?_ (ih ho) (fun z=>absurd z h2)
  have:=h3.first
  rwa [zCk] at this
 | go _ _ _ _ _ ih=>exact ih
 | @clk m k l O m' r h1 h2 h3 h4 h5 ih =>
  intro ho
  have h6:=h5.first
  rw [zEt] at h6;refine cons _ _ _ ?_ (ih ho) (fun _=>h6)
  cases l with
  | nil=>rfl
  | cons b l=>simp only [firstOk,decide_eq_true_eq] at h6 ⊢;omega
theorem zMV {c:Int}:∀ l:List EntD,(∀ e∈l,e.at_=c∧e.ev.kind≠1)→ordD l=true
 | [],_=>rfl
 | [_],_=>rfl
 | a::b::l,h=>by
  rw [ordD,zMV (b::l) (fun e he=>h e (zWc _ he)),Bool.and_true]
  have ha:=h a (zWf ..);have hb:=h b (zWc _ (zWf ..));simp only [Bool.not_eq_true',Bool.or_eq_false_iff,Bool.and_eq_false_iff,decide_eq_false_iff_not];exact ⟨by omega,.inr ha.2⟩
theorem Rb.ord {m0 m:MchD} {H:List EntD} {O:List OutD} (h:Rb m0 H O m):ordD H=true:=by
 obtain ⟨m1,rest,h1,-,h3⟩:=h;exact h1.ord (zMV rest h3)
theorem zQX:∀ (n:Nat) {r:RecD} {k:Nat} (o:List OutD),OkR r k→mayD r.m=true→mayD (runR n r o).1.m=true
 | 0,_,_,_,_,h=>h
 | n+1,r,k,o,hR,hm=>by
  obtain ⟨h1,-⟩:=hR.tick;have hm2:=zMr hR hm;unfold runR;split
  ·exact hm2
  exact zQX n _ h1.go (zGT h1.m hm2 _)
theorem zUF {r:RecD} (hR:OkR r 0) (hm:mayD r.m=true) {clock:Int} (hc:W32 clock) (steps:Int):mayD (advD r steps clock).1.m=true:=by
 have hR0:OkR {r with clock:=max r.clock clock} 0:=⟨hR.m,zPV hR.c hc,hR.l,hR.q,hR.v,hR.t⟩
 have h2:mayD (zCD r clock).m=true:=zEN r.queue hR0 hR.v hm;unfold advD;rw [if_pos hm];exact zQX _ _ (hR.queue hc) h2
theorem adv_q0 {r:RecD} (hm:mayD r.m=true) (steps clock:Int):(advD r steps clock).1.queue=[]:=by
 unfold advD;rw [if_pos hm,zES];rfl
def LogV (r:RecD):Prop:=∀ x∈r.log,OkV x.ev
theorem LogV.snoc {l:List EntD} (h:∀ x∈l,OkV x.ev) {c:Int} {e:EvD} (he:OkV e):∀ x∈l++[⟨c,e⟩],OkV x.ev:=by
 intro x hx
 rcases List.mem_append.1 hx with q|q
 ·exact h x q
 rw [List.mem_singleton.1 q];exact he
theorem LogV.offer {r:RecD} (h:LogV r) {e:EvD} (he:OkV e):LogV (zAf r e):=by
 unfold zAf;split
 ·exact LogV.snoc h he
 exact h
theorem LogV.tick {r:RecD} (h:LogV r):LogV (zBH r):=by
 unfold zBH;split
 ·exact h.offer timV
 exact h
theorem LogV.go {r:RecD} (h:LogV r) (hc:W32 r.clock):LogV (goR r).1:=by
 show ∀ x∈(clkR r).log,_
 unfold clkR;split
 ·exact LogV.snoc h ⟨hc,by simp⟩
 exact h
theorem LogV.run:∀ (n:Nat) {r:RecD} {k:Nat} (o:List OutD),LogV r→OkR r k→LogV (runR n r o).1
 | 0,_,_,_,h,_=>h
 | n+1,r,k,o,h,hR=>by
  obtain ⟨h1,-⟩:=hR.tick;unfold runR;split
  ·exact h.tick
  exact LogV.run n _ (h.tick.go h1.c) h1.go
theorem LogV.offers:∀ (l:List EvD) {r:RecD},LogV r→(∀ e∈l,OkV e)→LogV (l.foldl zAf r)
 | [],_,h,_=>h
 | e::l,r,h,hl=>LogV.offers l (h.offer (hl e (zWf ..))) (fun x hx=>hl x (zWc _ hx))
theorem adv_v {r:RecD} (hR:OkR r 0) (hm:mayD r.m=true) (hl:r.log=[]) {clock:Int} (hc:W32 clock) (steps:Int):LogV (advD r steps clock).1:=by
 have h0:LogV {r with clock:=max r.clock clock}:=by
  show ∀ x∈r.log,_
  rw [hl];simp
 have h1:LogV (zCD r clock):=LogV.offers r.queue h0 hR.v;unfold advD;rw [if_pos hm];exact LogV.run _ _ h1 (hR.queue hc)
structure OkB (m0:MchD) (r:RepD) (i:Nat) (O:List OutD):Prop where
 role:r.role=1
 host:r.host=0
 m:OkM r.rec_.m
 may:mayD r.rec_.m=true
 c:W32 r.rec_.clock
 l:r.rec_.log=[]
 q:r.rec_.queue=[]
 p:OkM r.rpl.m
 pl:r.rpl.log=[]
 o:∀ g∈r.out.queue,OkG g
 on:r.out.queue.length≤i
 t:L64 r.out.tail
 e:r.inn.early=[]
 h:r.hist.length≤130*i
 hv:∀ e∈r.hist,OkV e.ev
 hc:∀ p,cntP p r.hist≤3*i
 rb:Rb m0 r.hist O r.rec_.m
 ol:O.length≤64*i
 hd:r.gate.held=O.filter conO
 ak:r.gate.acked=m0.count
theorem prim_b {m:MchD} (hM:OkM m) (hm:mayD m=true) (limit:Int):OkB m (zDm 0 m 1 limit) 0 []:=by
 refine ⟨rfl,rfl,hM,hm,zA1,rfl,rfl,zUD,rfl,by simp [zDm],by simp [zDm],zHE hM,by simp [zDm,zDv],by simp [zDm,zDv],?_,fun p=>?_,Rb.nil m,by simp,rfl,rfl⟩
 ·show ∀ e∈([]:List EntD),_
  simp
 show cntP p []≤_
 simp [cntP]
abbrev zLP (r:RepD) (q:List EvD):RepD:={r with rec_:={r.rec_ with queue:=q}}
theorem OkB.okP {m0:MchD} {r:RepD} {i:Nat} {O:List OutD} (h:OkB m0 r i O) (hi:i≤100) {q:List EvD} (hq:q.length≤10) (hv:∀ e∈q,OkV e):OkP (zLP r q) 400:=by
 have hg:r.gate.held.length≤64*i:=by rw [h.hd];exact Nat.le_trans (List.length_filter_le _ _) h.ol
 refine ⟨⟨h.m,h.c,by show r.rec_.log.length≤_;rw [h.l];simp,by show q.length≤_;omega,hv,by show ∀ e∈r.rec_.log,_;rw [h.l];simp⟩,h.p,by show r.rpl.log.length≤_;rw [h.pl];simp,by show r.gate.held.length≤_;omega,h.o,by show r.out.queue.length≤_;have:=h.on;omega,by show ∀ e∈r.inn.early,_;rw [h.e];simp,by show r.inn.early.length≤_;rw [h.e];simp,by show r.hist.length≤_;have:=h.h;omega⟩
theorem OkB.round {m0:MchD} {r:RepD} {i:Nat} {O:List OutD} (h:OkB m0 r i O) (hi:i<8) {q:List EvD} (hq:q.length≤1) (hv:∀ e∈q,OkV e) (hk:∀ e∈q,e.kind≠1) (steps:Int) {clock:Int} (hc:W32 clock) :
  ∃ O',OkB m0 (zD5 (zLP r q) steps clock) (i+1) O':=by
 have hon:=h.on;have hne:¬ (r.role=1∧8≤r.out.queue.length):=by omega
 have hst:0≤stp steps∧stp steps≤64:=by unfold stp;omega
 have hlim:limS (stp steps)≤64:=by unfold limS;omega
 have hR:OkR {r.rec_ with queue:=q} 0:=⟨h.m,h.c,by show r.rec_.log.length≤0;rw [h.l];simp,by show q.length≤_;omega,hv,by show ∀ e∈r.rec_.log,_;rw [h.l];simp⟩
 have hA:=hR.adv (stp steps) hc;have hO:=zGB {r.rec_ with queue:=q} (stp steps) clock
 have hQ:=adv_q0 (r:={r.rec_ with queue:=q}) h.may (stp steps) clock
 have hM:=zUF hR h.may hc (stp steps);have hV:=adv_v hR h.may h.l hc (stp steps);have hN:=fun p=>zUG hR h.may h.l hc (stp steps) p
 have hB:=adv_b (r:={r.rec_ with queue:=q}) h.rb h.l hR h.may hk hc (stp steps)
 unfold zD5;rw [if_neg hne];unfold zC6;simp only;generalize advD {r.rec_ with queue:=q} (stp steps) clock=A at *
 obtain ⟨a,o⟩:=A;simp only at hA hO hQ hM hV hN hB ⊢;have hal:=hA.l;have hcnt:=zHE hA.m;have hH:=hold_b h.hd h.ak hB.outs;unfold logA runA;simp only;rw [hH];have hpush:∀ s:SndD,s=(zDJ r.out ⟨r.out.tail,a.m.count,a.log⟩).1→(∀ g∈s.queue,OkG g)∧s.queue.length≤i+1∧L64 s.tail:=by
  intro s hs
  have h0:(∀ g∈r.out.queue,OkG g)∧r.out.queue.length≤i+1∧L64 r.out.tail:=⟨h.o,by omega,h.t⟩
  unfold zDJ at hs
  (repeat' split at hs)
  ·subst hs;exact h0
  ·subst hs;exact h0
  ·subst hs;exact h0
  subst hs;refine ⟨fun g hg=>?_,?_,hcnt⟩
  ·rcases List.mem_append.1 hg with q|q
   ·exact h.o g q
   rw [List.mem_singleton.1 q];exact ⟨h.t,hcnt,hA.t,by simp only;omega⟩
  simp only [zWj,zWx,List.length_nil];omega
 have hout:∀ s:SndD,s=(if r.role=1∧(a.log≠[]∨a.m.count≠r.out.tail) then (zDJ r.out ⟨r.out.tail,a.m.count,a.log⟩).1 else r.out)→(∀ g∈s.queue,OkG g)∧s.queue.length≤i+1∧L64 s.tail:=by
  intro s hs
  split at hs
  ·exact hpush s hs
  subst hs;exact ⟨h.o,by omega,h.t⟩
 obtain ⟨q1,q2,q3⟩:=hout _ rfl;refine ⟨O++o,h.role,h.host,hA.m,hM,hA.c,rfl,hQ,h.p,h.pl,q1,q2,q3,h.e,?_,?_,fun p=>?_,hB,?_,rfl,h.ak⟩
 ·simp only [zWj];have:=h.h;omega
 ·intro e he
  rcases List.mem_append.1 he with q|q
  ·exact h.hv e q
  exact hV e q
 ·show cntP p (r.hist++a.log)≤_
  rw [zGE];have:=h.hc p;have:=hN p;omega
 simp only [zWj];have:=h.ol;omega
end Go.Proofs.YtoondlebmacanaaGreat
end
