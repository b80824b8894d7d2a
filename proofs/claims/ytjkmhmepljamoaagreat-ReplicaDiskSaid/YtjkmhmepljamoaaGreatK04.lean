/- A part of the proof of ReplicaDisk. -/
import Derived.Test.YtjkmhmepljamoaaGreatK03
import Derived.KernelRfl
import Derived.LoopN
import Derived.Test.YtjkmhmepljamoaaGreatProg
set_option linter.all false
set_option maxHeartbeats 16000000
set_option maxRecDepth 100000
section
namespace Go.Ab
open Go.RowKit
def Ex[Glo](P:Program)(c:Code)(Q:Exit->St->Prop):Nat->St->Prop
 | 0,_=>False
 | n+1,st=>awp P c (thn (Ex P c Q n) Q) st
theorem KD[Glo]{P:Program}{c:Code}{Q:Exit->St->Prop}{base:Nat}{Xa:Nat->Prop}{w0:W0}{N:Nat}:∀(n:Nat)(st:St)(a:Act)(w:World),st.n=N->Ex P c Q n st->Rel base Xa w0 st a w ->
  Code.rounds P c (fun e a' w'=>∃st',st'.n=N/\Q e st'/\Rel base Xa w0 st' a' w') n a w
 | 0,_,_,_,_,h,_=>h.elim
 | n+1,st,a,w,hn,h,hR=>by
  rw[rounds_succ];refine wp_mono (h base Xa w0 a w hR) fun e a' w' ⟨s,h1,h2,h3⟩=>?_;cases e with
  | normal=>exact KD n s a' w' (h1.trans hn) h2 h3
  | _=>exact⟨s,h1.trans hn,h2,h3⟩
theorem Aa[Glo]{P:Program}{c:Code}{Q:Exit->St->Prop}{st:St}(n:Nat)(h:Ex P c Q n st):awp P (.loop c) Q st:=fun _ _ _ a w hR=>wp_loop_rounds n (KD n st a w rfl h hR)
theorem BD[Glo]{P:Program}{c:Code}{Q:Exit->St->Prop}{st:St}{n:Nat}(h:∀K:St->Prop,(∀s,Ex P c Q n s->K s)->awp P c (thn K Q) st):Ex P c Q (n+1) st:=h _ fun _ h=>h
end Go.Ab
namespace Go.Ab
open Go.RowKit
theorem RelM.cells[Glo]{base:Nat}{Xa:Nat->Prop}{w0:W0}{st:St}{a:Act}{w:World}{M:Mp}(hM:RelM base Xa w0 st a w M)(id:Nat){o:Ob}{cs:List V}(cs':List V)(ho:lookO st.ob id=some o)(hx:o.xs=[cs])(hlen:cs'.length=cs.length)
  (hc:∀(j:Nat)(u:V),cs'[j]? =some u->∃u',cs[j]? =some u'/\∀v,R M w (Xf base Xa w M st.ob) (if o.box then st.nx else 0) u' v->R M w (Xf base Xa w M st.ob) (if o.box then st.nx else 0) u v) :
  RelM base Xa w0 {st with ob:=(id,some {o with xs:=[cs']})::st.ob} a w M:=by
 have hX:∀b,Xf base Xa w M st.ob b->Xf base Xa w M ((id,some {o with xs:=[cs']})::st.ob) b:=fun b hb=>⟨hb.1,fun i o1 ho1 hf=>by
  simp only[lookO]at ho1;split at ho1
  ·rename_i e;subst e;simp only[gQ]at ho1;subst ho1;exact hb.2 _ o ho hf
  exact hb.2 i o1 ho1 hf⟩
 refine⟨hM.below,hM.hbase,hM.xa,fun m n v u hv=>(hM.gh m n v u hv).mono (g8 _) (fun _ _=>rfl) hX (fun _ _=>rfl),hM.pin,hM.defers.mono hX (fun _ _=>rfl),hM.size,fun t=>(hM.tmps t).mono (g8 _) (fun _ _=>rfl) hX (fun _ _=>rfl),fun i o1 ho1=>?_,fun i i' o1 o2 g h1 h2 hne hg=>?_⟩
 ·simp only[lookO]at ho1;split at ho1
  ·rename_i e;subst e;simp only[gQ]at ho1;subst ho1;obtain⟨q1,q2⟩:=hM.obs _ o ho;obtain⟨vals,hrow,hone,hr⟩:=q2.row;refine⟨q1,q2.pos,q2.off,fun x hx'=>?_,vals,by simpa[hx]using hrow,hone,fun j u hu=>?_⟩
   ·simp only[List.mem_singleton]at hx';subst hx';have:=q2.len cs (by rw[hx];simp);rw[hlen];exact this
   simp only[List.flatten_cons,List.flatten_nil,iU]at hu;obtain⟨u',e,hw'⟩:=hc j u hu;exact(hw' _ (hr j u' (by rw[hx];simpa using e))).mono (g8 _) (fun _ _=>rfl) hX (fun _ _=>rfl)
  obtain⟨q1,q2⟩:=hM.obs i o1 ho1;exact⟨q1,q2.mono (g8 _) (fun _ _=>rfl) hX (fun _ _=>rfl) (fun _ _=>rfl)⟩
 have hl:∀i o1,lookO ((id,some {o with xs:=[cs']})::st.ob) i=some o1->∃o2,lookO st.ob i=some o2:=fun i o1 h1=>by
  simp only[lookO]at h1;split at h1
  ·rename_i e;subst e;exact⟨o,ho⟩
  exact⟨o1,h1⟩
 obtain⟨p1,r1⟩:=hl i o1 h1;obtain⟨p2,r2⟩:=hl i' o2 h2;exact hM.dist i i' p1 p2 g r1 r2 hne hg
theorem Im[Glo]{P:Program}{c:Code}{Q:Exit->St->Prop}{st:St}(id j e s:Nat)(hs:0<s){o:Ob}{cs:List V}{tt:Bool}(ho:lookO st.ob id=some o)(hx:o.xs=[cs])(hbox:o.box=true)(hj:cs[j]? =some (.sl 0 tt []))
  (h:awp P c Q {st with nx:=st.nx+1,ob:=(id,some {o with xs:=[cs.set j (.own st.nx)]})::(st.nx,some ⟨e,s,false,false,[]⟩)::st.ob}):awp P c Q st:=fun base Xa w0 a w ⟨M,hM⟩=>by
 obtain⟨M',hM',hn,hR⟩:=hM.grow (ob1:=st.ob) (fun _ _ h=>h) none (fun _ _ h=>by cases h) (fun _ _ _ _ _ h=>by cases h) (fun _ h=>by cases h) (World.grownBy.refl w none) (.slice none 0 0) (fun g h=>by cases h)
  ⟨e,s,false,false,[]⟩ (fun _=>hs) (by simp) [] (World.ownsG_nil w base e s) (by simp) (fun j u h=>by simp at h)
 have hid:=(hM.obs _ o ho).1;refine h base Xa w0 a w ⟨M',hR.cells id (cs.set j (.own st.nx)) (o:=o) (cs:=cs) (by simp only[lookO];rw[nG];exact ho) hx (by simp) fun i u hu=>?_⟩;by_cases e':j=i
 ·subst e';rw[List.getElem?_set_self (by exact(List.getElem?_eq_some_iff.1 hj).1)]at hu;simp only[gQ]at hu;subst hu;refine⟨_,hj,fun v hv=>?_⟩;obtain⟨A,c',f,hu,_,_,_,hnil,_⟩:=SH hv;obtain⟨rfl,rfl⟩:=hnil rfl;rw[hu,hbox];exact .own _ _ _ _ _ (by simp) hn
 rw[List.getElem?_set_ne e']at hu;exact⟨u,hu,fun v hv=>hv⟩
theorem MF[Glo]{P:Program}{c:Code}{Q:Exit->St->Prop}{st:St}(t id:Nat){sz k:Nat}{o:Ob}(ht:lkT st.tmp t=.part id sz 0 k)(ho:lookO st.ob id=some o)(hbox:o.box=false)(hf:o.fz=false)(hk:k<=o.xs.length)
  (h:awp P c Q {st with nx:=st.nx+1,tmp:=(t,.own st.nx)::st.tmp,ob:=(st.nx,some ⟨o.ety,o.sz,false,false,o.xs.take k⟩)::(id,none)::st.ob}):awp P c Q st:=fun base Xa w0 a w ⟨M,hM⟩=>by
 have hv:=hM.tmps t;rw[ht]at hv;obtain⟨g,O,N,cap,hMv,hl,hse⟩:=Il hv;obtain⟨_,hok⟩:=hM.obs id o ho;obtain⟨vals,hrow,hv1,hvr⟩:=hok.row;simp only[hbox,iR,if_false]at hvr;rw[hMv]at hrow;have hN:N=o.xs.length:=by
  rcases hrow.sl ⟨_,_,_,rfl⟩with⟨hnil,_⟩|⟨g',O',cap',cur,hval,_⟩
  ·simp at hnil
  simp only[Value.slice.injEq]at hval;exact hval.2.1
 subst hN;have hlen:=hok.len;obtain⟨cur,hbg,hg,hnc,hcm,hcs,htake⟩:=hrow.row;have hse':a.tmps.getD t undef=.slice (some ⟨g,O,none⟩) k cap:=by rw[hse];simp
 have hown':w.ownsG base o.ety o.sz (.slice (some ⟨g,O,none⟩) k cap) k (vals.take (k*o.sz)):=by
  refine⟨by rw[iD,hrow.1];exact gY (iW _ (by omega)),.inr (.inl ⟨g,O,cap,cur,rfl,hbg,hg,by omega,hcm,hcs,?_⟩)⟩;rw[<- htake,List.take_take,gY (iW _ (by omega))]
 obtain⟨M',hM',hn,hR⟩:=hM.grow (ob1:=(id,none)::st.ob) (fun i o' ho'=>by simp only[lookO]at ho';split at ho'<;>simp_all) (some g)
  (fun b hx' e=>hx'.2 id o ho hf (by rw[hMv];simpa[Value.ownB]using e.symm)) (fun i o' ho' g' hg' e=>by
   simp only[lookO]at ho';split at ho'
   ·simp at ho'
   ·rename_i hne;exact hM.dist i id o' o g' ho' ho hne hg' (by rw[hMv,e];rfl)) (fun g' hg'=>by simp at hg';omega) (World.grownBy.refl w _) (.slice (some ⟨g,O,none⟩) k cap) (fun g' hg'=>by
   simp only[Value.ownB,gQ]at hg';exact .inl (by rw[hg'])) ⟨o.ety,o.sz,false,false,o.xs.take k⟩ (fun _=>hok.pos hbox) (fun y hy=>hlen y (i5 hy)) (vals.take (k*o.sz)) (by simpa[gY hk]using hown') (fun u hu=>hv1 u (i5 hu)) (fun j v hj=>by
   have hq:=FI o.xs hlen (lo:=0) (len:=k);simp only[List.drop_zero,Nat.zero_mul]at hq;rw[hq,iL]at hj;split at hj
   ·rename_i hjl;rw[gP,iL,if_pos hjl,<- gP];exact hvr j v hj
   cases hj) (fun h=>by have:=hok.off (.inr (h.resolve_left (by simp)));rw[hMv]at this;exact this)
 have:=h base Xa w0 a w ⟨M',hR.below,hR.hbase,hR.xa,hR.gh,hR.pin,hR.defers,hR.size,fun t'=>by
  simp only[lkT];split
  ·rename_i e';subst e';rw[hse'];exact .own _ _ _ _ _ (by simp) hn
  exact hR.tmps t',hR.obs,hR.dist⟩
 exact this
theorem BM[Glo]{P:Program}{c:Code}{Q:Exit->St->Prop}(I:Nat->St->Prop)(step:∀k st,I k st->∀K:St->Prop,(∀k' st',k=k'+1->I k' st'->K st')->awp P c (thn K Q) st):∀k st,I k st->Ex P c Q (k+1) st
 | 0,st,h=>step 0 st h (Ex P c Q 0) (fun k' st' e _=>by cases e)
 | k+1,st,h=>step (k+1) st h (Ex P c Q (k+1)) (fun k' st' e hI=>by cases e;exact BM I step k st' hI)
theorem Bq[Glo]{P:Program}{c:Code}{Q:Exit->St->Prop}{n nx pn:Nat}{T:List (Nat×V)}{ob:List (Nat×Option Ob)}(L:List (Nat×V))(hL:∀p∈L,lkT T p.1=p.2)(h:awp P c Q ⟨n,L,nx,ob,pn⟩):awp P c Q ⟨n,T,nx,ob,pn⟩ :=
 fun base Xa w0 a w ⟨M,hM⟩=>h base Xa w0 a w ⟨M,hM.weakT fun t=>(OS L t).imp (fun h=>h) fun h=>(hL _ h).symm⟩
end Go.Ab
end
section
namespace Go.Ab
open Go.RowKit
def bN(ms:List Nat):List (List Nat):=ms.map fun m=>(List.range 128).filter fun i=>m.testBit i
theorem AD[Glo]{P:Program}{st:St}{rid:Nat}{ops:List Oper}{Q:Exit->St->Prop}(n:Nat)(ms:List Nat)(segs:List (Nat×List (List Nat)×List (Nat×Nat)))(hv:segsL P (slotsOf ops) segs ops (Q .normal) st)(hd:(P.follows .mixedOrders||!(Region.departs ops.toArray))=true:=by kernel_rfl)(hp:CE ops (List.range n)=ops:=by kernel_rfl)
  (hck:Gu P st.n ops .any [] (List.range n) (bN ms) segs=true:=by kernel_rfl):awp P (.region rid ops.toArray true) Q st:=S8 _ _ segs hd hp hck hv
structure Bx(p:Prop):Prop where
 out:p
theorem Vs{A:Type}{X K:A->Prop}{s:A}(h:∀s,X s->K s)(g:X s):K s:=h s g
theorem V8{A B C D:Type}{X K:A->B->C->D->Prop}{a:A}{b:B}{c:C}{d:D}(h:∀a b c d,X a b c d->K a b c d)(g:X a b c d):K a b c d:=h a b c d g
@[irreducible] def Wr(p:Prop):Prop:=p
theorem wr{p:Prop}(h:p):Wr p:=by unfold Wr;exact h
theorem Y9{p:Prop}(h:Wr p):p:=by unfold Wr at h;exact h
theorem kX2{A0 A1:Prop}(a0:A0)(a1:A1):A0/\A1:=⟨a0,a1⟩
theorem kX3{A0 A1 A2:Prop}(a0:A0)(a1:A1)(a2:A2):A0/\A1/\A2:=⟨a0,a1,a2⟩
theorem kX4{A0 A1 A2 A3:Prop}(a0:A0)(a1:A1)(a2:A2)(a3:A3):A0/\A1/\A2/\A3:=⟨a0,a1,a2,a3⟩
theorem kX5{A0 A1 A2 A3 A4:Prop}(a0:A0)(a1:A1)(a2:A2)(a3:A3)(a4:A4):A0/\A1/\A2/\A3/\A4:=⟨a0,a1,a2,a3,a4⟩
theorem kX6{A0 A1 A2 A3 A4 A5:Prop}(a0:A0)(a1:A1)(a2:A2)(a3:A3)(a4:A4)(a5:A5):A0/\A1/\A2/\A3/\A4/\A5:=⟨a0,a1,a2,a3,a4,a5⟩
theorem kX7{A0 A1 A2 A3 A4 A5 A6:Prop}(a0:A0)(a1:A1)(a2:A2)(a3:A3)(a4:A4)(a5:A5)(a6:A6):A0/\A1/\A2/\A3/\A4/\A5/\A6:=⟨a0,a1,a2,a3,a4,a5,a6⟩
theorem kX8{A0 A1 A2 A3 A4 A5 A6 A7:Prop}(a0:A0)(a1:A1)(a2:A2)(a3:A3)(a4:A4)(a5:A5)(a6:A6)(a7:A7):A0/\A1/\A2/\A3/\A4/\A5/\A6/\A7:=⟨a0,a1,a2,a3,a4,a5,a6,a7⟩
theorem kX9{A0 A1 A2 A3 A4 A5 A6 A7 A8:Prop}(a0:A0)(a1:A1)(a2:A2)(a3:A3)(a4:A4)(a5:A5)(a6:A6)(a7:A7)(a8:A8):A0/\A1/\A2/\A3/\A4/\A5/\A6/\A7/\A8:=⟨a0,a1,a2,a3,a4,a5,a6,a7,a8⟩
theorem RQ{A0 A1 A2 A3 A4 A5 A6 A7 A8 A9:Prop}(a0:A0)(a1:A1)(a2:A2)(a3:A3)(a4:A4)(a5:A5)(a6:A6)(a7:A7)(a8:A8)(a9:A9):A0/\A1/\A2/\A3/\A4/\A5/\A6/\A7/\A8/\A9:=⟨a0,a1,a2,a3,a4,a5,a6,a7,a8,a9⟩
theorem SL{A0 A1 A2 A3 A4 A5 A6 A7 A8 A9 A10:Prop}(a0:A0)(a1:A1)(a2:A2)(a3:A3)(a4:A4)(a5:A5)(a6:A6)(a7:A7)(a8:A8)(a9:A9)(a10:A10):A0/\A1/\A2/\A3/\A4/\A5/\A6/\A7/\A8/\A9/\A10:=⟨a0,a1,a2,a3,a4,a5,a6,a7,a8,a9,a10⟩
theorem ZI{A0 A1 A2 A3 A4 A5 A6 A7 A8 A9 A10 A11:Prop}(a0:A0)(a1:A1)(a2:A2)(a3:A3)(a4:A4)(a5:A5)(a6:A6)(a7:A7)(a8:A8)(a9:A9)(a10:A10)(a11:A11):A0/\A1/\A2/\A3/\A4/\A5/\A6/\A7/\A8/\A9/\A10/\A11:=⟨a0,a1,a2,a3,a4,a5,a6,a7,a8,a9,a10,a11⟩
theorem kX13{A0 A1 A2 A3 A4 A5 A6 A7 A8 A9 A10 A11 A12:Prop}(a0:A0)(a1:A1)(a2:A2)(a3:A3)(a4:A4)(a5:A5)(a6:A6)(a7:A7)(a8:A8)(a9:A9)(a10:A10)(a11:A11)(a12:A12):A0/\A1/\A2/\A3/\A4/\A5/\A6/\A7/\A8/\A9/\A10/\A11/\A12:=⟨a0,a1,a2,a3,a4,a5,a6,a7,a8,a9,a10,a11,a12⟩
theorem kX14{A0 A1 A2 A3 A4 A5 A6 A7 A8 A9 A10 A11 A12 A13:Prop}(a0:A0)(a1:A1)(a2:A2)(a3:A3)(a4:A4)(a5:A5)(a6:A6)(a7:A7)(a8:A8)(a9:A9)(a10:A10)(a11:A11)(a12:A12)(a13:A13):A0/\A1/\A2/\A3/\A4/\A5/\A6/\A7/\A8/\A9/\A10/\A11/\A12/\A13:=⟨a0,a1,a2,a3,a4,a5,a6,a7,a8,a9,a10,a11,a12,a13⟩
theorem kX15{A0 A1 A2 A3 A4 A5 A6 A7 A8 A9 A10 A11 A12 A13 A14:Prop}(a0:A0)(a1:A1)(a2:A2)(a3:A3)(a4:A4)(a5:A5)(a6:A6)(a7:A7)(a8:A8)(a9:A9)(a10:A10)(a11:A11)(a12:A12)(a13:A13)(a14:A14):A0/\A1/\A2/\A3/\A4/\A5/\A6/\A7/\A8/\A9/\A10/\A11/\A12/\A13/\A14:=⟨a0,a1,a2,a3,a4,a5,a6,a7,a8,a9,a10,a11,a12,a13,a14⟩
theorem kX16{A0 A1 A2 A3 A4 A5 A6 A7 A8 A9 A10 A11 A12 A13 A14 A15:Prop}(a0:A0)(a1:A1)(a2:A2)(a3:A3)(a4:A4)(a5:A5)(a6:A6)(a7:A7)(a8:A8)(a9:A9)(a10:A10)(a11:A11)(a12:A12)(a13:A13)(a14:A14)(a15:A15):A0/\A1/\A2/\A3/\A4/\A5/\A6/\A7/\A8/\A9/\A10/\A11/\A12/\A13/\A14/\A15:=⟨a0,a1,a2,a3,a4,a5,a6,a7,a8,a9,a10,a11,a12,a13,a14,a15⟩
theorem qX1{A0:Prop}(a0:A0):A0/\True:=⟨a0,trivial⟩
theorem qX2{A0 A1:Prop}(a0:A0)(a1:A1):A0/\A1/\True:=⟨a0,a1,trivial⟩
theorem qX3{A0 A1 A2:Prop}(a0:A0)(a1:A1)(a2:A2):A0/\A1/\A2/\True:=⟨a0,a1,a2,trivial⟩
theorem qX4{A0 A1 A2 A3:Prop}(a0:A0)(a1:A1)(a2:A2)(a3:A3):A0/\A1/\A2/\A3/\True:=⟨a0,a1,a2,a3,trivial⟩
theorem qX5{A0 A1 A2 A3 A4:Prop}(a0:A0)(a1:A1)(a2:A2)(a3:A3)(a4:A4):A0/\A1/\A2/\A3/\A4/\True:=⟨a0,a1,a2,a3,a4,trivial⟩
theorem qX6{A0 A1 A2 A3 A4 A5:Prop}(a0:A0)(a1:A1)(a2:A2)(a3:A3)(a4:A4)(a5:A5):A0/\A1/\A2/\A3/\A4/\A5/\True:=⟨a0,a1,a2,a3,a4,a5,trivial⟩
section
variable [Glo] {P:Program} {Q:Exit->St->Prop} {st:St} {c:Operand} {x y:Code} {b:Bool} {E:Prop}
theorem cF1(e:E)(hc:ev st c=.bool b)(h2:awp P y Q st)(t:E->b=true->False:=by intro e h;simp[e]at h):awp P (.cond c x y) Q st:=AB hc (fun h=>(t e h).elim) (fun _=>h2)
theorem cT1(e:E)(hc:ev st c=.bool b)(h1:awp P x Q st)(t:E->b=false->False:=by intro e h;simp[e]at h):awp P (.cond c x y) Q st:=AB hc (fun _=>h1) (fun h=>(t e h).elim)
theorem cF0(hc:ev st c=.bool b)(h2:awp P y Q st)(t:b=true->False:=by intro h;simp at h):awp P (.cond c x y) Q st:=AB hc (fun h=>(t h).elim) (fun _=>h2)
theorem cT0(hc:ev st c=.bool b)(h1:awp P x Q st)(t:b=false->False:=by intro h;simp at h):awp P (.cond c x y) Q st:=AB hc (fun _=>h1) (fun h=>(t h).elim)
end
theorem aX{I:Nat->St->Prop}{k k':Nat}{st st':St}{E:Prop}(ρ:Nat->Nat)(hI:I k' st')(e:E)(h:k'<k:=by omega)(t:E->Le ρ st st':=by intro e;exact⟨rfl,by simp[leT,ltV,lt1,ren,BE,e],by simp[leO,lt1,BE,e],by(simp;try omega),by simp⟩):again I k st:=EF k' st' ρ h hI (t e)
section
variable [Glo] {P:Program} {st:St} {Q:Exit->St->Prop} {c:Code} {E:Prop}
theorem lX(I:Nat->St->Prop){k0:Nat}{st0:St}(ρ:Nat->Nat)(h0:I k0 st0)(round:∀k s,I k s->s.n=st.n->awp P c (thn (again I k) Q) s)(hle:Le ρ st st0:=by exact⟨rfl,by simp[leT,ltV,lt1,ren,BE],by simp[leO,lt1,BE],by simp,by simp⟩):awp P (.loop c) Q st:=ME I hle h0 round
theorem lX1(I:Nat->St->Prop){k0:Nat}{st0:St}(ρ:Nat->Nat)(h0:I k0 st0)(e:E)(round:∀k s,I k s->s.n=st.n->awp P c (thn (again I k) Q) s)(t:E->Le ρ st st0:=by intro e;exact⟨rfl,by simp[leT,ltV,lt1,ren,BE,e],by simp[leO,lt1,BE,e],by(simp;try omega),by simp⟩):awp P (.loop c) Q st:=ME I (t e) h0 round
end
theorem sZ{F M G N:Prop}(f:F)(n:M)(h:N)(t:F->M->Bx N->G:=by intro f n h;refine AC.of f rfl (by kernel_rfl) rfl ?_;simp only[n,St.start,Vn];exact h.out):G:=t f n ⟨h⟩
theorem au{G N:Prop}(h:N)(t:Bx N->G:=by intro h;(with_reducible (repeat intro Kx hKx));(try with_reducible apply wr);(repeat (first|(with_reducible first|refine B5 fun Kx hKx=>?_|refine BK ?_)|((with_reducible first|refine Au (by kernel_rfl) ?_|refine Bb ?_|refine B8 ?_|refine Ba ?_|refine B9 ?_|refine B6 ?_|refine B2 ?_);simp)|((repeat ((fail_if_success (with_reducible refine hKx _ ?_));clear hKx;try clear Kx));(with_reducible refine hKx _ ?_);clear hKx;try clear Kx)|(with_reducible refine Vs ‹_› ?_)|refine And.intro (by first|omega|assumption|grind) ?_));refine Y9 ?_;(repeat revert Kx);exact h.out):G:=t  ⟨h⟩
theorem af{G N:Prop}(h:N)(t:Bx N->G:=by intro h;(with_reducible (repeat intro Kx hKx));(try with_reducible apply wr);(repeat (first|(with_reducible first|refine B5 fun Kx hKx=>?_|refine BK ?_)|((with_reducible first|refine Au (by kernel_rfl) ?_|refine Bb ?_|refine B8 ?_|refine Ba ?_|refine B9 ?_|refine ET ?_|refine EQ ?_|refine ES ?_|refine ER ?_|refine B6 ?_|refine B2 ?_);simp)|((repeat ((fail_if_success (with_reducible first|refine hKx _ ?_|refine hKx _ _ _ _ ?_));clear hKx;try clear Kx));(with_reducible first|refine hKx _ ?_|refine hKx _ _ _ _ ?_);clear hKx;try clear Kx)|(with_reducible first|refine Vs ‹_› ?_|refine V8 ‹_› ?_)|(with_reducible refine Fw fun Kx hKx=>?_;simp)|(with_reducible refine Fv ?_;try simp only[thn,blk])|(with_reducible refine Fx fun Kx hKx=>?_;simp only[List.take_succ_cons,List.take_zero])|(with_reducible refine EN fun Kx hKx=>?_;simp)|(with_reducible refine Fe ?_)|(with_reducible refine EX ?_;simp only[List.drop_succ_cons,List.drop_zero];simp only[stS,eT,eO,iT,jA,cond_true,cond_false,Bool.and_true,Bool.and_false,Bool.true_and,Bool.false_and])|(with_reducible refine Dn ?_ ?_;(· (simp<;>first|omega|grind)))|refine And.intro (by first|omega|assumption|grind) ?_));refine Y9 ?_;(repeat revert Kx);exact h.out):G:=t  ⟨h⟩
theorem cc{C G N:Prop}(c:C)(h:N)(t:C->Bx N->G:=by intro c h;(with_reducible (repeat intro Kx hKx));(try with_reducible apply wr);first|((first|refine .inl ⟨0,_,c,?_⟩|refine⟨0,_,c,?_⟩|(refine .inl ⟨0,_,AC.wk c ?_,?_⟩;focus (simp;done))|(refine⟨0,_,AC.wk c ?_,?_⟩;focus (simp;done)));simp[C0,Cd];((repeat revert Kx);exact h.out))|((first|refine B0 c rfl (fun hgd=>?_) (by simp[BY]) ?_|refine BI c rfl (by simp) (fun hgd=>?_) (by simp[BY]) ?_)<;>simp<;>(try (first|exact hgd|(simp at hgd;first|done|assumption|grind)));((repeat revert Kx);exact h.out))|fail):G:=t c  ⟨h⟩
theorem cn{C G N:Prop}(c:C)(h:N)(t:C->Bx N->G:=by intro c h;(with_reducible (repeat intro Kx hKx));(try with_reducible apply wr);(first|refine .inl ⟨1,_,c,?_⟩|refine⟨1,_,c,?_⟩);simp[C0,noX,Cx,C9];(first|refine And.intro AQ ?_|skip);((repeat revert Kx);exact h.out)):G:=t c  ⟨h⟩
theorem rt{G:Prop}(t:G:=by(with_reducible (repeat intro Kx hKx));(try with_reducible apply wr);first|(refine BS ?_;simp;done)|(refine Ds ?_;refine BS ?_;simp;done)|(refine BS ?_;simp;first|(simp_all;done)|(simp_all;omega)|grind)|(refine Ds ?_;refine BS ?_;simp;first|(simp_all;done)|(simp_all;omega)|grind)|fail):G:=t
theorem wx{C D G:Prop}(c:C)(d:D)(t:C->D->G:=by intro c d;(refine au ?_;intros;apply wr);repeat' ((first|(refine AB rfl (fun h=>?_) (fun h=>?_)<;>(first|(simp at h;done)|(simp at h)|skip)<;>(first|(exfalso;omega)|skip))|((first|refine .inl ⟨1,_,d.1,?_⟩|refine⟨1,_,d.1,?_⟩);simp[C0,Cd,noX,Cx,C9];first|refine And.intro AQ ?_|skip)|((first|refine .inl ⟨1,_,d.2.1,?_⟩|refine⟨1,_,d.2.1,?_⟩);simp[C0,Cd,noX,Cx,C9];first|refine And.intro AQ ?_|skip)|refine cc c.1 ?_|refine cc c.2.1 ?_|refine cc c.2.2.1 ?_|refine cc c.2.2.2.1 ?_|refine cc c.2.2.2.2.1 ?_|refine cc c.2.2.2.2.2.1 ?_|exact rt|fail)<;>(refine au ?_;intros;apply wr))):G:=t c d
theorem au1{G N E0:Prop}(e0:E0)(h:N)(t:E0->Bx N->G:=by intro e0 h;(with_reducible (repeat intro Kx hKx));(try with_reducible apply wr);(repeat (first|(with_reducible first|refine B5 fun Kx hKx=>?_|refine BK ?_)|((with_reducible first|refine Au (by kernel_rfl) ?_|refine Bb ?_|refine B8 ?_|refine Ba ?_|refine B9 ?_|refine B6 ?_|refine B2 ?_);simp[e0])|((repeat ((fail_if_success (with_reducible refine hKx _ ?_));clear hKx;try clear Kx));(with_reducible refine hKx _ ?_);clear hKx;try clear Kx)|(with_reducible refine Vs ‹_› ?_)|refine And.intro (by first|omega|assumption|grind) ?_));refine Y9 ?_;(repeat revert Kx);exact h.out):G:=t e0 ⟨h⟩
theorem af1{G N E0:Prop}(e0:E0)(h:N)(t:E0->Bx N->G:=by intro e0 h;(with_reducible (repeat intro Kx hKx));(try with_reducible apply wr);(repeat (first|(with_reducible first|refine B5 fun Kx hKx=>?_|refine BK ?_)|((with_reducible first|refine Au (by kernel_rfl) ?_|refine Bb ?_|refine B8 ?_|refine Ba ?_|refine B9 ?_|refine ET ?_|refine EQ ?_|refine ES ?_|refine ER ?_|refine B6 ?_|refine B2 ?_);simp[e0])|((repeat ((fail_if_success (with_reducible first|refine hKx _ ?_|refine hKx _ _ _ _ ?_));clear hKx;try clear Kx));(with_reducible first|refine hKx _ ?_|refine hKx _ _ _ _ ?_);clear hKx;try clear Kx)|(with_reducible first|refine Vs ‹_› ?_|refine V8 ‹_› ?_)|(with_reducible refine Fw fun Kx hKx=>?_;simp[e0])|(with_reducible refine Fv ?_;try simp only[thn,blk])|(with_reducible refine Fx fun Kx hKx=>?_;simp only[List.take_succ_cons,List.take_zero])|(with_reducible refine EN fun Kx hKx=>?_;simp[e0])|(with_reducible refine Fe ?_)|(with_reducible refine EX ?_;simp only[List.drop_succ_cons,List.drop_zero];simp only[stS,eT,eO,iT,jA,cond_true,cond_false,Bool.and_true,Bool.and_false,Bool.true_and,Bool.false_and])|(with_reducible refine Dn ?_ ?_;(· (simp[e0]<;>first|omega|grind)))|refine And.intro (by first|omega|assumption|grind) ?_));refine Y9 ?_;(repeat revert Kx);exact h.out):G:=t e0 ⟨h⟩
theorem cc1{C G N E0:Prop}(c:C)(e0:E0)(h:N)(t:C->E0->Bx N->G:=by intro c e0 h;(with_reducible (repeat intro Kx hKx));(try with_reducible apply wr);first|((first|refine .inl ⟨0,_,c,?_⟩|refine⟨0,_,c,?_⟩|(refine .inl ⟨0,_,AC.wk c ?_,?_⟩;focus (simp;done))|(refine⟨0,_,AC.wk c ?_,?_⟩;focus (simp;done)));simp[C0,Cd,e0];((repeat revert Kx);exact h.out))|((first|refine B0 c rfl (fun hgd=>?_) (by simp[BY]) ?_|refine BI c rfl (by simp) (fun hgd=>?_) (by simp[BY]) ?_)<;>simp[e0]<;>(try (first|exact hgd|(simp at hgd;first|done|assumption|grind)));((repeat revert Kx);exact h.out))|fail):G:=t c e0 ⟨h⟩
theorem cn1{C G N E0:Prop}(c:C)(e0:E0)(h:N)(t:C->E0->Bx N->G:=by intro c e0 h;(with_reducible (repeat intro Kx hKx));(try with_reducible apply wr);(first|refine .inl ⟨1,_,c,?_⟩|refine⟨1,_,c,?_⟩);simp[C0,noX,Cx,C9,e0];(first|refine And.intro AQ ?_|skip);((repeat revert Kx);exact h.out)):G:=t c e0 ⟨h⟩
theorem rt1{G E0:Prop}(e0:E0)(t:E0->G:=by intro e0;(with_reducible (repeat intro Kx hKx));(try with_reducible apply wr);first|(refine BS ?_;simp[e0];done)|(refine Ds ?_;refine BS ?_;simp[e0];done)|(refine BS ?_;simp[e0];clear e0;first|(simp_all;done)|(simp_all;omega)|grind)|(refine Ds ?_;refine BS ?_;simp[e0];clear e0;first|(simp_all;done)|(simp_all;omega)|grind)|fail):G:=t e0
theorem wx1{C D E G:Prop}(c:C)(d:D)(e:E)(t:C->D->E->G:=by intro c d e;(refine au1 e ?_;intros;apply wr);repeat' ((first|(refine AB rfl (fun h=>?_) (fun h=>?_)<;>(first|(simp[e]at h;done)|(simp[e]at h)|skip)<;>(first|(exfalso;omega)|skip))|((first|refine .inl ⟨1,_,d.1,?_⟩|refine⟨1,_,d.1,?_⟩);simp[C0,Cd,noX,Cx,C9,e];first|refine And.intro AQ ?_|skip)|((first|refine .inl ⟨1,_,d.2.1,?_⟩|refine⟨1,_,d.2.1,?_⟩);simp[C0,Cd,noX,Cx,C9,e];first|refine And.intro AQ ?_|skip)|refine cc1 c.1 e ?_|refine cc1 c.2.1 e ?_|refine cc1 c.2.2.1 e ?_|refine cc1 c.2.2.2.1 e ?_|refine cc1 c.2.2.2.2.1 e ?_|refine cc1 c.2.2.2.2.2.1 e ?_|exact rt1 e|fail)<;>(refine au1 e ?_;intros;apply wr))):G:=t c d e
theorem Jn{G N E0:Prop}(e0:E0)(h:N)(t:E0->Bx N->G:=by intro e0 h;(with_reducible (repeat intro Kx hKx));(try with_reducible apply wr);(repeat (first|(with_reducible first|refine B5 fun Kx hKx=>?_|refine BK ?_)|((with_reducible first|refine Au (by kernel_rfl) ?_|refine Bb ?_|refine B8 ?_|refine Ba ?_|refine B9 ?_|refine B6 ?_|refine B2 ?_);simp[-Nat.sub_self,e0])|((repeat ((fail_if_success (with_reducible refine hKx _ ?_));clear hKx;try clear Kx));(with_reducible refine hKx _ ?_);clear hKx;try clear Kx)|(with_reducible refine Vs ‹_› ?_)|refine And.intro (by first|omega|assumption|grind) ?_));refine Y9 ?_;(repeat revert Kx);exact h.out):G:=t e0 ⟨h⟩
theorem afm1{G N E0:Prop}(e0:E0)(h:N)(t:E0->Bx N->G:=by intro e0 h;(with_reducible (repeat intro Kx hKx));(try with_reducible apply wr);(repeat (first|(with_reducible first|refine B5 fun Kx hKx=>?_|refine BK ?_)|((with_reducible first|refine Au (by kernel_rfl) ?_|refine Bb ?_|refine B8 ?_|refine Ba ?_|refine B9 ?_|refine ET ?_|refine EQ ?_|refine ES ?_|refine ER ?_|refine B6 ?_|refine B2 ?_);simp[-Nat.sub_self,e0])|((repeat ((fail_if_success (with_reducible first|refine hKx _ ?_|refine hKx _ _ _ _ ?_));clear hKx;try clear Kx));(with_reducible first|refine hKx _ ?_|refine hKx _ _ _ _ ?_);clear hKx;try clear Kx)|(with_reducible first|refine Vs ‹_› ?_|refine V8 ‹_› ?_)|(with_reducible refine Fw fun Kx hKx=>?_;simp[-Nat.sub_self,e0])|(with_reducible refine Fv ?_;try simp only[thn,blk])|(with_reducible refine Fx fun Kx hKx=>?_;simp only[List.take_succ_cons,List.take_zero])|(with_reducible refine EN fun Kx hKx=>?_;simp[-Nat.sub_self,e0])|(with_reducible refine Fe ?_)|(with_reducible refine EX ?_;simp only[List.drop_succ_cons,List.drop_zero];simp only[stS,eT,eO,iT,jA,cond_true,cond_false,Bool.and_true,Bool.and_false,Bool.true_and,Bool.false_and])|(with_reducible refine Dn ?_ ?_;(· (simp[-Nat.sub_self,e0]<;>first|omega|grind)))|refine And.intro (by first|omega|assumption|grind) ?_));refine Y9 ?_;(repeat revert Kx);exact h.out):G:=t e0 ⟨h⟩
theorem Yq{C G N E0:Prop}(c:C)(e0:E0)(h:N)(t:C->E0->Bx N->G:=by intro c e0 h;(with_reducible (repeat intro Kx hKx));(try with_reducible apply wr);first|((first|refine .inl ⟨0,_,c,?_⟩|refine⟨0,_,c,?_⟩|(refine .inl ⟨0,_,AC.wk c ?_,?_⟩;focus (simp;done))|(refine⟨0,_,AC.wk c ?_,?_⟩;focus (simp;done)));simp[C0,Cd,-Nat.sub_self,e0];((repeat revert Kx);exact h.out))|((first|refine B0 c rfl (fun hgd=>?_) (by simp[BY]) ?_|refine BI c rfl (by simp) (fun hgd=>?_) (by simp[BY]) ?_)<;>simp[-Nat.sub_self,e0]<;>(try (first|exact hgd|(simp at hgd;first|done|assumption|grind)));((repeat revert Kx);exact h.out))|fail):G:=t c e0 ⟨h⟩
theorem rtm1{G E0:Prop}(e0:E0)(t:E0->G:=by intro e0;(with_reducible (repeat intro Kx hKx));(try with_reducible apply wr);first|(refine BS ?_;simp[-Nat.sub_self,e0];done)|(refine Ds ?_;refine BS ?_;simp[-Nat.sub_self,e0];done)|(refine BS ?_;simp[-Nat.sub_self,e0];clear e0;first|(simp_all;done)|(simp_all;omega)|grind)|(refine Ds ?_;refine BS ?_;simp[-Nat.sub_self,e0];clear e0;first|(simp_all;done)|(simp_all;omega)|grind)|fail):G:=t e0
theorem wxm1{C D E G:Prop}(c:C)(d:D)(e:E)(t:C->D->E->G:=by intro c d e;(refine Jn e ?_;intros;apply wr);repeat' ((first|(refine AB rfl (fun h=>?_) (fun h=>?_)<;>(first|(simp[-Nat.sub_self,e]at h;done)|(simp[-Nat.sub_self,e]at h)|skip)<;>(first|(exfalso;omega)|skip))|((first|refine .inl ⟨1,_,d.1,?_⟩|refine⟨1,_,d.1,?_⟩);simp[C0,Cd,noX,Cx,C9,-Nat.sub_self,e];first|refine And.intro AQ ?_|skip)|((first|refine .inl ⟨1,_,d.2.1,?_⟩|refine⟨1,_,d.2.1,?_⟩);simp[C0,Cd,noX,Cx,C9,-Nat.sub_self,e];first|refine And.intro AQ ?_|skip)|refine Yq c.1 e ?_|refine Yq c.2.1 e ?_|refine Yq c.2.2.1 e ?_|refine Yq c.2.2.2.1 e ?_|refine Yq c.2.2.2.2.1 e ?_|refine Yq c.2.2.2.2.2.1 e ?_|exact rtm1 e|fail)<;>(refine Jn e ?_;intros;apply wr))):G:=t c d e
theorem sX{F M G N:Prop}(f:F)(n:M)(h:N)(t:F->M->Bx N->G:=by intro f n h;refine sZ f n ?_;refine au ?_;exact h.out):G:=t f n ⟨h⟩
theorem sY{F M G N E:Prop}(f:F)(n:M)(e:E)(h:N)(t:F->M->E->Bx N->G:=by intro f n e h;refine sZ f n ?_;refine au1 e ?_;exact h.out):G:=t f n e ⟨h⟩
theorem cX{C G N:Prop}(c:C)(h:N)(t:C->Bx N->G:=by intro c h;refine cc c ?_;refine au ?_;exact h.out):G:=t c ⟨h⟩
theorem cY{C G N E:Prop}(c:C)(e:E)(h:N)(t:C->E->Bx N->G:=by intro c e h;refine cc c ?_;refine au1 e ?_;exact h.out):G:=t c e ⟨h⟩
theorem cZ{C G N D E:Prop}(c:C)(d:D)(e:E)(h:N)(t:C->D->E->Bx N->G:=by intro c d e h;refine cc1 c d ?_;refine au1 e ?_;exact h.out):G:=t c d e ⟨h⟩
theorem cXf{C G N:Prop}(c:C)(h:N)(t:C->Bx N->G:=by intro c h;refine cc c ?_;refine af ?_;exact h.out):G:=t c ⟨h⟩
theorem cYf{C G N E:Prop}(c:C)(e:E)(h:N)(t:C->E->Bx N->G:=by intro c e h;refine cc c ?_;refine af1 e ?_;exact h.out):G:=t c e ⟨h⟩
theorem cZf{C G N D E:Prop}(c:C)(d:D)(e:E)(h:N)(t:C->D->E->Bx N->G:=by intro c d e h;refine cc1 c d ?_;refine af1 e ?_;exact h.out):G:=t c d e ⟨h⟩
theorem CV{G N:Prop}(h:N)(t:Bx N->G:=by intro h;(with_reducible (repeat intro Ky hKy));(try with_reducible apply wr);refine AB rfl (fun _=>?_) (fun h=>by simp at h);refine au ?_;((repeat revert Ky);exact h.out)):G:=t ⟨h⟩
theorem IZ{G N E:Prop}(e:E)(h:N)(t:E->Bx N->G:=by intro e h;(with_reducible (repeat intro Ky hKy));(try with_reducible apply wr);refine AB rfl (fun _=>?_) (fun h=>by simp at h);refine au1 e ?_;((repeat revert Ky);exact h.out)):G:=t e ⟨h⟩
theorem ED{G N D:Prop}(d:D)(h:N)(t:D->Bx N->G:=by intro d h;(with_reducible (repeat intro Ky hKy));(try with_reducible apply wr);refine AB rfl (fun _=>?_) (fun h=>by simp[d]at h);refine au ?_;((repeat revert Ky);exact h.out)):G:=t d ⟨h⟩
theorem DI{G N D E:Prop}(d:D)(e:E)(h:N)(t:D->E->Bx N->G:=by intro d e h;(with_reducible (repeat intro Ky hKy));(try with_reducible apply wr);refine AB rfl (fun _=>?_) (fun h=>by simp[d]at h);refine au1 e ?_;((repeat revert Ky);exact h.out)):G:=t d e ⟨h⟩
theorem C3{G N:Prop}(h:N)(t:Bx N->G:=by intro h;(with_reducible (repeat intro Ky hKy));(try with_reducible apply wr);refine AB rfl (fun h=>by simp at h) (fun _=>?_);refine au ?_;((repeat revert Ky);exact h.out)):G:=t ⟨h⟩
theorem EG{G N E:Prop}(e:E)(h:N)(t:E->Bx N->G:=by intro e h;(with_reducible (repeat intro Ky hKy));(try with_reducible apply wr);refine AB rfl (fun h=>by simp at h) (fun _=>?_);refine au1 e ?_;((repeat revert Ky);exact h.out)):G:=t e ⟨h⟩
theorem BU{G N D:Prop}(d:D)(h:N)(t:D->Bx N->G:=by intro d h;(with_reducible (repeat intro Ky hKy));(try with_reducible apply wr);refine AB rfl (fun h=>by simp[d]at h) (fun _=>?_);refine au ?_;((repeat revert Ky);exact h.out)):G:=t d ⟨h⟩
theorem EP{G N D E:Prop}(d:D)(e:E)(h:N)(t:D->E->Bx N->G:=by intro d e h;(with_reducible (repeat intro Ky hKy));(try with_reducible apply wr);refine AB rfl (fun h=>by simp[d]at h) (fun _=>?_);refine au1 e ?_;((repeat revert Ky);exact h.out)):G:=t d e ⟨h⟩
theorem RN{G N:Prop}(h:N)(t:Bx N->G:=by intro h;(with_reducible (repeat intro Ky hKy));(try with_reducible apply wr);refine AB rfl (fun _=>?_) (fun h=>by simp at h);refine af ?_;((repeat revert Ky);exact h.out)):G:=t ⟨h⟩
theorem Tb{G N E:Prop}(e:E)(h:N)(t:E->Bx N->G:=by intro e h;(with_reducible (repeat intro Ky hKy));(try with_reducible apply wr);refine AB rfl (fun _=>?_) (fun h=>by simp at h);refine af1 e ?_;((repeat revert Ky);exact h.out)):G:=t e ⟨h⟩
theorem Ei{G N D:Prop}(d:D)(h:N)(t:D->Bx N->G:=by intro d h;(with_reducible (repeat intro Ky hKy));(try with_reducible apply wr);refine AB rfl (fun _=>?_) (fun h=>by simp[d]at h);refine af ?_;((repeat revert Ky);exact h.out)):G:=t d ⟨h⟩
theorem Cg{G N D E:Prop}(d:D)(e:E)(h:N)(t:D->E->Bx N->G:=by intro d e h;(with_reducible (repeat intro Ky hKy));(try with_reducible apply wr);refine AB rfl (fun _=>?_) (fun h=>by simp[d]at h);refine af1 e ?_;((repeat revert Ky);exact h.out)):G:=t d e ⟨h⟩
theorem BN{G N:Prop}(h:N)(t:Bx N->G:=by intro h;(with_reducible (repeat intro Ky hKy));(try with_reducible apply wr);refine AB rfl (fun h=>by simp at h) (fun _=>?_);refine af ?_;((repeat revert Ky);exact h.out)):G:=t ⟨h⟩
theorem LI{G N E:Prop}(e:E)(h:N)(t:E->Bx N->G:=by intro e h;(with_reducible (repeat intro Ky hKy));(try with_reducible apply wr);refine AB rfl (fun h=>by simp at h) (fun _=>?_);refine af1 e ?_;((repeat revert Ky);exact h.out)):G:=t e ⟨h⟩
theorem Ac{G N D:Prop}(d:D)(h:N)(t:D->Bx N->G:=by intro d h;(with_reducible (repeat intro Ky hKy));(try with_reducible apply wr);refine AB rfl (fun h=>by simp[d]at h) (fun _=>?_);refine af ?_;((repeat revert Ky);exact h.out)):G:=t d ⟨h⟩
theorem Cw{G N D E:Prop}(d:D)(e:E)(h:N)(t:D->E->Bx N->G:=by intro d e h;(with_reducible (repeat intro Ky hKy));(try with_reducible apply wr);refine AB rfl (fun h=>by simp[d]at h) (fun _=>?_);refine af1 e ?_;((repeat revert Ky);exact h.out)):G:=t d e ⟨h⟩
theorem ar{G N:Prop}(h:N)(t:Bx N->G:=by intro h;(with_reducible (repeat intro Kx hKx));(try with_reducible apply wr);refine BS ?_;((repeat revert Kx);exact h.out)):G:=t ⟨h⟩
theorem aw{G N:Prop}(h:N)(t:Bx N->G:=by intro h;(with_reducible (repeat intro Kx hKx));(try with_reducible apply wr);refine Ds ?_;refine BS ?_;((repeat revert Kx);exact h.out)):G:=t ⟨h⟩
theorem sI{F M G N:Prop}(f:F)(n:M)(h:N)(t:F->M->Bx N->G:=by intro f n h;refine Bt.of f rfl (by kernel_rfl) rfl ?_;simp only[n,St.startI,Vn];exact h.out):G:=t f n ⟨h⟩
theorem sIX{F M G N:Prop}(f:F)(n:M)(h:N)(t:F->M->Bx N->G:=by intro f n h;refine sI f n ?_;refine au ?_;exact h.out):G:=t f n ⟨h⟩
theorem sIY{F M G N E:Prop}(f:F)(n:M)(e:E)(h:N)(t:F->M->E->Bx N->G:=by intro f n e h;refine sI f n ?_;refine au1 e ?_;exact h.out):G:=t f n e ⟨h⟩
theorem cO{G N:Prop}(h:N)(t:Bx N->G:=by intro h;first|exact .inr h.out|exact h.out):G:=t ⟨h⟩
end Go.Ab
end
section
namespace Go.Proofs.YtjkmhmepljamoaaGreat
open Go.Ab Tryz
abbrev nJ:V:=.int .u32 0
instance glo0:Glo where
 tab:=[]
 inv:=fun _=>True
 mono:=fun _ _=>trivial
 capt:=fun f=>f==114||f==115||f==184||f==315||f==190
 prt:=fun t=>t==55||t==52
 mbx:=fun t=>t==298
instance:Tot:=⟨fun _=>trivial,rfl⟩
theorem gin0(w:World)(X:Nat->Prop):GIn w X:=⟨trivial,fun g cs h=>by simp[Glo.tab,XG]at h⟩
@[simp] theorem capt0(f:Nat):Glo.capt f=(f==114||f==115||f==184||f==315||f==190):=rfl
@[simp] theorem prt0(t:Nat):Glo.prt t=(t==55||t==52):=rfl
@[simp] theorem mbx0(t:Nat):Glo.mbx t=(t==298):=rfl
@[simp] theorem T0:tyE prog 1=some (1,false)/\tyE prog 2=some (1,false)/\zeroE prog 2=some [V.int .i64 0]/\isInt prog 2=some .i64/\tyE prog 3=some (1,false)/\zeroE prog 3=some [V.int .i64 0]/\isInt prog 3=some .i64/\tyE prog 4=some (1,false)/\zeroE prog 4=some [V.bool false]/\byE prog 5=true/\tyE prog 5=some (1,false)/\zeroE prog 5=some [V.int .u8 0]/\isInt prog 5=some .u8/\byE prog 6=true/\tyE prog 6=some (1,false)/\isInt prog 6=some .u8/\tyE prog 7=some (4,true)/\Be prog 7=true/\tyE prog 8=some (4,true)/\Be prog 8=true/\tyE prog 9=some (1,false)/\zeroE prog 9=some [V.str []]/\slE prog 9=none/\Dv prog 9=true/\tyE prog 10=some (1,false):=by and_intros<;>kernel_rfl
@[simp] theorem T46:slE prog 10=none/\Dv prog 10=true/\tyE prog 11=some (1,false)/\slE prog 11=none/\Dv prog 11=true/\tyE prog 12=some (1,false)/\isInt prog 12=some .u64/\tyE prog 13=some (2,true)/\Be prog 13=true/\tyE prog 14=some (2,true)/\Be prog 14=true/\tyE prog 15=some (1,false)/\tyE prog 16=some (1,false)/\tyE prog 17=some (1,false)/\tyE prog 18=some (1,true)/\Be prog 18=true/\tyE prog 19=some (1,true)/\Be prog 19=true/\tyE prog 20=some (1,false)/\tyE prog 21=some (1,false)/\zeroE prog 21=some [V.int .i32 0]/\isInt prog 21=some .i32/\tyE prog 22=some (1,false)/\zeroE prog 22=some [V.sl 0 true []]/\slE prog 22=some (3,1,8):=by and_intros<;>kernel_rfl
@[simp] theorem T93:tyE prog 23=some (1,false)/\tyE prog 24=some (1,false)/\zeroE prog 24=some [V.int .u64 0]/\isInt prog 24=some .u64/\tyE prog 25=some (1,false)/\zeroE prog 25=some [nJ]/\isInt prog 25=some .u32/\tyE prog 26=some (16,true):=by and_intros<;>kernel_rfl
@[simp] theorem T103:arE prog 26=some (16,1,false):=by kernel_rfl
@[simp] theorem T104(i:Nat):plE prog 26 i=some (i*1,1):=J1 T103 i
@[simp] theorem T105:Be prog 26=true/\tyE prog 27=some (8,true)/\zeroE prog 27=some [nJ,nJ,nJ,nJ,nJ,nJ,nJ,nJ]:=by and_intros<;>kernel_rfl
@[simp] theorem T108:arE prog 27=some (8,1,false):=by kernel_rfl
@[simp] theorem T109(i:Nat):plE prog 27 i=some (i*1,1):=J1 T108 i
@[simp] theorem T110:Be prog 27=true/\tyE prog 28=some (25,true)/\Be prog 28=true/\tyE prog 29=some (25,true)/\zeroE prog 29=some [nJ,nJ,nJ,nJ,nJ,nJ,nJ,nJ,nJ,nJ,nJ,nJ,nJ,nJ,nJ,nJ,nJ,nJ,nJ,nJ,nJ,nJ,nJ,nJ,nJ]/\Aq prog 29 0=some (0,16,true)/\Aq prog 29 1=some (16,1,false)/\plE prog 29 1=some (16,1)/\Aq prog 29 2=some (17,8,true)/\Be prog 29=true/\eqE prog 29=some [.i,.i,.i,.i,.i,.i,.i,.i,.i,.i,.i,.i,.i,.i,.i,.i,.i,.i,.i,.i,.i,.i,.i,.i,.i]/\tyE prog 30=some (1,false)/\zeroE prog 30=some [V.sl 0 true []]/\slE prog 30=some (25,1,4)/\tyE prog 31=some (1,true)/\Be prog 31=true/\tyE prog 32=some (1,true)/\zeroE prog 32=some [V.str []]/\Aq prog 32 0=some (0,1,false)/\plE prog 32 0=some (0,1)/\Be prog 32=true/\eqE prog 32=some [.s]/\tyE prog 33=some (3,true)/\Be prog 33=true/\tyE prog 34=some (3,true):=by and_intros<;>kernel_rfl
@[simp] theorem T154:zeroE prog 34=some [V.bool false,nJ,V.bool false]/\Aq prog 34 0=some (0,1,false)/\plE prog 34 0=some (0,1)/\Aq prog 34 1=some (1,1,false)/\plE prog 34 1=some (1,1)/\Aq prog 34 2=some (2,1,false)/\plE prog 34 2=some (2,1)/\Be prog 34=true/\eqE prog 34=some [.b,.i,.b]/\tyE prog 35=some (8,true)/\Be prog 35=true/\tyE prog 36=some (8,true)/\zeroE prog 36=some [nJ,nJ,nJ,V.int .i64 0,V.int .i64 0,nJ,nJ,V.str []]/\Aq prog 36 0=some (0,1,false)/\Aq prog 36 1=some (1,1,false)/\Aq prog 36 2=some (2,1,false)/\Aq prog 36 3=some (3,1,false)/\Aq prog 36 4=some (4,1,false)/\Aq prog 36 5=some (5,1,false)/\Aq prog 36 6=some (6,1,false)/\Aq prog 36 7=some (7,1,false)/\Be prog 36=true/\eqE prog 36=some [.i,.i,.i,.i,.i,.i,.i,.s]/\tyE prog 37=some (6,true)/\Be prog 37=true:=by and_intros<;>kernel_rfl
@[simp] theorem T217:tyE prog 38=some (6,true)/\zeroE prog 38=some [nJ,nJ,V.bool false,nJ,V.bool false,nJ]/\Aq prog 38 0=some (0,1,false)/\Aq prog 38 1=some (1,1,false)/\Aq prog 38 2=some (2,1,false)/\Aq prog 38 3=some (3,1,false)/\Aq prog 38 4=some (4,1,false)/\Aq prog 38 5=some (5,1,false)/\Be prog 38=true/\eqE prog 38=some [.i,.i,.b,.i,.b,.i]/\tyE prog 39=some (2,true)/\Be prog 39=true/\tyE prog 40=some (2,true)/\zeroE prog 40=some [nJ,nJ]/\Aq prog 40 0=some (0,1,false)/\Aq prog 40 1=some (1,1,false)/\Be prog 40=true/\eqE prog 40=some [.i,.i]/\tyE prog 41=some (49,true)/\Be prog 41=true/\tyE prog 42=some (49,true)/\zeroE prog 42=some [nJ,nJ,nJ,nJ,nJ,nJ,nJ,nJ,nJ,nJ,nJ,nJ,nJ,nJ,nJ,nJ,nJ,nJ,nJ,nJ,nJ,nJ,nJ,nJ,nJ,V.sl 0 true [],V.str [],V.bool false,nJ,V.bool false,nJ,nJ,nJ,V.int .i64 0,V.int .i64 0,nJ,nJ,V.str [],nJ,nJ,V.bool false,nJ,V.bool false,nJ,nJ,nJ,V.int .u64 0,V.bool false,V.bool false]/\Aq prog 42 0=some (0,25,true)/\plE prog 42 0=some (0,25)/\Aq prog 42 1=some (25,1,false):=by and_intros<;>kernel_rfl
@[simp] theorem T276:plE prog 42 1=some (25,1)/\Aq prog 42 2=some (26,1,true)/\Aq prog 42 3=some (27,3,true)/\Aq prog 42 4=some (30,8,true)/\Aq prog 42 5=some (38,6,true)/\Aq prog 42 6=some (44,2,true)/\Aq prog 42 7=some (46,1,false)/\Aq prog 42 8=some (47,1,false)/\Aq prog 42 9=some (48,1,false)/\Be prog 42=true/\tyE prog 43=some (1,false)/\zeroE prog 43=some [V.sl 0 true []]/\slE prog 43=some (108,4,40)/\tyE prog 44=some (1,false)/\zeroE prog 44=some [V.sl 0 true []]/\slE prog 44=some (106,3,32)/\tyE prog 45=some (52,true)/\Be prog 45=true/\tyE prog 46=some (52,true)/\zeroE prog 46=some [nJ,nJ,nJ,nJ,nJ,nJ,nJ,nJ,nJ,nJ,nJ,nJ,nJ,nJ,nJ,nJ,nJ,nJ,nJ,nJ,nJ,nJ,nJ,nJ,nJ,V.sl 0 true [],V.str [],V.bool false,nJ,V.bool false,nJ,nJ,nJ,V.int .i64 0,V.int .i64 0,nJ,nJ,V.str [],nJ,nJ,V.bool false,nJ,V.bool false,nJ,nJ,nJ,V.int .u64 0,V.bool false,V.bool false,nJ,V.sl 0 true [],V.sl 0 true []]/\Aq prog 46 0=some (0,49,true)/\plE prog 46 0=some (0,49)/\Aq prog 46 1=some (49,1,false)/\Aq prog 46 2=some (50,1,false)/\Aq prog 46 3=some (51,1,false):=by and_intros<;>kernel_rfl
@[simp] theorem T321:Be prog 46=true/\tyE prog 47=some (52,true)/\Be prog 47=true/\tyE prog 48=some (52,true)/\zeroE prog 48=some [nJ,nJ,nJ,nJ,nJ,nJ,nJ,nJ,nJ,nJ,nJ,nJ,nJ,nJ,nJ,nJ,nJ,nJ,nJ,nJ,nJ,nJ,nJ,nJ,nJ,V.sl 0 true [],V.str [],V.bool false,nJ,V.bool false,nJ,nJ,nJ,V.int .i64 0,V.int .i64 0,nJ,nJ,V.str [],nJ,nJ,V.bool false,nJ,V.bool false,nJ,nJ,nJ,V.int .u64 0,V.bool false,V.bool false,V.sl 0 true [],V.int .u64 0,nJ]/\Aq prog 48 0=some (0,49,true)/\plE prog 48 0=some (0,49)/\Aq prog 48 1=some (49,1,false)/\Aq prog 48 2=some (50,1,false)/\plE prog 48 2=some (50,1)/\Aq prog 48 3=some (51,1,false)/\Be prog 48=true/\tyE prog 49=some (1,false)/\zeroE prog 49=some [V.sl 0 true []]/\slE prog 49=some (124,4,40)/\tyE prog 50=some (3,true)/\Be prog 50=true/\tyE prog 51=some (3,true)/\zeroE prog 51=some [V.sl 0 true [],V.int .u64 0,V.int .u64 0]/\Aq prog 51 0=some (0,1,false)/\Aq prog 51 1=some (1,1,false)/\plE prog 51 1=some (1,1)/\Aq prog 51 2=some (2,1,false)/\Be prog 51=true/\tyE prog 52=some (1,false):=by and_intros<;>kernel_rfl
@[simp] theorem T366:zeroE prog 52=some [V.sl 0 true []]/\slE prog 52=some (145,3,40)/\tyE prog 53=some (4,true)/\Be prog 53=true/\tyE prog 54=some (4,true)/\zeroE prog 54=some [V.int .u64 0,V.int .u64 0,V.int .u64 0,V.sl 0 true []]/\Aq prog 54 0=some (0,1,false)/\plE prog 54 0=some (0,1)/\Aq prog 54 1=some (1,1,false)/\plE prog 54 1=some (1,1)/\Aq prog 54 2=some (2,1,false)/\plE prog 54 2=some (2,1)/\Aq prog 54 3=some (3,1,false)/\Be prog 54=true/\tyE prog 55=some (1,false)/\zeroE prog 55=some [V.sl 0 true []]/\slE prog 55=some (149,4,48)/\tyE prog 56=some (3,true)/\Be prog 56=true/\tyE prog 57=some (3,true)/\zeroE prog 57=some [V.int .u64 0,V.int .u64 0,V.sl 0 true []]/\Aq prog 57 0=some (0,1,false)/\plE prog 57 0=some (0,1)/\Aq prog 57 1=some (1,1,false)/\plE prog 57 1=some (1,1):=by and_intros<;>kernel_rfl
@[simp] theorem T408:Aq prog 57 2=some (2,1,false)/\Be prog 57=true/\tyE prog 58=some (3,true)/\Be prog 58=true/\tyE prog 59=some (3,true)/\zeroE prog 59=some [V.int .i64 0,V.int .i64 0,V.int .u64 0]/\Aq prog 59 0=some (0,1,false)/\plE prog 59 0=some (0,1)/\Aq prog 59 1=some (1,1,false)/\Aq prog 59 2=some (2,1,false)/\Be prog 59=true/\eqE prog 59=some [.i,.i,.i]/\tyE prog 60=some (125,true)/\Be prog 60=true/\tyE prog 61=some (125,true)/\zeroE prog 61=some [V.int .i64 0,V.int .i64 0,V.int .u64 0,nJ,nJ,nJ,nJ,nJ,nJ,nJ,nJ,nJ,nJ,nJ,nJ,nJ,nJ,nJ,nJ,nJ,nJ,nJ,nJ,nJ,nJ,nJ,nJ,nJ,V.sl 0 true [],V.str [],V.bool false,nJ,V.bool false,nJ,nJ,nJ,V.int .i64 0,V.int .i64 0,nJ,nJ,V.str [],nJ,nJ,V.bool false,nJ,V.bool false,nJ,nJ,nJ,V.int .u64 0,V.bool false,V.bool false,nJ,V.sl 0 true [],V.sl 0 true [],nJ,nJ,nJ,nJ,nJ,nJ,nJ,nJ,nJ,nJ,nJ,nJ,nJ,nJ,nJ,nJ,nJ,nJ,nJ,nJ,nJ,nJ,nJ,nJ,nJ,V.sl 0 true [],V.str [],V.bool false,nJ,V.bool false,nJ,nJ,nJ,V.int .i64 0,V.int .i64 0,nJ,nJ,V.str [],nJ,nJ,V.bool false,nJ,V.bool false,nJ,nJ,nJ,V.int .u64 0,V.bool false,V.bool false,V.sl 0 true [],V.int .u64 0,nJ,V.sl 0 true [],V.int .u64 0,V.int .u64 0,V.int .u64 0,V.int .u64 0,V.int .u64 0,V.int .u64 0,V.sl 0 true [],V.int .u64 0,V.int .u64 0,V.sl 0 true [],V.int .i64 0,V.int .i64 0,V.int .u64 0,V.int .u64 0,V.int .i64 0,V.int .u64 0,V.sl 0 true []]/\Aq prog 61 0=some (0,1,false)/\plE prog 61 0=some (0,1)/\Aq prog 61 1=some (1,1,false)/\Aq prog 61 2=some (2,1,false)/\plE prog 61 2=some (2,1)/\Aq prog 61 3=some (3,52,true)/\Aq prog 61 4=some (55,52,true)/\Aq prog 61 5=some (107,3,true)/\plE prog 61 5=some (107,3):=by and_intros<;>kernel_rfl
@[simp] theorem T475:Aq prog 61 6=some (110,1,false)/\plE prog 61 6=some (110,1)/\Aq prog 61 7=some (111,4,true)/\Aq prog 61 8=some (115,3,true)/\Aq prog 61 9=some (118,3,true)/\plE prog 61 9=some (118,3)/\Aq prog 61 10=some (121,1,false)/\Aq prog 61 11=some (122,1,false)/\Aq prog 61 12=some (123,1,false)/\Aq prog 61 13=some (124,1,false)/\Be prog 61=true/\tyE prog 62=some (1,false)/\zeroE prog 62=some [V.sl 0 true []]/\slE prog 62=some (9,1,16)/\tyE prog 63=some (3,true)/\Be prog 63=true/\tyE prog 64=some (3,true)/\zeroE prog 64=some [V.sl 0 true [],V.int .u64 0,V.int .i64 0]/\Aq prog 64 0=some (0,1,false)/\plE prog 64 0=some (0,1)/\Aq prog 64 1=some (1,1,false)/\Aq prog 64 2=some (2,1,false)/\plE prog 64 2=some (2,1)/\Be prog 64=true/\tyE prog 65=some (255,true):=by and_intros<;>kernel_rfl
@[simp] theorem T525:Be prog 65=true/\tyE prog 66=some (255,true)/\zeroE prog 66=some [V.int .i64 0,V.int .i64 0,V.int .u64 0,nJ,nJ,nJ,nJ,nJ,nJ,nJ,nJ,nJ,nJ,nJ,nJ,nJ,nJ,nJ,nJ,nJ,nJ,nJ,nJ,nJ,nJ,nJ,nJ,nJ,V.sl 0 true [],V.str [],V.bool false,nJ,V.bool false,nJ,nJ,nJ,V.int .i64 0,V.int .i64 0,nJ,nJ,V.str [],nJ,nJ,V.bool false,nJ,V.bool false,nJ,nJ,nJ,V.int .u64 0,V.bool false,V.bool false,nJ,V.sl 0 true [],V.sl 0 true [],nJ,nJ,nJ,nJ,nJ,nJ,nJ,nJ,nJ,nJ,nJ,nJ,nJ,nJ,nJ,nJ,nJ,nJ,nJ,nJ,nJ,nJ,nJ,nJ,nJ,V.sl 0 true [],V.str [],V.bool false,nJ,V.bool false,nJ,nJ,nJ,V.int .i64 0,V.int .i64 0,nJ,nJ,V.str [],nJ,nJ,V.bool false,nJ,V.bool false,nJ,nJ,nJ,V.int .u64 0,V.bool false,V.bool false,V.sl 0 true [],V.int .u64 0,nJ,V.sl 0 true [],V.int .u64 0,V.int .u64 0,V.int .u64 0,V.int .u64 0,V.int .u64 0,V.int .u64 0,V.sl 0 true [],V.int .u64 0,V.int .u64 0,V.sl 0 true [],V.int .i64 0,V.int .i64 0,V.int .u64 0,V.int .u64 0,V.int .i64 0,V.int .u64 0,V.sl 0 true [],V.int .i64 0,V.int .i64 0,V.int .u64 0,nJ,nJ,nJ,nJ,nJ,nJ,nJ,nJ,nJ,nJ,nJ,nJ,nJ,nJ,nJ,nJ,nJ,nJ,nJ,nJ,nJ,nJ,nJ,nJ,nJ,V.sl 0 true [],V.str [],V.bool false,nJ,V.bool false,nJ,nJ,nJ,V.int .i64 0,V.int .i64 0,nJ,nJ,V.str [],nJ,nJ,V.bool false,nJ,V.bool false,nJ,nJ,nJ,V.int .u64 0,V.bool false,V.bool false,nJ,V.sl 0 true [],V.sl 0 true [],nJ,nJ,nJ,nJ,nJ,nJ,nJ,nJ,nJ,nJ,nJ,nJ,nJ,nJ,nJ,nJ,nJ,nJ,nJ,nJ,nJ,nJ,nJ,nJ,nJ,V.sl 0 true [],V.str [],V.bool false,nJ,V.bool false,nJ,nJ,nJ,V.int .i64 0,V.int .i64 0,nJ,nJ,V.str [],nJ,nJ,V.bool false,nJ,V.bool false,nJ,nJ,nJ,V.int .u64 0,V.bool false,V.bool false,V.sl 0 true [],V.int .u64 0,nJ,V.sl 0 true [],V.int .u64 0,V.int .u64 0,V.int .u64 0,V.int .u64 0,V.int .u64 0,V.int .u64 0,V.sl 0 true [],V.int .u64 0,V.int .u64 0,V.sl 0 true [],V.int .i64 0,V.int .i64 0,V.int .u64 0,V.int .u64 0,V.int .i64 0,V.int .u64 0,V.sl 0 true [],V.sl 0 true [],V.sl 0 true [],V.sl 0 true [],V.int .u64 0,V.int .i64 0]/\Aq prog 66 0=some (0,125,true)/\Aq prog 66 1=some (125,125,true)/\Aq prog 66 4=some (252,3,true)/\Be prog 66=true/\tyE prog 68=some (1,false)/\tyE prog 69=some (1,false)/\tyE prog 70=some (1,false)/\tyE prog 72=some (1,false)/\tyE prog 74=some (1,false)/\tyE prog 75=some (1,false)/\tyE prog 77=some (1,false)/\tyE prog 79=some (1,false)/\tyE prog 80=some (1,false)/\tyE prog 81=some (1,false)/\tyE prog 82=some (1,false)/\tyE prog 83=some (1,false)/\tyE prog 84=some (1,false)/\zeroE prog 84=some [V.sl 0 true []]/\slE prog 84=some (209,5,48)/\tyE prog 86=some (1,false)/\tyE prog 87=some (1,false)/\tyE prog 88=some (3,true):=by and_intros<;>kernel_rfl
@[simp] theorem T578:Be prog 88=true/\tyE prog 89=some (3,true)/\Be prog 89=true/\tyE prog 97=some (1,false)/\tyE prog 98=some (1,false)/\tyE prog 102=some (1,false)/\tyE prog 103=some (1,false)/\tyE prog 104=some (1,false)/\tyE prog 105=some (3,true)/\Be prog 105=true/\tyE prog 106=some (3,true)/\zeroE prog 106=some [V.int .i64 0,nJ,V.str []]/\Aq prog 106 0=some (0,1,false)/\plE prog 106 0=some (0,1)/\Aq prog 106 1=some (1,1,false)/\plE prog 106 1=some (1,1)/\Aq prog 106 2=some (2,1,false)/\Be prog 106=true/\eqE prog 106=some [.i,.i,.s]/\tyE prog 107=some (4,true)/\Be prog 107=true/\tyE prog 108=some (4,true)/\zeroE prog 108=some [V.int .u64 0,V.int .i64 0,nJ,V.str []]/\Aq prog 108 0=some (0,1,false)/\plE prog 108 0=some (0,1):=by and_intros<;>kernel_rfl
@[simp] theorem T628:Aq prog 108 1=some (1,3,true)/\plE prog 108 1=some (1,3)/\Be prog 108=true/\eqE prog 108=some [.i,.i,.i,.s]/\tyE prog 109=some (1,false)/\zeroE prog 109=some [V.int .i64 0]/\isInt prog 109=some .i64/\tyE prog 111=some (1,false)/\tyE prog 113=some (1,false)/\tyE prog 114=some (2,true)/\Be prog 114=true/\tyE prog 115=some (2,true)/\zeroE prog 115=some [V.int .i64 0,V.int .i64 0]/\Aq prog 115 0=some (0,1,false)/\plE prog 115 0=some (0,1)/\plE prog 115 1=some (1,1)/\Be prog 115=true/\tyE prog 117=some (1,false)/\tyE prog 123=some (4,true)/\Be prog 123=true/\tyE prog 124=some (4,true)/\zeroE prog 124=some [V.int .i64 0,V.int .u64 0,nJ,V.str []]/\Aq prog 124 0=some (0,1,false)/\plE prog 124 0=some (0,1)/\Aq prog 124 1=some (1,1,false):=by and_intros<;>kernel_rfl
@[simp] theorem T671:plE prog 124 1=some (1,1)/\Aq prog 124 2=some (2,1,false)/\plE prog 124 2=some (2,1)/\Aq prog 124 3=some (3,1,false)/\plE prog 124 3=some (3,1)/\Be prog 124=true/\eqE prog 124=some [.i,.i,.i,.s]/\tyE prog 133=some (1,false)/\zeroE prog 133=some [V.sl 0 true []]/\slE prog 133=some (5,1,1)/\bsE prog 133=true/\tyE prog 140=some (1,false)/\tyE prog 141=some (1,false)/\tyE prog 142=some (1,false)/\tyE prog 143=some (1,false)/\tyE prog 144=some (3,true)/\Be prog 144=true/\tyE prog 145=some (3,true)/\zeroE prog 145=some [V.int .u64 0,V.int .u64 0,V.sl 0 true []]/\Aq prog 145 0=some (0,1,false)/\plE prog 145 0=some (0,1)/\Aq prog 145 1=some (1,1,false)/\plE prog 145 1=some (1,1)/\Aq prog 145 2=some (2,1,false)/\plE prog 145 2=some (2,1):=by and_intros<;>kernel_rfl
@[simp] theorem T707:Be prog 145=true/\tyE prog 148=some (4,true)/\Be prog 148=true/\tyE prog 149=some (4,true)/\zeroE prog 149=some [V.int .u64 0,V.int .u64 0,V.int .u64 0,V.sl 0 true []]/\Aq prog 149 0=some (0,1,false)/\plE prog 149 0=some (0,1)/\Aq prog 149 1=some (1,3,true)/\plE prog 149 1=some (1,3)/\Be prog 149=true/\tyE prog 160=some (1,false)/\tyE prog 161=some (1,false)/\tyE prog 164=some (1,false)/\tyE prog 165=some (1,false)/\tyE prog 166=some (1,false)/\tyE prog 170=some (1,false)/\tyE prog 174=some (1,false)/\tyE prog 175=some (1,false)/\tyE prog 176=some (1,false)/\tyE prog 177=some (1,false)/\tyE prog 178=some (1,false)/\tyE prog 181=some (1,false)/\tyE prog 182=some (1,false)/\tyE prog 184=some (1,false)/\zeroE prog 184=some [V.sl 0 true []]:=by and_intros<;>kernel_rfl
@[simp] theorem T750:slE prog 184=some (277,2,24)/\tyE prog 185=some (1,false)/\zeroE prog 185=some [V.sl 0 true []]/\slE prog 185=some (190,6,72)/\tyE prog 187=some (1,false)/\tyE prog 188=some (1,false)/\zeroE prog 188=some [V.sl 0 true []]/\slE prog 188=some (192,3,32)/\tyE prog 189=some (6,true)/\Be prog 189=true/\tyE prog 190=some (6,true)/\zeroE prog 190=some [V.str [],V.int .i64 0,V.sl 0 true [],V.int .i64 0,V.int .i64 0,V.int .i64 0]/\Aq prog 190 0=some (0,1,false)/\plE prog 190 0=some (0,1)/\Aq prog 190 1=some (1,1,false)/\plE prog 190 1=some (1,1)/\Aq prog 190 2=some (2,1,false)/\plE prog 190 2=some (2,1)/\Aq prog 190 3=some (3,1,false)/\Aq prog 190 4=some (4,1,false)/\Aq prog 190 5=some (5,1,false)/\plE prog 190 5=some (5,1)/\Be prog 190=true/\tyE prog 191=some (3,true)/\Be prog 191=true:=by and_intros<;>kernel_rfl
@[simp] theorem T798:tyE prog 192=some (3,true)/\zeroE prog 192=some [V.int .i64 0,V.int .i64 0,V.str []]/\Aq prog 192 0=some (0,1,false)/\plE prog 192 0=some (0,1)/\Aq prog 192 1=some (1,1,false)/\plE prog 192 1=some (1,1)/\Aq prog 192 2=some (2,1,false)/\plE prog 192 2=some (2,1)/\Be prog 192=true/\tyE prog 194=some (1,false)/\tyE prog 195=some (1,false)/\tyE prog 196=some (1,false)/\isInt prog 196=some .u64/\tyE prog 197=some (5,true)/\Be prog 197=true/\tyE prog 198=some (5,true)/\zeroE prog 198=some [V.int .i64 0,V.int .i64 0,V.int .i64 0,V.int .i64 0,V.int .i32 0]/\Aq prog 198 0=some (0,1,false)/\plE prog 198 0=some (0,1)/\Aq prog 198 1=some (1,1,false)/\plE prog 198 1=some (1,1)/\Aq prog 198 2=some (2,1,false)/\plE prog 198 2=some (2,1)/\Aq prog 198 3=some (3,1,false)/\plE prog 198 3=some (3,1):=by and_intros<;>kernel_rfl
@[simp] theorem T837:Aq prog 198 4=some (4,1,false)/\plE prog 198 4=some (4,1)/\Be prog 198=true/\eqE prog 198=some [.i,.i,.i,.i,.i]/\tyE prog 199=some (1,false)/\tyE prog 200=some (1,false)/\tyE prog 201=some (1,false)/\tyE prog 202=some (1,false)/\tyE prog 203=some (1,false)/\tyE prog 204=some (1,false)/\tyE prog 205=some (1,false)/\tyE prog 207=some (1,false)/\tyE prog 208=some (5,true)/\Be prog 208=true/\tyE prog 209=some (5,true)/\zeroE prog 209=some [V.int .i64 0,V.int .u64 0,nJ,V.str [],V.int .u64 0]/\plE prog 209 0=some (0,4)/\plE prog 209 1=some (4,1)/\Be prog 209=true/\eqE prog 209=some [.i,.i,.i,.s,.i]/\tyE prog 211=some (1,false)/\tyE prog 214=some (1,false)/\zeroE prog 214=some [V.poi]/\tyE prog 218=some (1,false)/\zeroE prog 218=some [V.sl 0 true []]:=by and_intros<;>kernel_rfl
@[simp] theorem T878:slE prog 218=some (43,1,24)/\tyE prog 221=some (1,false)/\tyE prog 222=some (1,false)/\tyE prog 224=some (1,false)/\zeroE prog 224=some [V.nilp]/\tyE prog 242=some (1,false)/\tyE prog 266=some (4,true)/\Be prog 266=true/\tyE prog 267=some (4,true)/\zeroE prog 267=some [V.int .i64 0,V.int .i64 0,V.int .i64 0,nJ]/\Aq prog 267 0=some (0,1,false)/\plE prog 267 0=some (0,1)/\Aq prog 267 1=some (1,1,false)/\plE prog 267 1=some (1,1)/\Aq prog 267 2=some (2,1,false)/\plE prog 267 2=some (2,1)/\Aq prog 267 3=some (3,1,false)/\plE prog 267 3=some (3,1)/\Be prog 267=true/\tyE prog 276=some (2,true)/\Be prog 276=true/\tyE prog 277=some (2,true)/\zeroE prog 277=some [V.str [],nJ]/\Aq prog 277 0=some (0,1,false)/\plE prog 277 0=some (0,1):=by and_intros<;>kernel_rfl
@[simp] theorem T920:Aq prog 277 1=some (1,1,false)/\plE prog 277 1=some (1,1)/\Be prog 277=true/\tyE prog 297=some (1,false)/\tyE prog 298=some (1,false)/\zeroE prog 298=some [V.poi]/\mpE prog 298=some (2,false,[V.sl 0 true []])/\tyE prog 299=some (3,true)/\Be prog 299=true/\tyE prog 300=some (3,true)/\zeroE prog 300=some [V.str [],V.poi,V.int .i64 0]/\Aq prog 300 0=some (0,1,false)/\plE prog 300 0=some (0,1)/\Aq prog 300 1=some (1,1,false)/\plE prog 300 1=some (1,1)/\Aq prog 300 2=some (2,1,false)/\Be prog 300=true/\tyE prog 306=some (8,true)/\zeroE prog 306=some [V.int .u8 0,V.int .u8 0,V.int .u8 0,V.int .u8 0,V.int .u8 0,V.int .u8 0,V.int .u8 0,V.int .u8 0]:=by and_intros<;>kernel_rfl
@[simp] theorem T948:arE prog 306=some (8,1,false):=by kernel_rfl
@[simp] theorem T949(i:Nat):plE prog 306 i=some (i*1,1):=J1 T948 i
@[simp] theorem T950:Be prog 306=true/\tyE prog 307=some (1,false)/\tyE prog 308=some (2,true)/\Be prog 308=true/\tyE prog 309=some (2,true)/\zeroE prog 309=some [V.str [],V.bool false]/\Aq prog 309 0=some (0,1,false)/\plE prog 309 0=some (0,1)/\Aq prog 309 1=some (1,1,false)/\Be prog 309=true/\tyE prog 321=some (1,false)/\isInt prog 321=some .i16/\tyE prog 341=some (1,false)/\zeroE prog 341=some [V.sl 0 true []]/\slE prog 341=some (345,3,32)/\tyE prog 344=some (3,true)/\Be prog 344=true/\tyE prog 345=some (3,true)/\zeroE prog 345=some [V.int .i64 0,V.str [],V.bool false]/\Aq prog 345 0=some (0,1,false)/\plE prog 345 0=some (0,1)/\Aq prog 345 1=some (1,1,false)/\plE prog 345 1=some (1,1)/\Aq prog 345 2=some (2,1,false)/\plE prog 345 2=some (2,1):=by and_intros<;>kernel_rfl
@[simp] theorem T990:Be prog 345=true/\tyE prog 364=some (1,false)/\tyE prog 365=some (1,false)/\zeroE prog 365=some [V.nilp]/\tyE prog 366=some (2,true)/\Be prog 366=true/\tyE prog 367=some (2,true)/\zeroE prog 367=some [V.nilp,V.sl 0 true []]/\Aq prog 367 0=some (0,1,false)/\Aq prog 367 1=some (1,1,false)/\Be prog 367=true/\tyE prog 368=some (1,false)/\tyE prog 369=some (1,false)/\tyE prog 382=some (3,true)/\Be prog 382=true/\tyE prog 383=some (3,true)/\zeroE prog 383=some [nJ,nJ,V.int .i64 0]/\Aq prog 383 0=some (0,1,false)/\plE prog 383 0=some (0,1)/\Aq prog 383 1=some (1,1,false)/\plE prog 383 1=some (1,1)/\Aq prog 383 2=some (2,1,false)/\plE prog 383 2=some (2,1)/\Be prog 383=true/\tyE prog 400=some (5,true):=by and_intros<;>kernel_rfl
@[simp] theorem T1032:zeroE prog 400=some [V.bool false,V.bool false,V.bool false,V.bool false,V.bool false]:=by kernel_rfl
@[simp] theorem T1033:arE prog 400=some (5,1,false):=by kernel_rfl
@[simp] theorem T1034(i:Nat):plE prog 400 i=some (i*1,1):=J1 T1033 i
@[simp] theorem T1035:Be prog 400=true/\tyE prog 404=some (5,true)/\Be prog 404=true/\tyE prog 405=some (5,true)/\zeroE prog 405=some [V.bool false,V.bool false,V.bool false,V.int .i32 0,V.int .i32 0]/\Aq prog 405 0=some (0,1,false)/\plE prog 405 0=some (0,1)/\Aq prog 405 1=some (1,1,false)/\plE prog 405 1=some (1,1)/\Aq prog 405 2=some (2,1,false)/\plE prog 405 2=some (2,1)/\Aq prog 405 3=some (3,1,false)/\plE prog 405 3=some (3,1)/\Aq prog 405 4=some (4,1,false)/\plE prog 405 4=some (4,1)/\Be prog 405=true/\tyE prog 413=some (1,false)/\tyE prog 432=some (4,true)/\Be prog 432=true/\tyE prog 433=some (4,true)/\Be prog 433=true/\tyE prog 434=some (0,true):=by and_intros<;>kernel_rfl
@[simp] theorem T1088:arE prog 434=some (0,1,false):=by kernel_rfl
@[simp] theorem T1089(i:Nat):plE prog 434 i=some (i*1,1):=J1 T1088 i
@[simp] theorem T1090:Be prog 434=true/\tyE prog 435=some (0,true)/\Be prog 435=true/\tyE prog 436=some (0,true)/\Be prog 436=true/\byE prog 437=true/\tyE prog 437=some (1,false)/\isInt prog 437=some .u8/\byE prog 438=true/\tyE prog 438=some (1,false)/\isInt prog 438=some .u8/\tyE prog 439=some (1,false)/\tyE prog 440=some (1,false)/\isInt prog 440=some .i32/\tyE prog 441=some (1,false)/\isInt prog 441=some .i32/\tyE prog 442=some (11,true)/\Be prog 442=true/\tyE prog 443=some (11,true)/\Be prog 443=true:=by and_intros<;>kernel_rfl
end Go.Proofs.YtjkmhmepljamoaaGreat
end
section

end
section

end
section
namespace Go.Proofs.YtjkmhmepljamoaaGreat
open Go.Ab Tryz
@[simp] theorem T580:zeroE prog 89=some [V.str [],V.sl 0 true [],V.sl 0 true []]:=by kernel_rfl
@[simp] theorem T581:Aq prog 89 0=some (0,1,false):=by kernel_rfl
@[simp] theorem T583:Aq prog 89 1=some (1,1,false):=by kernel_rfl
@[simp] theorem T585:Aq prog 89 2=some (2,1,false):=by kernel_rfl
@[simp] theorem T586:plE prog 89 2=some (2,1):=by kernel_rfl
structure InstD where
 op:Int
 a:Int
 b:Int
 c:Int
 imm:Int
 deriving DecidableEq
abbrev InstD.row(i:InstD):List V:=[.int .i64 i.op,.int .i64 i.a,.int .i64 i.b,.int .i64 i.c,.int .i32 i.imm]
def AK(op:Int):Int :=
 if 1<=op/\op<=13 then 2
 else if op=16\/op=23\/(32<=op/\op<=36)\/(40<=op/\op<=45)\/op=49 then 3
 else if 17<=op/\op<=19 then 4
 else if 20<=op/\op<=22 then 5
 else if op=24 then 6
 else if op=48 then 7
 else if op=58\/op=59 then 8
 else if op=60\/op=61 then 9
 else if op=56\/op=57\/(62<=op/\op<=64)then 1
 else 0
def By(f:Int):Int:=if f=3\/f=7 then -32768 else 0
def Al(f:Int):Int:=if f=3\/f=7 then 32767 else if f=4\/f=6 then 65535 else if f=5 then 31 else if f=8 then 7 else if f=9 then 11 else 0
def uA(f:Int):Bool:=decide (2<=f)
def uB(f:Int):Bool:=decide (2<=f)&&decide (f<=5)
def uC(f:Int):Bool:=decide (f=2)
abbrev usV(f:Int):V:=.tup [.st [.bool (uA f),.bool (uB f),.bool (uC f),.int .i32 (By f),.int .i32 (Al f)],.bool (decide (f≠0))]
set_option maxHeartbeats 16000000 in
theorem Zb(op:Int):AC prog 299 [.int .i64 op] (usV (AK op)):=by
 refine sX func299 ntmps299 ?_;intros;apply wr;refine AB rfl (fun h1=>?_) (fun h1=>?_)
 ·simp at h1;subst h1;refine au ?_;refine CV ?_;refine ar ?_;simp[AK,uA,uB,uC,By,Al]
 simp at h1;refine au ?_;intros;apply wr;refine AB rfl (fun h2=>?_) (fun h2=>?_)
 ·simp at h2;subst h2;refine au ?_;refine CV ?_;refine ar ?_;simp[AK,uA,uB,uC,By,Al]
 simp at h2;refine au ?_;intros;apply wr;refine AB rfl (fun h3=>?_) (fun h3=>?_)
 ·simp at h3;subst h3;refine au ?_;refine CV ?_;refine ar ?_;simp[AK,uA,uB,uC,By,Al]
 simp at h3;refine au ?_;intros;apply wr;refine AB rfl (fun h4=>?_) (fun h4=>?_)
 ·simp at h4;subst h4;refine au ?_;refine CV ?_;refine ar ?_;simp[AK,uA,uB,uC,By,Al]
 simp at h4;refine au ?_;intros;apply wr;refine AB rfl (fun h5=>?_) (fun h5=>?_)
 ·simp at h5;subst h5;refine au ?_;refine CV ?_;refine ar ?_;simp[AK,uA,uB,uC,By,Al]
 simp at h5;refine au ?_;intros;apply wr;refine AB rfl (fun h6=>?_) (fun h6=>?_)
 ·simp at h6;subst h6;refine au ?_;refine CV ?_;refine ar ?_;simp[AK,uA,uB,uC,By,Al]
 simp at h6;refine au ?_;intros;apply wr;refine AB rfl (fun h7=>?_) (fun h7=>?_)
 ·simp at h7;subst h7;refine au ?_;refine CV ?_;refine ar ?_;simp[AK,uA,uB,uC,By,Al]
 simp at h7;refine au ?_;intros;apply wr;refine AB rfl (fun h8=>?_) (fun h8=>?_)
 ·simp at h8;subst h8;refine au ?_;refine CV ?_;refine ar ?_;simp[AK,uA,uB,uC,By,Al]
 simp at h8;refine au ?_;intros;apply wr;refine AB rfl (fun h9=>?_) (fun h9=>?_)
 ·simp at h9;subst h9;refine au ?_;refine CV ?_;refine ar ?_;simp[AK,uA,uB,uC,By,Al]
 simp at h9;refine au ?_;intros;apply wr;refine AB rfl (fun h10=>?_) (fun h10=>?_)
 ·simp at h10;subst h10;refine au ?_;refine CV ?_;refine ar ?_;simp[AK,uA,uB,uC,By,Al]
 simp at h10;refine au ?_;intros;apply wr;refine AB rfl (fun h11=>?_) (fun h11=>?_)
 ·simp at h11;subst h11;refine au ?_;refine CV ?_;refine ar ?_;simp[AK,uA,uB,uC,By,Al]
 simp at h11;refine au ?_;intros;apply wr;refine AB rfl (fun h12=>?_) (fun h12=>?_)
 ·simp at h12;subst h12;refine au ?_;refine CV ?_;refine ar ?_;simp[AK,uA,uB,uC,By,Al]
 simp at h12;refine au ?_;intros;apply wr;refine AB rfl (fun h13=>?_) (fun h13=>?_)
 ·simp at h13;subst h13;refine au ?_;refine ar ?_;simp[AK,uA,uB,uC,By,Al]
 simp at h13;refine au ?_;intros;apply wr;refine AB rfl (fun h14=>?_) (fun h14=>?_)
 ·simp at h14;subst h14;refine au ?_;refine CV ?_;refine ar ?_;simp[AK,uA,uB,uC,By,Al]
 simp at h14;refine au ?_;intros;apply wr;refine AB rfl (fun h15=>?_) (fun h15=>?_)
 ·simp at h15;subst h15;refine au ?_;refine CV ?_;refine ar ?_;simp[AK,uA,uB,uC,By,Al]
 simp at h15;refine au ?_;intros;apply wr;refine AB rfl (fun h16=>?_) (fun h16=>?_)
 ·simp at h16;subst h16;refine au ?_;refine CV ?_;refine ar ?_;simp[AK,uA,uB,uC,By,Al]
 simp at h16;refine au ?_;intros;apply wr;refine AB rfl (fun h17=>?_) (fun h17=>?_)
 ·simp at h17;subst h17;refine au ?_;refine CV ?_;refine ar ?_;simp[AK,uA,uB,uC,By,Al]
 simp at h17;refine au ?_;intros;apply wr;refine AB rfl (fun h18=>?_) (fun h18=>?_)
 ·simp at h18;subst h18;refine au ?_;refine CV ?_;refine ar ?_;simp[AK,uA,uB,uC,By,Al]
 simp at h18;refine au ?_;intros;apply wr;refine AB rfl (fun h19=>?_) (fun h19=>?_)
 ·simp at h19;subst h19;refine au ?_;refine CV ?_;refine ar ?_;simp[AK,uA,uB,uC,By,Al]
 simp at h19;refine au ?_;intros;apply wr;refine AB rfl (fun h20=>?_) (fun h20=>?_)
 ·simp at h20;subst h20;refine au ?_;refine CV ?_;refine ar ?_;simp[AK,uA,uB,uC,By,Al]
 simp at h20;refine au ?_;intros;apply wr;refine AB rfl (fun h21=>?_) (fun h21=>?_)
 ·simp at h21;subst h21;refine au ?_;refine CV ?_;refine ar ?_;simp[AK,uA,uB,uC,By,Al]
 simp at h21;refine au ?_;intros;apply wr;refine AB rfl (fun h22=>?_) (fun h22=>?_)
 ·simp at h22;subst h22;refine au ?_;refine CV ?_;refine ar ?_;simp[AK,uA,uB,uC,By,Al]
 simp at h22;refine au ?_;intros;apply wr;refine AB rfl (fun h23=>?_) (fun h23=>?_)
 ·simp at h23;subst h23;refine au ?_;refine CV ?_;refine ar ?_;simp[AK,uA,uB,uC,By,Al]
 simp at h23;refine au ?_;intros;apply wr;refine AB rfl (fun h24=>?_) (fun h24=>?_)
 ·simp at h24;subst h24;refine au ?_;refine CV ?_;refine ar ?_;simp[AK,uA,uB,uC,By,Al]
 simp at h24;refine au ?_;intros;apply wr;refine AB rfl (fun h25=>?_) (fun h25=>?_)
 ·simp at h25;subst h25;refine au ?_;refine CV ?_;refine ar ?_;simp[AK,uA,uB,uC,By,Al]
 simp at h25;refine au ?_;intros;apply wr;refine AB rfl (fun h26=>?_) (fun h26=>?_)
 ·simp at h26;subst h26;refine au ?_;refine CV ?_;refine ar ?_;simp[AK,uA,uB,uC,By,Al]
 simp at h26;refine au ?_;intros;apply wr;refine AB rfl (fun h27=>?_) (fun h27=>?_)
 ·simp at h27;subst h27;refine au ?_;refine ar ?_;simp[AK,uA,uB,uC,By,Al]
 simp at h27;refine au ?_;intros;apply wr;refine AB rfl (fun h28=>?_) (fun h28=>?_)
 ·simp at h28;subst h28;refine au ?_;refine CV ?_;refine ar ?_;simp[AK,uA,uB,uC,By,Al]
 simp at h28;refine au ?_;intros;apply wr;refine AB rfl (fun h29=>?_) (fun h29=>?_)
 ·simp at h29;subst h29;refine au ?_;refine CV ?_;refine ar ?_;simp[AK,uA,uB,uC,By,Al]
 simp at h29;refine au ?_;intros;apply wr;refine AB rfl (fun h30=>?_) (fun h30=>?_)
 ·simp at h30;subst h30;refine au ?_;refine ar ?_;simp[AK,uA,uB,uC,By,Al]
 simp at h30;refine au ?_;intros;apply wr;refine AB rfl (fun h31=>?_) (fun h31=>?_)
 ·simp at h31;subst h31;refine au ?_;refine CV ?_;refine ar ?_;simp[AK,uA,uB,uC,By,Al]
 simp at h31;refine au ?_;intros;apply wr;refine AB rfl (fun h32=>?_) (fun h32=>?_)
 ·simp at h32;subst h32;refine au ?_;refine CV ?_;refine ar ?_;simp[AK,uA,uB,uC,By,Al]
 simp at h32;refine au ?_;intros;apply wr;refine AB rfl (fun h33=>?_) (fun h33=>?_)
 ·simp at h33;subst h33;refine au ?_;refine ar ?_;simp[AK,uA,uB,uC,By,Al]
 simp at h33;refine au ?_;intros;apply wr;refine AB rfl (fun h34=>?_) (fun h34=>?_)
 ·simp at h34;subst h34;refine au ?_;refine ar ?_;simp[AK,uA,uB,uC,By,Al]
 simp at h34;refine au ?_;intros;apply wr;refine AB rfl (fun h35=>?_) (fun h35=>?_)
 ·simp at h35;subst h35;refine au ?_;refine ar ?_;simp[AK,uA,uB,uC,By,Al]
 simp at h35;refine au ?_;intros;apply wr;refine AB rfl (fun h36=>?_) (fun h36=>?_)
 ·simp at h36;subst h36;refine au ?_;refine CV ?_;refine ar ?_;simp[AK,uA,uB,uC,By,Al]
 simp at h36;refine au ?_;intros;apply wr;refine AB rfl (fun h37=>?_) (fun h37=>?_)
 ·simp at h37;subst h37;refine au ?_;refine ar ?_;simp[AK,uA,uB,uC,By,Al]
 simp at h37;refine au ?_;intros;apply wr;refine AB rfl (fun h38=>?_) (fun h38=>?_)
 ·simp at h38;subst h38;refine au ?_;refine CV ?_;refine ar ?_;simp[AK,uA,uB,uC,By,Al]
 simp at h38;refine au ?_;intros;apply wr;refine AB rfl (fun h39=>?_) (fun h39=>?_)
 ·simp at h39;subst h39;refine au ?_;refine ar ?_;simp[AK,uA,uB,uC,By,Al]
 simp at h39;refine au ?_;intros;apply wr;refine AB rfl (fun h40=>?_) (fun h40=>?_)
 ·simp at h40;subst h40;refine au ?_;refine CV ?_;refine ar ?_;simp[AK,uA,uB,uC,By,Al]
 simp at h40;refine au ?_;intros;apply wr;refine AB rfl (fun h41=>?_) (fun h41=>?_)
 ·simp at h41;subst h41;refine au ?_;refine CV ?_;refine ar ?_;simp[AK,uA,uB,uC,By,Al]
 simp at h41;refine au ?_;intros;apply wr;refine AB rfl (fun h42=>?_) (fun h42=>?_)
 ·simp at h42;subst h42;refine au ?_;refine CV ?_;refine ar ?_;simp[AK,uA,uB,uC,By,Al]
 simp at h42;refine au ?_;intros;apply wr;refine AB rfl (fun h43=>?_) (fun h43=>?_)
 ·simp at h43;subst h43;refine au ?_;refine CV ?_;refine ar ?_;simp[AK,uA,uB,uC,By,Al]
 simp at h43;refine au ?_;intros;apply wr;refine AB rfl (fun h44=>?_) (fun h44=>?_)
 ·simp at h44;subst h44;refine au ?_;refine ar ?_;simp[AK,uA,uB,uC,By,Al]
 simp at h44;refine au ?_;have hf:AK op=0:=by
  unfold AK;repeat rw[nG]
 refine ar ?_;simp[hf,uA,uB,uC,By,Al]
def Rq(r:Int)(used:Bool):Bool:=if used then decide (0<=r)&&decide (r<=15)else decide (r=0)
theorem DD(r:Int)(u:Bool):AC prog 326 [.int .i64 r,.bool u] (.bool (Rq r u)):=by
 refine sX func326 ntmps326 ?_;intros;apply wr;cases u with
 | true =>
  refine CV ?_;refine ar ?_;simp[Rq]
 | false =>
  refine C3 ?_;intros;apply wr;refine ar ?_;simp[Rq];rw[Bool.eq_iff_iff];simp
def validD(i:InstD):Bool:=decide (AK i.op≠0)&&Rq i.a (uA (AK i.op))&&Rq i.b (uB (AK i.op))&&Rq i.c (uC (AK i.op))&&decide (By (AK i.op)<=i.imm)&&decide (i.imm<=Al (AK i.op))
set_option maxHeartbeats 4000000 in
theorem Lt(i:InstD):AC prog 301 [.st i.row] (.bool (validD i)):=by
 refine sX func301 ntmps301 ?_;refine cX (Zb i.op) ?_;intros;apply wr;first|refine B0 (DD i.a (uA (AK i.op))) rfl (fun hgd=>?_) (by simp[BY]) ?_|refine BI (DD i.a (uA (AK i.op))) rfl (by simp) (fun hgd=>?_) (by simp[BY]) ?_
 all_goals simp
 all_goals (try (first|exact hgd|(simp at hgd;first|done|assumption|grind)))
 refine au ?_;intros;apply wr;first|refine B0 (DD i.b (uB (AK i.op))) rfl (fun hgd=>?_) (by simp[BY]) ?_|refine BI (DD i.b (uB (AK i.op))) rfl (by simp) (fun hgd=>?_) (by simp[BY]) ?_
 all_goals simp
 all_goals (try (first|exact hgd|(simp at hgd;first|done|assumption|grind)))
 refine au ?_;intros;apply wr;first|refine B0 (DD i.c (uC (AK i.op))) rfl (fun hgd=>?_) (by simp[BY]) ?_|refine BI (DD i.c (uC (AK i.op))) rfl (by simp) (fun hgd=>?_) (by simp[BY]) ?_
 all_goals simp
 all_goals (try (first|exact hgd|(simp at hgd;first|done|assumption|grind)))
 refine au ?_;intros;apply wr;refine ar ?_;simp[validD];try (rw[Bool.eq_iff_iff];simp)
theorem Eh(op:Int):0<=AK op/\AK op<=9:=by
 unfold AK
 (repeat' split)<;>omega
theorem Eg(op:Int):AK op=0\/AK op=1\/AK op=2\/AK op=3\/AK op=4\/AK op=5\/AK op=6\/AK op=7\/AK op=8\/AK op=9:=by have:=Eh op;omega
set_option maxHeartbeats 8000000 in
theorem JH(op:Int):AC prog 165 [.int .i64 op] (.int .i64 (AK op)):=by
 refine sX func165 ntmps165 ?_;intros;apply wr;refine AB rfl (fun h1=>?_) (fun h1=>?_)
 ·simp at h1;refine au ?_;refine ar ?_;simp[AK,h1]
 simp at h1;refine au ?_;intros;apply wr;refine AB rfl (fun h2=>?_) (fun h2=>?_)
 ·simp at h2;have hf:AK op=3:=by unfold AK;rw[nG,nH]
  refine au ?_;refine ar ?_;simp[hf]
 simp at h2;refine au ?_;intros;apply wr;refine AB rfl (fun h3=>?_) (fun h3=>?_)
 ·simp at h3;have hf:AK op=4:=by unfold AK;rw[nG,nG,nH]
  refine au ?_;refine ar ?_;simp[hf]
 simp at h3;refine au ?_;intros;apply wr;refine AB rfl (fun h4=>?_) (fun h4=>?_)
 ·simp at h4;have hf:AK op=5:=by unfold AK;rw[nG,nG,nG,nH]
  refine au ?_;refine ar ?_;simp[hf]
 simp at h4;refine au ?_;intros;apply wr;refine AB rfl (fun h5=>?_) (fun h5=>?_)
 ·simp at h5;have hf:AK op=6:=by unfold AK;rw[nG,nG,nG,nG,nH]
  refine au ?_;refine ar ?_;simp[hf]
 simp at h5;refine au ?_;intros;apply wr;refine AB rfl (fun h6=>?_) (fun h6=>?_)
 ·simp at h6;have hf:AK op=7:=by unfold AK;rw[nG,nG,nG,nG,nG,nH]
  refine au ?_;refine ar ?_;simp[hf]
 simp at h6;refine au ?_;intros;apply wr;refine AB rfl (fun h7=>?_) (fun h7=>?_)
 ·simp at h7;have hf:AK op=8:=by unfold AK;rw[nG,nG,nG,nG,nG,nG,nH]
  refine au ?_;refine ar ?_;simp[hf]
 simp at h7;refine au ?_;intros;apply wr;refine AB rfl (fun h8=>?_) (fun h8=>?_)
 ·simp at h8;have hf:AK op=9:=by unfold AK;rw[nG,nG,nG,nG,nG,nG,nG,nH]
  refine au ?_;refine ar ?_;simp[hf]
 simp at h8;refine au ?_;intros;apply wr;refine AB rfl (fun h9=>?_) (fun h9=>?_)
 ·simp at h9;have hf:AK op=1:=by unfold AK;rw[nG,nG,nG,nG,nG,nG,nG,nG,nH]
  refine au ?_;refine ar ?_;simp[hf]
 simp at h9;have hf:AK op=0:=by
  unfold AK;repeat rw[nG]
 refine au ?_;refine ar ?_;simp[hf]
theorem Ci(r:Int):AC prog 222 [.int .i64 r] (.bool (Rq r true)):=by
 refine sX func222 ntmps222 ?_;refine ar ?_;simp[Rq]
theorem ML(f:Int):AC prog 166 [.int .i64 f] (.tup [.int .i64 (By f),.int .i64 (Al f)]):=by
 refine sX func166 ntmps166 ?_;intros;apply wr;refine AB rfl (fun h1=>?_) (fun h1=>?_)
 ·simp at h1;subst h1;refine au ?_;refine CV ?_;refine ar ?_;simp[By,Al]
 simp at h1;refine au ?_;intros;apply wr;refine AB rfl (fun h2=>?_) (fun h2=>?_)
 ·simp at h2;subst h2;refine au ?_;refine ar ?_;simp[By,Al]
 simp at h2;refine au ?_;intros;apply wr;refine AB rfl (fun h3=>?_) (fun h3=>?_)
 ·simp at h3;subst h3;refine au ?_;refine CV ?_;refine ar ?_;simp[By,Al]
 simp at h3;refine au ?_;intros;apply wr;refine AB rfl (fun h4=>?_) (fun h4=>?_)
 ·simp at h4;subst h4;refine au ?_;refine ar ?_;simp[By,Al]
 simp at h4;refine au ?_;intros;apply wr;refine AB rfl (fun h5=>?_) (fun h5=>?_)
 ·simp at h5;subst h5;refine au ?_;refine ar ?_;simp[By,Al]
 simp at h5;refine au ?_;intros;apply wr;refine AB rfl (fun h6=>?_) (fun h6=>?_)
 ·simp at h6;subst h6;refine au ?_;refine ar ?_;simp[By,Al]
 simp at h6;refine au ?_;intros;apply wr;refine AB rfl (fun h7=>?_) (fun h7=>?_)
 ·simp at h7;subst h7;refine au ?_;refine ar ?_;simp[By,Al]
 simp at h7;refine au ?_;refine ar ?_;simp[By,Al,h1,h2,h3,h4,h5,h6,h7]
set_option maxHeartbeats 8000000 in
theorem F2(i:InstD)(hi:-2147483648<=i.imm/\i.imm<=2147483647):AC prog 164 [.st i.row] (.bool (validD i)):=by
 have hw:IntKind.i64.wrap i.imm=i.imm:=AA;refine sX func164 ntmps164 ?_;refine cX (JH i.op) ?_;intros;apply wr;first|refine B0 (Ci i.a) rfl (fun hgd=>?_) (by simp[BY]) ?_|refine BI (Ci i.a) rfl (by simp) (fun hgd=>?_) (by simp[BY]) ?_
 all_goals simp
 all_goals (try (first|exact hgd|(simp at hgd;first|done|assumption|grind)))
 refine au ?_;intros;apply wr;first|refine B0 (Ci i.b) rfl (fun hgd=>?_) (by simp[BY]) ?_|refine BI (Ci i.b) rfl (by simp) (fun hgd=>?_) (by simp[BY]) ?_
 all_goals simp
 all_goals (try (first|exact hgd|(simp at hgd;first|done|assumption|grind)))
 refine au ?_;intros;apply wr;first|refine B0 (Ci i.c) rfl (fun hgd=>?_) (by simp[BY]) ?_|refine BI (Ci i.c) rfl (by simp) (fun hgd=>?_) (by simp[BY]) ?_
 all_goals simp
 all_goals (try (first|exact hgd|(simp at hgd;first|done|assumption|grind)))
 refine au ?_;intros;apply wr;refine AB rfl (fun h1=>?_) (fun h1=>?_)
 ·have hv:validD i=false:=by
   rcases Eg i.op with h|h|h|h|h|h|h|h|h|h<;>simp[validD,Rq,uA,uB,uC,h]at h1 ⊢<;>(try omega)
  refine au ?_;refine ar ?_;simp[hv]
 refine au ?_;refine cY (ML (AK i.op)) @hw ?_;intros;apply wr;refine AB rfl (fun h2=>?_) (fun h2=>?_)
 ·have hv:validD i=false:=by
   rcases Eg i.op with h|h|h|h|h|h|h|h|h|h<;>simp[validD,Rq,uA,uB,uC,By,Al,h]at h1 h2 ⊢<;>(try omega)
  refine au ?_;refine ar ?_;simp[hv]
 refine au ?_;intros;apply wr;refine ar ?_;simp;rw[Bool.eq_iff_iff];rcases Eg i.op with h|h|h|h|h|h|h|h|h|h<;>simp[validD,Rq,uA,uB,uC,By,Al,h]at h1 h2 ⊢<;>(try omega)
end Go.Proofs.YtjkmhmepljamoaaGreat
end
section
namespace Go.Proofs.YtjkmhmepljamoaaGreat
open Go.Ab Go.ChangeShapes Go.WideShapes Go.ChangeAt Go.RowKit Tryz
variable {w:World} {base:Nat} {spare:Nat->Bool} {held:Bool} {H:Type} {enc:TypeId×Value->H} {v:Value} {d:DataW H} {p:List MemPlace} {r:Reach} {b0:Nat}
set_option maxRecDepth 100000
theorem intsOf(k:IntKind):∀xs:List (List V),(∀x∈xs,∃n,(k.min<=n/\n<=k.max)/\x=[V.int k n])->∃l,xs=ints k l
 | [],_=>⟨[],rfl⟩
 | x::xs,h=>by
  obtain⟨l,rfl⟩:=intsOf k xs fun y hy=>h y (gW _ hy);obtain⟨n,hn,rfl⟩:=h x (g7 ..);exact⟨n::l,by simp[ints]⟩
theorem R_ints(hv:Value.okWide prog w r b0 22 v)(h:DataW.Trod enc prog w base spare held 22 v d p):∃l:List Int,R M0 w (X0 w) 0 (.sl 1 false (ints .i64 l)) v/\True:=by
 obtain⟨xs,h1,h2⟩:=Ze 1 (by kernel_rfl) Tryz.underlying22 hv h;simp only[isV,Tryz.underlying3]at h1;obtain⟨l,rfl⟩:=intsOf .i64 xs h1;rw[show prog.cellsOf 3=1 by kernel_rfl]at h2;exact⟨l,h2,trivial⟩
end Go.Proofs.YtjkmhmepljamoaaGreat
end
