/- A part of the proof of ReplicaTakes. -/
import Derived.Test.YtjkmhmepljamoaaGreatT03
import Derived.LoopN
set_option linter.all false
set_option maxHeartbeats 16000000
set_option maxRecDepth 100000
section
namespace Go.Ab
open Go.RowKit
def Ev[Glo](P:Program)(c:Code)(Q:Exit->St->Prop):Nat->St->Prop
 | 0,_=>False
 | n+1,st=>awp P c (thn (Ev P c Q n) Q) st
theorem Jl[Glo]{P:Program}{c:Code}{Q:Exit->St->Prop}{base:Nat}{Xa:Nat->Prop}{w0:W0}{N:Nat}:∀(n:Nat)(st:St)(a:Act)(w:World),st.n=N->Ev P c Q n st->Rel base Xa w0 st a w ->
  Code.rounds P c (fun e a' w'=>∃st',st'.n=N/\Q e st'/\Rel base Xa w0 st' a' w') n a w
 | 0,_,_,_,_,h,_=>h.elim
 | n+1,st,a,w,hn,h,hR=>by
  rw[rounds_succ];refine wp_mono (h base Xa w0 a w hR) fun e a' w' ⟨s,h1,h2,h3⟩=>?_;cases e with
  | normal=>exact Jl n s a' w' (h1.trans hn) h2 h3
  | _=>exact⟨s,h1.trans hn,h2,h3⟩
theorem Ad[Glo]{P:Program}{c:Code}{Q:Exit->St->Prop}{st:St}(n:Nat)(h:Ev P c Q n st):awp P (.loop c) Q st:=fun _ _ _ a w hR=>wp_loop_rounds n (Jl n st a w rfl h hR)
theorem BE[Glo]{P:Program}{c:Code}{Q:Exit->St->Prop}{st:St}{n:Nat}(h:∀K:St->Prop,(∀s,Ev P c Q n s->K s)->awp P c (thn K Q) st):Ev P c Q (n+1) st:=h _ fun _ h=>h
end Go.Ab
namespace Go.Ab
open Go.RowKit
theorem RelM.cells[Glo]{base:Nat}{Xa:Nat->Prop}{w0:W0}{st:St}{a:Act}{w:World}{M:Mp}(hM:RelM base Xa w0 st a w M)(id:Nat){o:Ob}{cs:List V}(cs':List V)(ho:lookO st.ob id=some o)(hx:o.xs=[cs])(hlen:cs'.length=cs.length)
  (hc:∀(j:Nat)(u:V),cs'[j]? =some u->∃u',cs[j]? =some u'/\∀v,R M w (Xf base Xa w M st.ob) (if o.box then st.nx else 0) u' v->R M w (Xf base Xa w M st.ob) (if o.box then st.nx else 0) u v) :
  RelM base Xa w0 {st with ob:=(id,some {o with xs:=[cs']})::st.ob} a w M:=by
 have hX:∀b,Xf base Xa w M st.ob b->Xf base Xa w M ((id,some {o with xs:=[cs']})::st.ob) b:=fun b hb=>⟨hb.1,fun i o1 ho1 hf=>by
  simp only[lookO]at ho1;split at ho1
  ·rename_i e;subst e;simp only[eQ]at ho1;subst ho1;exact hb.2 _ o ho hf
  exact hb.2 i o1 ho1 hf⟩
 refine⟨hM.below,hM.hbase,hM.xa,fun m n v u hv=>(hM.gh m n v u hv).mono (fA _) (fun _ _=>rfl) hX (fun _ _=>rfl),hM.pin,hM.defers.mono hX (fun _ _=>rfl),hM.size,fun t=>(hM.tmps t).mono (fA _) (fun _ _=>rfl) hX (fun _ _=>rfl),fun i o1 ho1=>?_,fun i i' o1 o2 g h1 h2 hne hg=>?_⟩
 ·simp only[lookO]at ho1;split at ho1
  ·rename_i e;subst e;simp only[eQ]at ho1;subst ho1;obtain⟨q1,q2⟩:=hM.obs _ o ho;obtain⟨vals,hrow,hone,hr⟩:=q2.row;refine⟨q1,q2.pos,q2.off,fun x hx'=>?_,vals,by simpa[hx]using hrow,hone,fun j u hu=>?_⟩
   ·simp only[List.mem_singleton]at hx';subst hx';have:=q2.len cs (by rw[hx];simp);rw[hlen];exact this
   simp only[List.flatten_cons,List.flatten_nil,f7]at hu;obtain⟨u',e,hw'⟩:=hc j u hu;exact(hw' _ (hr j u' (by rw[hx];simpa using e))).mono (fA _) (fun _ _=>rfl) hX (fun _ _=>rfl)
  obtain⟨q1,q2⟩:=hM.obs i o1 ho1;exact⟨q1,q2.mono (fA _) (fun _ _=>rfl) hX (fun _ _=>rfl) (fun _ _=>rfl)⟩
 have hl:∀i o1,lookO ((id,some {o with xs:=[cs']})::st.ob) i=some o1->∃o2,lookO st.ob i=some o2:=fun i o1 h1=>by
  simp only[lookO]at h1;split at h1
  ·rename_i e;subst e;exact⟨o,ho⟩
  exact⟨o1,h1⟩
 obtain⟨p1,r1⟩:=hl i o1 h1;obtain⟨p2,r2⟩:=hl i' o2 h2;exact hM.dist i i' p1 p2 g r1 r2 hne hg
theorem N6[Glo]{P:Program}{c:Code}{Q:Exit->St->Prop}{st:St}(id j e s:Nat)(hs:0<s){o:Ob}{cs:List V}{tt:Bool}(ho:lookO st.ob id=some o)(hx:o.xs=[cs])(hbox:o.box=true)(hj:cs[j]? =some (.sl 0 tt []))
  (h:awp P c Q {st with nx:=st.nx+1,ob:=(id,some {o with xs:=[cs.set j (.own st.nx)]})::(st.nx,some ⟨e,s,false,false,[]⟩)::st.ob}):awp P c Q st:=fun base Xa w0 a w ⟨M,hM⟩=>by
 obtain⟨M',hM',hn,hR⟩:=hM.grow (ob1:=st.ob) (fun _ _ h=>h) none (fun _ _ h=>by cases h) (fun _ _ _ _ _ h=>by cases h) (fun _ h=>by cases h) (World.grownBy.refl w none) (.slice none 0 0) (fun g h=>by cases h)
  ⟨e,s,false,false,[]⟩ (fun _=>hs) (by simp) [] (World.ownsG_nil w base e s) (by simp) (fun j u h=>by simp at h)
 have hid:=(hM.obs _ o ho).1;refine h base Xa w0 a w ⟨M',hR.cells id (cs.set j (.own st.nx)) (o:=o) (cs:=cs) (by simp only[lookO];rw[if_neg (by omega)];exact ho) hx (by simp) fun i u hu=>?_⟩;by_cases e':j=i
 ·subst e';rw[List.getElem?_set_self (by exact(List.getElem?_eq_some_iff.1 hj).1)]at hu;simp only[eQ]at hu;subst hu;refine⟨_,hj,fun v hv=>?_⟩;obtain⟨A,c',f,hu,_,_,_,hnil,_⟩:=Ri hv;obtain⟨rfl,rfl⟩:=hnil rfl;rw[hu,hbox];exact .own _ _ _ _ _ (by simp) hn
 rw[List.getElem?_set_ne e']at hu;exact⟨u,hu,fun v hv=>hv⟩
theorem SH[Glo]{P:Program}{c:Code}{Q:Exit->St->Prop}{st:St}(t id:Nat){sz k:Nat}{o:Ob}(ht:lkT st.tmp t=.part id sz 0 k)(ho:lookO st.ob id=some o)(hbox:o.box=false)(hf:o.fz=false)(hk:k<=o.xs.length)
  (h:awp P c Q {st with nx:=st.nx+1,tmp:=(t,.own st.nx)::st.tmp,ob:=(st.nx,some ⟨o.ety,o.sz,false,false,o.xs.take k⟩)::(id,none)::st.ob}):awp P c Q st:=fun base Xa w0 a w ⟨M,hM⟩=>by
 have hv:=hM.tmps t;rw[ht]at hv;obtain⟨g,O,N,cap,hMv,hl,hse⟩:=I3 hv;obtain⟨_,hok⟩:=hM.obs id o ho;obtain⟨vals,hrow,hv1,hvr⟩:=hok.row;simp only[hbox,fU,if_false]at hvr;rw[hMv]at hrow;have hN:N=o.xs.length:=by
  rcases hrow.sl ⟨_,_,_,rfl⟩with⟨hnil,_⟩|⟨g',O',cap',cur,hval,_⟩
  ·simp at hnil
  simp only[Value.slice.injEq]at hval;exact hval.2.1
 subst hN;have hlen:=hok.len;obtain⟨cur,hbg,hg,hnc,hcm,hcs,htake⟩:=hrow.row;have hse':a.tmps.getD t undef=.slice (some ⟨g,O,none⟩) k cap:=by rw[hse];simp
 have hown':w.ownsG base o.ety o.sz (.slice (some ⟨g,O,none⟩) k cap) k (vals.take (k*o.sz)):=by
  refine⟨by rw[fE,hrow.1];exact eY (fY _ (by omega)),.inr (.inl ⟨g,O,cap,cur,rfl,hbg,hg,by omega,hcm,hcs,?_⟩)⟩;rw[<- htake,List.take_take,eY (fY _ (by omega))]
 obtain⟨M',hM',hn,hR⟩:=hM.grow (ob1:=(id,none)::st.ob) (fun i o' ho'=>by simp only[lookO]at ho';split at ho'<;>simp_all) (some g)
  (fun b hx' e=>hx'.2 id o ho hf (by rw[hMv];simpa[Value.ownB]using e.symm)) (fun i o' ho' g' hg' e=>by
   simp only[lookO]at ho';split at ho'
   ·simp at ho'
   ·rename_i hne;exact hM.dist i id o' o g' ho' ho hne hg' (by rw[hMv,e];rfl)) (fun g' hg'=>by simp at hg';omega) (World.grownBy.refl w _) (.slice (some ⟨g,O,none⟩) k cap) (fun g' hg'=>by
   simp only[Value.ownB,eQ]at hg';exact .inl (by rw[hg'])) ⟨o.ety,o.sz,false,false,o.xs.take k⟩ (fun _=>hok.pos hbox) (fun y hy=>hlen y (gA hy)) (vals.take (k*o.sz)) (by simpa[eY hk]using hown') (fun u hu=>hv1 u (gA hu)) (fun j v hj=>by
   have hq:=FG o.xs hlen (lo:=0) (len:=k);simp only[List.drop_zero,Nat.zero_mul]at hq;rw[hq,fN]at hj;split at hj
   ·rename_i hjl;rw[eP,fN,if_pos hjl,<- eP];exact hvr j v hj
   cases hj) (fun h=>by have:=hok.off (.inr (h.resolve_left (by simp)));rw[hMv]at this;exact this)
 have:=h base Xa w0 a w ⟨M',hR.below,hR.hbase,hR.xa,hR.gh,hR.pin,hR.defers,hR.size,fun t'=>by
  simp only[lkT];split
  ·rename_i e';subst e';rw[hse'];exact .own _ _ _ _ _ (by simp) hn
  exact hR.tmps t',hR.obs,hR.dist⟩
 exact this
theorem BH[Glo]{P:Program}{c:Code}{Q:Exit->St->Prop}(I:Nat->St->Prop)(step:∀k st,I k st->∀K:St->Prop,(∀k' st',k=k'+1->I k' st'->K st')->awp P c (thn K Q) st):∀k st,I k st->Ev P c Q (k+1) st
 | 0,st,h=>step 0 st h (Ev P c Q 0) (fun k' st' e _=>by cases e)
 | k+1,st,h=>step (k+1) st h (Ev P c Q (k+1)) (fun k' st' e hI=>by cases e;exact BH I step k st' hI)
theorem Bp[Glo]{P:Program}{c:Code}{Q:Exit->St->Prop}{n nx pn:Nat}{T:List (Nat×V)}{ob:List (Nat×Option Ob)}(L:List (Nat×V))(hL:∀p∈L,lkT T p.1=p.2)(h:awp P c Q ⟨n,L,nx,ob,pn⟩):awp P c Q ⟨n,T,nx,ob,pn⟩ :=
 fun base Xa w0 a w ⟨M,hM⟩=>h base Xa w0 a w ⟨M,hM.weakT fun t=>(OC L t).imp (fun h=>h) fun h=>(hL _ h).symm⟩
end Go.Ab
end
section
namespace Go.Ab
open Go.RowKit
def bN(ms:List Nat):List (List Nat):=ms.map fun m=>(List.range 128).filter fun i=>m.testBit i
theorem AG[Glo]{P:Program}{st:St}{rid:Nat}{ops:List Oper}{Q:Exit->St->Prop}(n:Nat)(ms:List Nat)(segs:List (Nat×List (List Nat)×List (Nat×Nat)))(hv:segsL P (slotsOf ops) segs ops (Q .normal) st)(hd:(P.follows .mixedOrders||!(Region.departs ops.toArray))=true:=by kernel_rfl)(hp:Bo ops (List.range n)=ops:=by kernel_rfl)
  (hck:Ge P st.n ops .any [] (List.range n) (bN ms) segs=true:=by kernel_rfl):awp P (.region rid ops.toArray true) Q st:=SI _ _ segs hd hp hck hv
structure Bx(p:Prop):Prop where
 out:p
theorem VL{A:Type}{X K:A->Prop}{s:A}(h:∀s,X s->K s)(g:X s):K s:=h s g
theorem VM{A B C D:Type}{X K:A->B->C->D->Prop}{a:A}{b:B}{c:C}{d:D}(h:∀a b c d,X a b c d->K a b c d)(g:X a b c d):K a b c d:=h a b c d g
@[irreducible] def Wr(p:Prop):Prop:=p
theorem wr{p:Prop}(h:p):Wr p:=by unfold Wr;exact h
theorem V3{p:Prop}(h:Wr p):p:=by unfold Wr at h;exact h
theorem kX2{A0 A1:Prop}(a0:A0)(a1:A1):A0/\A1:=⟨a0,a1⟩
theorem kX3{A0 A1 A2:Prop}(a0:A0)(a1:A1)(a2:A2):A0/\A1/\A2:=⟨a0,a1,a2⟩
theorem kX4{A0 A1 A2 A3:Prop}(a0:A0)(a1:A1)(a2:A2)(a3:A3):A0/\A1/\A2/\A3:=⟨a0,a1,a2,a3⟩
theorem kX5{A0 A1 A2 A3 A4:Prop}(a0:A0)(a1:A1)(a2:A2)(a3:A3)(a4:A4):A0/\A1/\A2/\A3/\A4:=⟨a0,a1,a2,a3,a4⟩
theorem kX6{A0 A1 A2 A3 A4 A5:Prop}(a0:A0)(a1:A1)(a2:A2)(a3:A3)(a4:A4)(a5:A5):A0/\A1/\A2/\A3/\A4/\A5:=⟨a0,a1,a2,a3,a4,a5⟩
theorem kX7{A0 A1 A2 A3 A4 A5 A6:Prop}(a0:A0)(a1:A1)(a2:A2)(a3:A3)(a4:A4)(a5:A5)(a6:A6):A0/\A1/\A2/\A3/\A4/\A5/\A6:=⟨a0,a1,a2,a3,a4,a5,a6⟩
theorem kX8{A0 A1 A2 A3 A4 A5 A6 A7:Prop}(a0:A0)(a1:A1)(a2:A2)(a3:A3)(a4:A4)(a5:A5)(a6:A6)(a7:A7):A0/\A1/\A2/\A3/\A4/\A5/\A6/\A7:=⟨a0,a1,a2,a3,a4,a5,a6,a7⟩
theorem kX9{A0 A1 A2 A3 A4 A5 A6 A7 A8:Prop}(a0:A0)(a1:A1)(a2:A2)(a3:A3)(a4:A4)(a5:A5)(a6:A6)(a7:A7)(a8:A8):A0/\A1/\A2/\A3/\A4/\A5/\A6/\A7/\A8:=⟨a0,a1,a2,a3,a4,a5,a6,a7,a8⟩
theorem Qs{A0 A1 A2 A3 A4 A5 A6 A7 A8 A9:Prop}(a0:A0)(a1:A1)(a2:A2)(a3:A3)(a4:A4)(a5:A5)(a6:A6)(a7:A7)(a8:A8)(a9:A9):A0/\A1/\A2/\A3/\A4/\A5/\A6/\A7/\A8/\A9:=⟨a0,a1,a2,a3,a4,a5,a6,a7,a8,a9⟩
theorem Rl{A0 A1 A2 A3 A4 A5 A6 A7 A8 A9 A10:Prop}(a0:A0)(a1:A1)(a2:A2)(a3:A3)(a4:A4)(a5:A5)(a6:A6)(a7:A7)(a8:A8)(a9:A9)(a10:A10):A0/\A1/\A2/\A3/\A4/\A5/\A6/\A7/\A8/\A9/\A10:=⟨a0,a1,a2,a3,a4,a5,a6,a7,a8,a9,a10⟩
theorem Yh{A0 A1 A2 A3 A4 A5 A6 A7 A8 A9 A10 A11:Prop}(a0:A0)(a1:A1)(a2:A2)(a3:A3)(a4:A4)(a5:A5)(a6:A6)(a7:A7)(a8:A8)(a9:A9)(a10:A10)(a11:A11):A0/\A1/\A2/\A3/\A4/\A5/\A6/\A7/\A8/\A9/\A10/\A11:=⟨a0,a1,a2,a3,a4,a5,a6,a7,a8,a9,a10,a11⟩
theorem kX13{A0 A1 A2 A3 A4 A5 A6 A7 A8 A9 A10 A11 A12:Prop}(a0:A0)(a1:A1)(a2:A2)(a3:A3)(a4:A4)(a5:A5)(a6:A6)(a7:A7)(a8:A8)(a9:A9)(a10:A10)(a11:A11)(a12:A12):A0/\A1/\A2/\A3/\A4/\A5/\A6/\A7/\A8/\A9/\A10/\A11/\A12:=⟨a0,a1,a2,a3,a4,a5,a6,a7,a8,a9,a10,a11,a12⟩
theorem kX14{A0 A1 A2 A3 A4 A5 A6 A7 A8 A9 A10 A11 A12 A13:Prop}(a0:A0)(a1:A1)(a2:A2)(a3:A3)(a4:A4)(a5:A5)(a6:A6)(a7:A7)(a8:A8)(a9:A9)(a10:A10)(a11:A11)(a12:A12)(a13:A13):A0/\A1/\A2/\A3/\A4/\A5/\A6/\A7/\A8/\A9/\A10/\A11/\A12/\A13:=⟨a0,a1,a2,a3,a4,a5,a6,a7,a8,a9,a10,a11,a12,a13⟩
theorem kX15{A0 A1 A2 A3 A4 A5 A6 A7 A8 A9 A10 A11 A12 A13 A14:Prop}(a0:A0)(a1:A1)(a2:A2)(a3:A3)(a4:A4)(a5:A5)(a6:A6)(a7:A7)(a8:A8)(a9:A9)(a10:A10)(a11:A11)(a12:A12)(a13:A13)(a14:A14):A0/\A1/\A2/\A3/\A4/\A5/\A6/\A7/\A8/\A9/\A10/\A11/\A12/\A13/\A14:=⟨a0,a1,a2,a3,a4,a5,a6,a7,a8,a9,a10,a11,a12,a13,a14⟩
theorem kX16{A0 A1 A2 A3 A4 A5 A6 A7 A8 A9 A10 A11 A12 A13 A14 A15:Prop}(a0:A0)(a1:A1)(a2:A2)(a3:A3)(a4:A4)(a5:A5)(a6:A6)(a7:A7)(a8:A8)(a9:A9)(a10:A10)(a11:A11)(a12:A12)(a13:A13)(a14:A14)(a15:A15):A0/\A1/\A2/\A3/\A4/\A5/\A6/\A7/\A8/\A9/\A10/\A11/\A12/\A13/\A14/\A15:=⟨a0,a1,a2,a3,a4,a5,a6,a7,a8,a9,a10,a11,a12,a13,a14,a15⟩
theorem qX1{A0:Prop}(a0:A0):A0/\True:=⟨a0,trivial⟩
theorem qX2{A0 A1:Prop}(a0:A0)(a1:A1):A0/\A1/\True:=⟨a0,a1,trivial⟩
theorem qX3{A0 A1 A2:Prop}(a0:A0)(a1:A1)(a2:A2):A0/\A1/\A2/\True:=⟨a0,a1,a2,trivial⟩
theorem qX4{A0 A1 A2 A3:Prop}(a0:A0)(a1:A1)(a2:A2)(a3:A3):A0/\A1/\A2/\A3/\True:=⟨a0,a1,a2,a3,trivial⟩
theorem qX5{A0 A1 A2 A3 A4:Prop}(a0:A0)(a1:A1)(a2:A2)(a3:A3)(a4:A4):A0/\A1/\A2/\A3/\A4/\True:=⟨a0,a1,a2,a3,a4,trivial⟩
theorem qX6{A0 A1 A2 A3 A4 A5:Prop}(a0:A0)(a1:A1)(a2:A2)(a3:A3)(a4:A4)(a5:A5):A0/\A1/\A2/\A3/\A4/\A5/\True:=⟨a0,a1,a2,a3,a4,a5,trivial⟩
section
variable [Glo] {P:Program} {Q:Exit->St->Prop} {st:St} {c:Operand} {x y:Code} {b:Bool} {E:Prop}
theorem cF1(e:E)(hc:ev st c=.bool b)(h2:awp P y Q st)(t:E->b=true->False:=by intro e h;simp[e]at h):awp P (.cond c x y) Q st:=AB hc (fun h=>(t e h).elim) (fun _=>h2)
theorem cT1(e:E)(hc:ev st c=.bool b)(h1:awp P x Q st)(t:E->b=false->False:=by intro e h;simp[e]at h):awp P (.cond c x y) Q st:=AB hc (fun _=>h1) (fun h=>(t e h).elim)
theorem cF0(hc:ev st c=.bool b)(h2:awp P y Q st)(t:b=true->False:=by intro h;simp at h):awp P (.cond c x y) Q st:=AB hc (fun h=>(t h).elim) (fun _=>h2)
theorem cT0(hc:ev st c=.bool b)(h1:awp P x Q st)(t:b=false->False:=by intro h;simp at h):awp P (.cond c x y) Q st:=AB hc (fun _=>h1) (fun h=>(t h).elim)
end
theorem aX{I:Nat->St->Prop}{k k':Nat}{st st':St}{E:Prop}(ρ:Nat->Nat)(hI:I k' st')(e:E)(h:k'<k:=by omega)(t:E->Le ρ st st':=by intro e;exact⟨rfl,by simp[leT,ltV,lt1,ren,Ao,e],by simp[leO,lt1,Ao,e],by(simp;try omega),by simp⟩):again I k st:=EC k' st' ρ h hI (t e)
section
variable [Glo] {P:Program} {st:St} {Q:Exit->St->Prop} {c:Code} {E:Prop}
theorem lX(I:Nat->St->Prop){k0:Nat}{st0:St}(ρ:Nat->Nat)(h0:I k0 st0)(round:∀k s,I k s->s.n=st.n->awp P c (thn (again I k) Q) s)(hle:Le ρ st st0:=by exact⟨rfl,by simp[leT,ltV,lt1,ren,Ao],by simp[leO,lt1,Ao],by simp,by simp⟩):awp P (.loop c) Q st:=Lo I hle h0 round
theorem lX1(I:Nat->St->Prop){k0:Nat}{st0:St}(ρ:Nat->Nat)(h0:I k0 st0)(e:E)(round:∀k s,I k s->s.n=st.n->awp P c (thn (again I k) Q) s)(t:E->Le ρ st st0:=by intro e;exact⟨rfl,by simp[leT,ltV,lt1,ren,Ao,e],by simp[leO,lt1,Ao,e],by(simp;try omega),by simp⟩):awp P (.loop c) Q st:=Lo I (t e) h0 round
end
theorem sZ{F M G N:Prop}(f:F)(n:M)(h:N)(t:F->M->Bx N->G:=by intro f n h;refine AC.of f rfl (by kernel_rfl) rfl ?_;simp only[n,St.start,VY];exact h.out):G:=t f n ⟨h⟩
theorem au{G N:Prop}(h:N)(t:Bx N->G:=by intro h;(with_reducible (repeat intro Kx hKx));(try with_reducible apply wr);(repeat (first|(with_reducible first|refine BY fun Kx hKx=>?_|refine BG ?_)|((with_reducible first|refine Ar (by kernel_rfl) ?_|refine B7 ?_|refine B2 ?_|refine B6 ?_|refine B5 ?_|refine BZ ?_|refine BX ?_);simp)|((repeat ((fail_if_success (with_reducible refine hKx _ ?_));clear hKx;try clear Kx));(with_reducible refine hKx _ ?_);clear hKx;try clear Kx)|(with_reducible refine VL ‹_› ?_)|refine And.intro (by first|omega|assumption|grind) ?_));refine V3 ?_;(repeat revert Kx);exact h.out):G:=t  ⟨h⟩
theorem af{G N:Prop}(h:N)(t:Bx N->G:=by intro h;(with_reducible (repeat intro Kx hKx));(try with_reducible apply wr);(repeat (first|(with_reducible first|refine BY fun Kx hKx=>?_|refine BG ?_)|((with_reducible first|refine Ar (by kernel_rfl) ?_|refine B7 ?_|refine B2 ?_|refine B6 ?_|refine B5 ?_|refine EU ?_|refine ER ?_|refine ET ?_|refine ES ?_|refine BZ ?_|refine BX ?_);simp)|((repeat ((fail_if_success (with_reducible first|refine hKx _ ?_|refine hKx _ _ _ _ ?_));clear hKx;try clear Kx));(with_reducible first|refine hKx _ ?_|refine hKx _ _ _ _ ?_);clear hKx;try clear Kx)|(with_reducible first|refine VL ‹_› ?_|refine VM ‹_› ?_)|(with_reducible refine Fl fun Kx hKx=>?_;simp)|(with_reducible refine Fj ?_;try simp only[thn,blk])|(with_reducible refine Fo fun Kx hKx=>?_;simp only[List.take_succ_cons,List.take_zero])|(with_reducible refine EP fun Kx hKx=>?_;simp)|(with_reducible refine F5 ?_)|(with_reducible refine EY ?_;simp only[List.drop_succ_cons,List.drop_zero];simp only[stS,eT,eO,fW,f9,cond_true,cond_false,Bool.and_true,Bool.and_false,Bool.true_and,Bool.false_and])|(with_reducible refine Dh ?_ ?_;(· (simp<;>first|omega|grind)))|refine And.intro (by first|omega|assumption|grind) ?_));refine V3 ?_;(repeat revert Kx);exact h.out):G:=t  ⟨h⟩
theorem cc{C G N:Prop}(c:C)(h:N)(t:C->Bx N->G:=by intro c h;(with_reducible (repeat intro Kx hKx));(try with_reducible apply wr);first|((first|refine .inl ⟨0,_,c,?_⟩|refine⟨0,_,c,?_⟩|(refine .inl ⟨0,_,AC.wk c ?_,?_⟩;focus (simp;done))|(refine⟨0,_,AC.wk c ?_,?_⟩;focus (simp;done)));simp[CZ,C9];((repeat revert Kx);exact h.out))|((first|refine BW c rfl (fun hgd=>?_) (by simp[BV]) ?_|refine BC c rfl (by simp) (fun hgd=>?_) (by simp[BV]) ?_)<;>simp<;>(try (first|exact hgd|(simp at hgd;first|done|assumption|grind)));((repeat revert Kx);exact h.out))|fail):G:=t c  ⟨h⟩
theorem cn{C G N:Prop}(c:C)(h:N)(t:C->Bx N->G:=by intro c h;(with_reducible (repeat intro Kx hKx));(try with_reducible apply wr);(first|refine .inl ⟨1,_,c,?_⟩|refine⟨1,_,c,?_⟩);simp[CZ,noX,Ct,C5];(first|refine And.intro AP ?_|skip);((repeat revert Kx);exact h.out)):G:=t c  ⟨h⟩
theorem rt{G:Prop}(t:G:=by(with_reducible (repeat intro Kx hKx));(try with_reducible apply wr);first|(refine BO ?_;simp;done)|(refine Dm ?_;refine BO ?_;simp;done)|(refine BO ?_;simp;first|(simp_all;done)|(simp_all;omega)|grind)|(refine Dm ?_;refine BO ?_;simp;first|(simp_all;done)|(simp_all;omega)|grind)|fail):G:=t
theorem wx{C D G:Prop}(c:C)(d:D)(t:C->D->G:=by intro c d;(refine au ?_;intros;apply wr);repeat' ((first|(refine AB rfl (fun h=>?_) (fun h=>?_)<;>(first|(simp at h;done)|(simp at h)|skip)<;>(first|(exfalso;omega)|skip))|((first|refine .inl ⟨1,_,d.1,?_⟩|refine⟨1,_,d.1,?_⟩);simp[CZ,C9,noX,Ct,C5];first|refine And.intro AP ?_|skip)|((first|refine .inl ⟨1,_,d.2.1,?_⟩|refine⟨1,_,d.2.1,?_⟩);simp[CZ,C9,noX,Ct,C5];first|refine And.intro AP ?_|skip)|refine cc c.1 ?_|refine cc c.2.1 ?_|refine cc c.2.2.1 ?_|refine cc c.2.2.2.1 ?_|refine cc c.2.2.2.2.1 ?_|refine cc c.2.2.2.2.2.1 ?_|exact rt|fail)<;>(refine au ?_;intros;apply wr))):G:=t c d
theorem au1{G N E0:Prop}(e0:E0)(h:N)(t:E0->Bx N->G:=by intro e0 h;(with_reducible (repeat intro Kx hKx));(try with_reducible apply wr);(repeat (first|(with_reducible first|refine BY fun Kx hKx=>?_|refine BG ?_)|((with_reducible first|refine Ar (by kernel_rfl) ?_|refine B7 ?_|refine B2 ?_|refine B6 ?_|refine B5 ?_|refine BZ ?_|refine BX ?_);simp[e0])|((repeat ((fail_if_success (with_reducible refine hKx _ ?_));clear hKx;try clear Kx));(with_reducible refine hKx _ ?_);clear hKx;try clear Kx)|(with_reducible refine VL ‹_› ?_)|refine And.intro (by first|omega|assumption|grind) ?_));refine V3 ?_;(repeat revert Kx);exact h.out):G:=t e0 ⟨h⟩
theorem af1{G N E0:Prop}(e0:E0)(h:N)(t:E0->Bx N->G:=by intro e0 h;(with_reducible (repeat intro Kx hKx));(try with_reducible apply wr);(repeat (first|(with_reducible first|refine BY fun Kx hKx=>?_|refine BG ?_)|((with_reducible first|refine Ar (by kernel_rfl) ?_|refine B7 ?_|refine B2 ?_|refine B6 ?_|refine B5 ?_|refine EU ?_|refine ER ?_|refine ET ?_|refine ES ?_|refine BZ ?_|refine BX ?_);simp[e0])|((repeat ((fail_if_success (with_reducible first|refine hKx _ ?_|refine hKx _ _ _ _ ?_));clear hKx;try clear Kx));(with_reducible first|refine hKx _ ?_|refine hKx _ _ _ _ ?_);clear hKx;try clear Kx)|(with_reducible first|refine VL ‹_› ?_|refine VM ‹_› ?_)|(with_reducible refine Fl fun Kx hKx=>?_;simp[e0])|(with_reducible refine Fj ?_;try simp only[thn,blk])|(with_reducible refine Fo fun Kx hKx=>?_;simp only[List.take_succ_cons,List.take_zero])|(with_reducible refine EP fun Kx hKx=>?_;simp[e0])|(with_reducible refine F5 ?_)|(with_reducible refine EY ?_;simp only[List.drop_succ_cons,List.drop_zero];simp only[stS,eT,eO,fW,f9,cond_true,cond_false,Bool.and_true,Bool.and_false,Bool.true_and,Bool.false_and])|(with_reducible refine Dh ?_ ?_;(· (simp[e0]<;>first|omega|grind)))|refine And.intro (by first|omega|assumption|grind) ?_));refine V3 ?_;(repeat revert Kx);exact h.out):G:=t e0 ⟨h⟩
theorem cc1{C G N E0:Prop}(c:C)(e0:E0)(h:N)(t:C->E0->Bx N->G:=by intro c e0 h;(with_reducible (repeat intro Kx hKx));(try with_reducible apply wr);first|((first|refine .inl ⟨0,_,c,?_⟩|refine⟨0,_,c,?_⟩|(refine .inl ⟨0,_,AC.wk c ?_,?_⟩;focus (simp;done))|(refine⟨0,_,AC.wk c ?_,?_⟩;focus (simp;done)));simp[CZ,C9,e0];((repeat revert Kx);exact h.out))|((first|refine BW c rfl (fun hgd=>?_) (by simp[BV]) ?_|refine BC c rfl (by simp) (fun hgd=>?_) (by simp[BV]) ?_)<;>simp[e0]<;>(try (first|exact hgd|(simp at hgd;first|done|assumption|grind)));((repeat revert Kx);exact h.out))|fail):G:=t c e0 ⟨h⟩
theorem cn1{C G N E0:Prop}(c:C)(e0:E0)(h:N)(t:C->E0->Bx N->G:=by intro c e0 h;(with_reducible (repeat intro Kx hKx));(try with_reducible apply wr);(first|refine .inl ⟨1,_,c,?_⟩|refine⟨1,_,c,?_⟩);simp[CZ,noX,Ct,C5,e0];(first|refine And.intro AP ?_|skip);((repeat revert Kx);exact h.out)):G:=t c e0 ⟨h⟩
theorem rt1{G E0:Prop}(e0:E0)(t:E0->G:=by intro e0;(with_reducible (repeat intro Kx hKx));(try with_reducible apply wr);first|(refine BO ?_;simp[e0];done)|(refine Dm ?_;refine BO ?_;simp[e0];done)|(refine BO ?_;simp[e0];clear e0;first|(simp_all;done)|(simp_all;omega)|grind)|(refine Dm ?_;refine BO ?_;simp[e0];clear e0;first|(simp_all;done)|(simp_all;omega)|grind)|fail):G:=t e0
theorem wx1{C D E G:Prop}(c:C)(d:D)(e:E)(t:C->D->E->G:=by intro c d e;(refine au1 e ?_;intros;apply wr);repeat' ((first|(refine AB rfl (fun h=>?_) (fun h=>?_)<;>(first|(simp[e]at h;done)|(simp[e]at h)|skip)<;>(first|(exfalso;omega)|skip))|((first|refine .inl ⟨1,_,d.1,?_⟩|refine⟨1,_,d.1,?_⟩);simp[CZ,C9,noX,Ct,C5,e];first|refine And.intro AP ?_|skip)|((first|refine .inl ⟨1,_,d.2.1,?_⟩|refine⟨1,_,d.2.1,?_⟩);simp[CZ,C9,noX,Ct,C5,e];first|refine And.intro AP ?_|skip)|refine cc1 c.1 e ?_|refine cc1 c.2.1 e ?_|refine cc1 c.2.2.1 e ?_|refine cc1 c.2.2.2.1 e ?_|refine cc1 c.2.2.2.2.1 e ?_|refine cc1 c.2.2.2.2.2.1 e ?_|exact rt1 e|fail)<;>(refine au1 e ?_;intros;apply wr))):G:=t c d e
theorem J4{G N E0:Prop}(e0:E0)(h:N)(t:E0->Bx N->G:=by intro e0 h;(with_reducible (repeat intro Kx hKx));(try with_reducible apply wr);(repeat (first|(with_reducible first|refine BY fun Kx hKx=>?_|refine BG ?_)|((with_reducible first|refine Ar (by kernel_rfl) ?_|refine B7 ?_|refine B2 ?_|refine B6 ?_|refine B5 ?_|refine BZ ?_|refine BX ?_);simp[-Nat.sub_self,e0])|((repeat ((fail_if_success (with_reducible refine hKx _ ?_));clear hKx;try clear Kx));(with_reducible refine hKx _ ?_);clear hKx;try clear Kx)|(with_reducible refine VL ‹_› ?_)|refine And.intro (by first|omega|assumption|grind) ?_));refine V3 ?_;(repeat revert Kx);exact h.out):G:=t e0 ⟨h⟩
theorem afm1{G N E0:Prop}(e0:E0)(h:N)(t:E0->Bx N->G:=by intro e0 h;(with_reducible (repeat intro Kx hKx));(try with_reducible apply wr);(repeat (first|(with_reducible first|refine BY fun Kx hKx=>?_|refine BG ?_)|((with_reducible first|refine Ar (by kernel_rfl) ?_|refine B7 ?_|refine B2 ?_|refine B6 ?_|refine B5 ?_|refine EU ?_|refine ER ?_|refine ET ?_|refine ES ?_|refine BZ ?_|refine BX ?_);simp[-Nat.sub_self,e0])|((repeat ((fail_if_success (with_reducible first|refine hKx _ ?_|refine hKx _ _ _ _ ?_));clear hKx;try clear Kx));(with_reducible first|refine hKx _ ?_|refine hKx _ _ _ _ ?_);clear hKx;try clear Kx)|(with_reducible first|refine VL ‹_› ?_|refine VM ‹_› ?_)|(with_reducible refine Fl fun Kx hKx=>?_;simp[-Nat.sub_self,e0])|(with_reducible refine Fj ?_;try simp only[thn,blk])|(with_reducible refine Fo fun Kx hKx=>?_;simp only[List.take_succ_cons,List.take_zero])|(with_reducible refine EP fun Kx hKx=>?_;simp[-Nat.sub_self,e0])|(with_reducible refine F5 ?_)|(with_reducible refine EY ?_;simp only[List.drop_succ_cons,List.drop_zero];simp only[stS,eT,eO,fW,f9,cond_true,cond_false,Bool.and_true,Bool.and_false,Bool.true_and,Bool.false_and])|(with_reducible refine Dh ?_ ?_;(· (simp[-Nat.sub_self,e0]<;>first|omega|grind)))|refine And.intro (by first|omega|assumption|grind) ?_));refine V3 ?_;(repeat revert Kx);exact h.out):G:=t e0 ⟨h⟩
theorem YY{C G N E0:Prop}(c:C)(e0:E0)(h:N)(t:C->E0->Bx N->G:=by intro c e0 h;(with_reducible (repeat intro Kx hKx));(try with_reducible apply wr);first|((first|refine .inl ⟨0,_,c,?_⟩|refine⟨0,_,c,?_⟩|(refine .inl ⟨0,_,AC.wk c ?_,?_⟩;focus (simp;done))|(refine⟨0,_,AC.wk c ?_,?_⟩;focus (simp;done)));simp[CZ,C9,-Nat.sub_self,e0];((repeat revert Kx);exact h.out))|((first|refine BW c rfl (fun hgd=>?_) (by simp[BV]) ?_|refine BC c rfl (by simp) (fun hgd=>?_) (by simp[BV]) ?_)<;>simp[-Nat.sub_self,e0]<;>(try (first|exact hgd|(simp at hgd;first|done|assumption|grind)));((repeat revert Kx);exact h.out))|fail):G:=t c e0 ⟨h⟩
theorem rtm1{G E0:Prop}(e0:E0)(t:E0->G:=by intro e0;(with_reducible (repeat intro Kx hKx));(try with_reducible apply wr);first|(refine BO ?_;simp[-Nat.sub_self,e0];done)|(refine Dm ?_;refine BO ?_;simp[-Nat.sub_self,e0];done)|(refine BO ?_;simp[-Nat.sub_self,e0];clear e0;first|(simp_all;done)|(simp_all;omega)|grind)|(refine Dm ?_;refine BO ?_;simp[-Nat.sub_self,e0];clear e0;first|(simp_all;done)|(simp_all;omega)|grind)|fail):G:=t e0
theorem wxm1{C D E G:Prop}(c:C)(d:D)(e:E)(t:C->D->E->G:=by intro c d e;(refine J4 e ?_;intros;apply wr);repeat' ((first|(refine AB rfl (fun h=>?_) (fun h=>?_)<;>(first|(simp[-Nat.sub_self,e]at h;done)|(simp[-Nat.sub_self,e]at h)|skip)<;>(first|(exfalso;omega)|skip))|((first|refine .inl ⟨1,_,d.1,?_⟩|refine⟨1,_,d.1,?_⟩);simp[CZ,C9,noX,Ct,C5,-Nat.sub_self,e];first|refine And.intro AP ?_|skip)|((first|refine .inl ⟨1,_,d.2.1,?_⟩|refine⟨1,_,d.2.1,?_⟩);simp[CZ,C9,noX,Ct,C5,-Nat.sub_self,e];first|refine And.intro AP ?_|skip)|refine YY c.1 e ?_|refine YY c.2.1 e ?_|refine YY c.2.2.1 e ?_|refine YY c.2.2.2.1 e ?_|refine YY c.2.2.2.2.1 e ?_|refine YY c.2.2.2.2.2.1 e ?_|exact rtm1 e|fail)<;>(refine J4 e ?_;intros;apply wr))):G:=t c d e
theorem sX{F M G N:Prop}(f:F)(n:M)(h:N)(t:F->M->Bx N->G:=by intro f n h;refine sZ f n ?_;refine au ?_;exact h.out):G:=t f n ⟨h⟩
theorem sY{F M G N E:Prop}(f:F)(n:M)(e:E)(h:N)(t:F->M->E->Bx N->G:=by intro f n e h;refine sZ f n ?_;refine au1 e ?_;exact h.out):G:=t f n e ⟨h⟩
theorem cX{C G N:Prop}(c:C)(h:N)(t:C->Bx N->G:=by intro c h;refine cc c ?_;refine au ?_;exact h.out):G:=t c ⟨h⟩
theorem cY{C G N E:Prop}(c:C)(e:E)(h:N)(t:C->E->Bx N->G:=by intro c e h;refine cc c ?_;refine au1 e ?_;exact h.out):G:=t c e ⟨h⟩
theorem cZ{C G N D E:Prop}(c:C)(d:D)(e:E)(h:N)(t:C->D->E->Bx N->G:=by intro c d e h;refine cc1 c d ?_;refine au1 e ?_;exact h.out):G:=t c d e ⟨h⟩
theorem cXf{C G N:Prop}(c:C)(h:N)(t:C->Bx N->G:=by intro c h;refine cc c ?_;refine af ?_;exact h.out):G:=t c ⟨h⟩
theorem cYf{C G N E:Prop}(c:C)(e:E)(h:N)(t:C->E->Bx N->G:=by intro c e h;refine cc c ?_;refine af1 e ?_;exact h.out):G:=t c e ⟨h⟩
theorem cZf{C G N D E:Prop}(c:C)(d:D)(e:E)(h:N)(t:C->D->E->Bx N->G:=by intro c d e h;refine cc1 c d ?_;refine af1 e ?_;exact h.out):G:=t c d e ⟨h⟩
theorem CU{G N:Prop}(h:N)(t:Bx N->G:=by intro h;(with_reducible (repeat intro Ky hKy));(try with_reducible apply wr);refine AB rfl (fun _=>?_) (fun h=>by simp at h);refine au ?_;((repeat revert Ky);exact h.out)):G:=t ⟨h⟩
theorem II{G N E:Prop}(e:E)(h:N)(t:E->Bx N->G:=by intro e h;(with_reducible (repeat intro Ky hKy));(try with_reducible apply wr);refine AB rfl (fun _=>?_) (fun h=>by simp at h);refine au1 e ?_;((repeat revert Ky);exact h.out)):G:=t e ⟨h⟩
theorem EM{G N D:Prop}(d:D)(h:N)(t:D->Bx N->G:=by intro d h;(with_reducible (repeat intro Ky hKy));(try with_reducible apply wr);refine AB rfl (fun _=>?_) (fun h=>by simp[d]at h);refine au ?_;((repeat revert Ky);exact h.out)):G:=t d ⟨h⟩
theorem DT{G N D E:Prop}(d:D)(e:E)(h:N)(t:D->E->Bx N->G:=by intro d e h;(with_reducible (repeat intro Ky hKy));(try with_reducible apply wr);refine AB rfl (fun _=>?_) (fun h=>by simp[d]at h);refine au1 e ?_;((repeat revert Ky);exact h.out)):G:=t d e ⟨h⟩
theorem CX{G N:Prop}(h:N)(t:Bx N->G:=by intro h;(with_reducible (repeat intro Ky hKy));(try with_reducible apply wr);refine AB rfl (fun h=>by simp at h) (fun _=>?_);refine au ?_;((repeat revert Ky);exact h.out)):G:=t ⟨h⟩
theorem EE{G N E:Prop}(e:E)(h:N)(t:E->Bx N->G:=by intro e h;(with_reducible (repeat intro Ky hKy));(try with_reducible apply wr);refine AB rfl (fun h=>by simp at h) (fun _=>?_);refine au1 e ?_;((repeat revert Ky);exact h.out)):G:=t e ⟨h⟩
theorem B1{G N D:Prop}(d:D)(h:N)(t:D->Bx N->G:=by intro d h;(with_reducible (repeat intro Ky hKy));(try with_reducible apply wr);refine AB rfl (fun h=>by simp[d]at h) (fun _=>?_);refine au ?_;((repeat revert Ky);exact h.out)):G:=t d ⟨h⟩
theorem EL{G N D E:Prop}(d:D)(e:E)(h:N)(t:D->E->Bx N->G:=by intro d e h;(with_reducible (repeat intro Ky hKy));(try with_reducible apply wr);refine AB rfl (fun h=>by simp[d]at h) (fun _=>?_);refine au1 e ?_;((repeat revert Ky);exact h.out)):G:=t d e ⟨h⟩
theorem WX{G N:Prop}(h:N)(t:Bx N->G:=by intro h;(with_reducible (repeat intro Ky hKy));(try with_reducible apply wr);refine AB rfl (fun _=>?_) (fun h=>by simp at h);refine af ?_;((repeat revert Ky);exact h.out)):G:=t ⟨h⟩
theorem TI{G N E:Prop}(e:E)(h:N)(t:E->Bx N->G:=by intro e h;(with_reducible (repeat intro Ky hKy));(try with_reducible apply wr);refine AB rfl (fun _=>?_) (fun h=>by simp at h);refine af1 e ?_;((repeat revert Ky);exact h.out)):G:=t e ⟨h⟩
theorem Eh{G N D:Prop}(d:D)(h:N)(t:D->Bx N->G:=by intro d h;(with_reducible (repeat intro Ky hKy));(try with_reducible apply wr);refine AB rfl (fun _=>?_) (fun h=>by simp[d]at h);refine af ?_;((repeat revert Ky);exact h.out)):G:=t d ⟨h⟩
theorem Ce{G N D E:Prop}(d:D)(e:E)(h:N)(t:D->E->Bx N->G:=by intro d e h;(with_reducible (repeat intro Ky hKy));(try with_reducible apply wr);refine AB rfl (fun _=>?_) (fun h=>by simp[d]at h);refine af1 e ?_;((repeat revert Ky);exact h.out)):G:=t d e ⟨h⟩
theorem BU{G N:Prop}(h:N)(t:Bx N->G:=by intro h;(with_reducible (repeat intro Ky hKy));(try with_reducible apply wr);refine AB rfl (fun h=>by simp at h) (fun _=>?_);refine af ?_;((repeat revert Ky);exact h.out)):G:=t ⟨h⟩
theorem Kp{G N E:Prop}(e:E)(h:N)(t:E->Bx N->G:=by intro e h;(with_reducible (repeat intro Ky hKy));(try with_reducible apply wr);refine AB rfl (fun h=>by simp at h) (fun _=>?_);refine af1 e ?_;((repeat revert Ky);exact h.out)):G:=t e ⟨h⟩
theorem Ae{G N D:Prop}(d:D)(h:N)(t:D->Bx N->G:=by intro d h;(with_reducible (repeat intro Ky hKy));(try with_reducible apply wr);refine AB rfl (fun h=>by simp[d]at h) (fun _=>?_);refine af ?_;((repeat revert Ky);exact h.out)):G:=t d ⟨h⟩
theorem EA{G N D E:Prop}(d:D)(e:E)(h:N)(t:D->E->Bx N->G:=by intro d e h;(with_reducible (repeat intro Ky hKy));(try with_reducible apply wr);refine AB rfl (fun h=>by simp[d]at h) (fun _=>?_);refine af1 e ?_;((repeat revert Ky);exact h.out)):G:=t d e ⟨h⟩
theorem ar{G N:Prop}(h:N)(t:Bx N->G:=by intro h;(with_reducible (repeat intro Kx hKx));(try with_reducible apply wr);refine BO ?_;((repeat revert Kx);exact h.out)):G:=t ⟨h⟩
theorem aw{G N:Prop}(h:N)(t:Bx N->G:=by intro h;(with_reducible (repeat intro Kx hKx));(try with_reducible apply wr);refine Dm ?_;refine BO ?_;((repeat revert Kx);exact h.out)):G:=t ⟨h⟩
theorem sI{F M G N:Prop}(f:F)(n:M)(h:N)(t:F->M->Bx N->G:=by intro f n h;refine Bt.of f rfl (by kernel_rfl) rfl ?_;simp only[n,St.startI,VY];exact h.out):G:=t f n ⟨h⟩
theorem sIX{F M G N:Prop}(f:F)(n:M)(h:N)(t:F->M->Bx N->G:=by intro f n h;refine sI f n ?_;refine au ?_;exact h.out):G:=t f n ⟨h⟩
theorem sIY{F M G N E:Prop}(f:F)(n:M)(e:E)(h:N)(t:F->M->E->Bx N->G:=by intro f n e h;refine sI f n ?_;refine au1 e ?_;exact h.out):G:=t f n e ⟨h⟩
theorem cO{G N:Prop}(h:N)(t:Bx N->G:=by intro h;first|exact .inr h.out|exact h.out):G:=t ⟨h⟩
end Go.Ab
end
