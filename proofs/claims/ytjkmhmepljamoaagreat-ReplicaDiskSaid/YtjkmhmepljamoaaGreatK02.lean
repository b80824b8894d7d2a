/- A part of the proof of ReplicaDisk. -/
import Derived.Test.YtjkmhmepljamoaaGreatK01
import Derived.Laws.Cover3
import Derived.Laws.Runes
import Derived.RangeFuncLeaves
import Derived.RangeFuncRecord
set_option linter.all false
set_option maxHeartbeats 16000000
set_option maxRecDepth 100000
section
namespace Go.Ab
open Go.RowKit
section
variable {P:Program} {base:Nat} {Xa:Nat->Prop} {w0:W0} {w w':World} {st:St} {a:Act} {M M':Mp} {X X':Nat->Prop} {n n':Nat} {K:St->Prop} {Q:Exit->Act->World->Prop}
theorem JF[Glo]{xs ys:List (List V)}{s:Nat}{olds news:List Value}(hl:∀x∈xs,x.length=s)(hlo:olds.length=xs.length*s)(h1:∀(j:Nat) (v:V),xs.flatten[j]? =some v->R M w X n v (olds.getD j undef))
  (h2:∀(j:Nat)(v:V),ys.flatten[j]? =some v->R M w X n v (news.getD j undef)):∀(j:Nat)(v:V),(xs++ys).flatten[j]? =some v->R M w X n v ((olds++news).getD j undef):=by
 intro j v hv;have hfl:=Bu xs hl;rw[List.flatten_append]at hv;by_cases hj:j<olds.length
 ·rw[iQ (by omega)]at hv;rw[gP,iQ hj,<- gP];exact h1 j v hv
 rw[iN (by omega)]at hv;rw[gP,iN (by omega),<- gP,hlo,<- hfl];exact h2 _ v hv
theorem ID[Glo]{o:Oper}{args:Array Operand}{tys:Array TypeId}{s x:Operand}{t t':TypeId}(ho:o.op=.call {callee:=.builtin .append,args:=args,argTypes:=tys})(hargs:args.toList=[s,x])(htys:tys.toList=[t,t'])
  (h:appS P o.dst t t' (ev st s) (ev st x) K st) (hd:∀d,o.dst=some d->d<st.n) (hR:RelM base Xa w0 st a w M):o.wp P a w (Nx base Xa w0 st.n K) Q:=by
 have e1:args=#[s,x]:=by cases args;simp at hargs;simp[hargs]
 have e2:tys=#[t,t']:=by cases tys;simp at htys;simp[htys]
 subst e1 e2;have hsv:=CU hR.rx s;have hxv:=CU hR.rx x;have hrun:∀v' w',(Builtin.append_ #[t,t'] o.type #[a.eval s,a.eval x]).run P w=.ok v' w'->(execOp a.eval o).run P w=.ok (.value v') w':=fun v' w' h=>by
  obtain⟨cs,hcs⟩:=Bl (P:=P) (w:=w) (a:=a) .append #[s,x] #[t,t'] o ho;rw[hcs];simp[invoke,builtin,h]
 unfold appS at h;split at h
 ·rename_i e sz by_ id b hs hes hex;obtain⟨i,z,hu,hi,hiz,hzsz,hisz,hby,hpos⟩:=Bd hs;split at h
  ·rename_i ob hob;obtain⟨rfl,hbe,hstr,hbox,hfz,rfl,hos,hb1,hb2,hK⟩:=h;have hb3:i.zero=some (.int .u8 0)/\i.size=1/\i.bytes=1:=by
    unfold byE at hbe;rw[hi]at hbe;simp only at hbe;split at hbe
    ·rename_i hz0;simp only[gX,beq_iff_eq]at hbe;exact⟨hz0,hbe.1,hbe.2⟩
    cases hbe
   rw[hex]at hxv;have hxe:=Ea hxv;rw[hes]at hsv;obtain⟨hid,hv⟩:=Ik hsv;obtain⟨_,hok⟩:=hR.obs id ob hob;obtain⟨vals,hrow,hv1,hvr⟩:=hok.row;simp only[hbox,iR,if_false]at hvr;have hlen:=hok.len;rw[hos]at hrow hlen;have hsz:(⟨b.toArray⟩:ByteArray).size=b.length:=by simp[ByteArray.size]
   obtain⟨v',w',hrn,hown',hgr,hblk,hoff,hsl⟩:=Lk (P:=P) w base t t' o.type ob.ety i hu (Fi hstr) hi hb3.1 hb3.2.1 hb3.2.2 (M id) ob.xs.length vals hrow (EJ hsv) ⟨b.toArray⟩ (by rw[hsz];exact hb2) (by rw[hsz];exact hb1) hR.hbase;have hsc:Lib.strCells ⟨b.toArray⟩=b.map fun c=>Value.int .u8 c.toNat:=by simp[Lib.strCells]
   rw[hsz,hsc]at hown';have eB:=J0 (EJ hsv);have eV:=J0 hsl;rw[<- eB]at hgr hblk;rw[<- eV]at hblk;obtain⟨A',l',c',hv'⟩:=hsl;have hfr:∀(j:Nat)(v:V),(AM b).flatten[j]? =some v->R M w (Xf base Xa w M st.ob) 0 v ((b.map fun c=>Value.int .u8 c.toNat).getD j undef):=fun j v hj=>by
    have hbf:(AM b).flatten=b.map fun(c:UInt8)=>V.int .u8 (c.toNat:Int):=by
     unfold AM;clear hsc hown' hsz hex hxv hxe hb1 hb2 hK hrn hj;induction b with
     | nil=>rfl
     | cons c b ih=>simp[ih]
    rw[hbf,iG]at hj;obtain⟨c,hc,rfl⟩:=Option.map_eq_some_iff.1 hj;rw[gP,iG,hc];exact .int _ _ _
   obtain⟨M',hM,hn,hR'⟩:=hR.grow (ob1:=(id,none)::st.ob) (fun i o' ho'=>by simp only[lookO]at ho';split at ho'<;>simp_all) (M id).ownB
    (fun b hx' e=>hx'.2 id ob hob hfz e.symm) (fun i o' ho' g hg e=>by
     simp only[lookO]at ho';split at ho'
     ·simp at ho'
     ·rename_i hne;exact hR.dist i id o' ob g ho' hob hne hg e.symm) (fun g hg=>(hrow.lt g hg).1) hgr v' (fun g hg=>by
     rcases hblk with h|⟨g',h,h'⟩
     ·exact .inl (by rw[<- hg,h])
     ·rw[h]at hg;simp at hg;exact .inr (by omega)) ⟨ob.ety,1,false,false,ob.xs++AM b⟩ (fun _=>by simp) (fun y hy=>by
     rcases List.mem_append.1 hy with h|h
     ·exact hlen y h
     simp only[AM,List.mem_map]at h;obtain⟨c,_,rfl⟩:=h;rfl) (vals++b.map fun c=>Value.int .u8 c.toNat) (by simpa[AM]using hown') (fun u hu=>(List.mem_append.1 hu).elim (hv1 u) (fun h=>by
     obtain⟨c,_,rfl⟩:=List.mem_map.1 h;rfl)) (JF hlen hrow.1 hvr hfr) (fun h=>hoff.elim (fun h=>h) fun e=>e.trans (hok.off (.inr (h.resolve_left (by simp)))))
   refine AU (hrun v' w' ?_) (Nx.of hK (hR'.put hd (v:=.own st.nx) ?_) rfl)
   ·rw[<- hv,hxe];exact hrn
   subst hv';exact .own _ _ _ _ _ (by simp) hn
  exact h.elim
 exact h.elim
theorem MB[Glo]{o:Oper}{args:Array Operand}{tys:Array TypeId}{s x:Operand}{t:TypeId}(ho:o.op=.call {callee:=.builtin .append,args:=args,argTypes:=tys})(hargs:args.toList=[s,x])(htys:tys.toList=[t,t])
  (h:appV P o.dst t (ev st s) (ev st x) K st) (hd:∀d,o.dst=some d->d<st.n) (hR:RelM base Xa w0 st a w M):o.wp P a w (Nx base Xa w0 st.n K) Q:=by
 have e1:args=#[s,x]:=by cases args;simp at hargs;simp[hargs]
 have e2:tys=#[t,t]:=by cases tys;simp at htys;simp[htys]
 subst e1 e2;have hsv:=CU hR.rx s;have hxv:=CU hR.rx x;have hrun:∀v' w',(Builtin.append_ #[t,t] o.type #[a.eval s,a.eval x]).run P w=.ok v' w'->(execOp a.eval o).run P w=.ok (.value v') w':=fun v' w' h=>by
  obtain⟨cs,hcs⟩:=Bl (P:=P) (w:=w) (a:=a) .append #[s,x] #[t,t] o ho;rw[hcs];simp[invoke,builtin,h]
 unfold appV at h;split at h
 ·rename_i e sz by_ hs;obtain⟨i,z,hu,hi,hiz,hzsz,hisz,hby,hpos⟩:=Bd hs;split at h
  ·rename_i p ys hsrc;obtain⟨hp,h⟩:=h;obtain⟨A,c,news,hxe,hnl,hn1,hyl,hA,hAn,hnr⟩:=src_R hR hsrc hp hxv;split at h
   ·rename_i id hes;split at h
    ·rename_i ob hob;obtain⟨hbox,hfz,rfl,rfl,hno,hb1,hb2,hK⟩:=h;rw[hes]at hsv;obtain⟨hid,hv⟩:=Ik hsv;obtain⟨_,hok⟩:=hR.obs id ob hob;obtain⟨vals,hrow,hv1,hvr⟩:=hok.row;simp only[hbox,iR,if_false]at hvr;obtain⟨v',w',hrn,hown',hgr,hblk,hoff,hsl⟩:=EL (P:=P) (ty:=o.type) (c:=c) hu hi hiz hisz hby hzsz hpos hrow (EJ hsv) hnl hA (fun h=>by rw[hAn h];rfl) hn1 hb2 hb1 hR.hbase
     have eB:=J0 (EJ hsv);have eV:=J0 hsl;rw[<- eB]at hgr hblk;rw[<- eV]at hblk;obtain⟨A',l',c',hv'⟩:=hsl;obtain⟨M',hM,hn,hR'⟩:=hR.grow (ob1:=(id,none)::st.ob) (fun i o' ho'=>by simp only[lookO]at ho';split at ho'<;>simp_all) (M id).ownB
      (fun b hx' e=>hx'.2 id ob hob hfz e.symm) (fun i o' ho' g hg e=>by
       simp only[lookO]at ho';split at ho'
       ·simp at ho'
       ·rename_i hne;exact hR.dist i id o' ob g ho' hob hne hg e.symm) (fun g hg=>(hrow.lt g hg).1) hgr v' (fun g hg=>by
       rcases hblk with h|h
       ·exact .inl (by rw[<- hg,h])
       ·rw[h]at hg;simp at hg;exact .inr (by omega)) ⟨ob.ety,ob.sz,false,false,ob.xs++ys⟩ (fun _=>hpos) (fun y hy=>by
       rcases List.mem_append.1 hy with h|h
       ·exact hok.len y h
       exact hyl (fun h'=>by subst h';simp at h) y h) (vals++news) (by simpa using hown') (fun u hu=>(List.mem_append.1 hu).elim (hv1 u) (hn1 u)) (JF hok.len hrow.1 hvr hnr) (fun h=>hoff.elim (fun h=>h) fun e=>e.trans (hok.off (.inr (h.resolve_left (by simp)))))
     refine AU (hrun v' w' ?_) (Nx.of hK (hR'.put hd (v:=.own st.nx) ?_) rfl)
     ·rw[<- hv,hxe];exact hrn
     subst hv';exact .own _ _ _ _ _ (by simp) hn
    exact h.elim
   ·rename_i sz' tt xs hes;obtain⟨hcase,hb1,hb2,hK⟩:=h;rw[hes]at hsv;obtain⟨A0,c0,f,hse,hlc,hm,ht,hnil,hl,hA0,hr0⟩:=SH hsv;have fin:∀(v':Value)(w':World)(olds:List Value),(Builtin.append_ #[t,t] o.type #[a.eval s,a.eval x]).run P w=.ok v' w'->w'.ownsG base e sz v' (xs.length+ys.length) (olds++news)->v'.offB=0->(∃A l c,v'=.slice A l c)->w.grownBy w' none ->
      (v'.ownBlock=none\/∃g,v'.ownBlock=some g/\w.heap.size<=g)->(∀y∈xs,y.length=sz)->olds.length=xs.length*sz->(∀u∈olds,u.oneCell'=true) ->
      (∀(j:Nat)(v:V),xs.flatten[j]? =some v->R M w (Xf base Xa w M st.ob) 0 v (olds.getD j undef))->o.wp P a w (Nx base Xa w0 st.n K) Q:=by
     intro v' w' olds hrn hown' hoff hsl hgr hblk hl hlo ho1 hor;have eV:=J0 hsl;obtain⟨A',l',c',hv'⟩:=hsl;obtain⟨M',hM,hn,hR'⟩:=hR.grow (ob1:=st.ob) (fun i o' ho'=>ho') none (fun b hx' e=>by cases e) (fun i o' ho' g hg e=>by cases e) (fun g hg=>by cases hg) hgr v' (fun g hg=>by
       rw[eV]at hg;rcases hblk with h|⟨g',h,h'⟩
       ·rw[h]at hg;cases hg
       ·rw[h]at hg;simp at hg;exact .inr (by omega)) ⟨e,sz,false,false,xs++ys⟩ (fun _=>hpos) (fun y hy=>by
       rcases List.mem_append.1 hy with h|h
       ·exact hl y h
       exact hyl (fun h'=>by subst h';simp at h) y h) (olds++news) (by simpa using hown') (fun u hu=>(List.mem_append.1 hu).elim (ho1 u) (hn1 u)) (JF hl hlo hor hnr) (fun _=>hoff)
     refine AU (hrun v' w' hrn) (Nx.of hK (hR'.put hd (v:=.own st.nx) ?_) rfl);subst hv';exact .own _ _ _ _ _ (by simp) hn
    rcases hcase with h0|⟨rfl,rfl,hne⟩
    ·subst h0;obtain⟨rfl,rfl⟩:=hnil rfl;have hx0:xs=[]:=iF (by omega);subst hx0;obtain⟨v',w',hrn,hown',hgr,hblk,hoff,hsl⟩:=EL (P:=P) (ty:=o.type) (c:=c) hu hi hiz hisz hby hzsz hpos (World.ownsG_nil w base e sz) ⟨_,_,_,rfl⟩ hnl hA (fun h=>by rw[hAn h];rfl) hn1 (by simpa using hb2) (by simpa using hb1) hR.hbase;refine fin v' w' [] (by rw[hse,hxe];exact hrn) (by simpa using hown') (hoff.elim (fun h=>h) fun h=>h.trans rfl) hsl hgr ?_ (by simp) (by simp) (by simp) (fun j v h=>by simp at h);rcases hblk with h|h
     ·exact .inl h
     exact .inr ⟨_,h,g8 _⟩
    have hc0:=ht rfl;have hypos:0<ys.length:=List.length_pos_iff.2 hne;obtain⟨ad,rfl,hcells⟩:=hA hypos;cases A0 with
    | none =>
     rcases Nat.eq_zero_or_pos xs.length with h0|h0
     ·have hx0:xs=[]:=iF h0;subst hx0;simp at hc0;subst hc0;obtain⟨v',w',hrn,hown',hgr,hblk,hoff,hsl⟩:=EL (P:=P) (ty:=o.type) (c:=c) hu hi hiz hisz hby hzsz hpos (World.ownsG_nil w base e sz') ⟨_,_,_,rfl⟩ hnl (fun _=>⟨ad,rfl,hcells⟩) (fun h=>by cases h) hn1 (by simpa using hb2) (by simpa using hb1) hR.hbase;refine fin v' w' [] (by rw[hse,hxe];exact hrn) (by simpa using hown') (hoff.elim (fun h=>h) fun h=>h.trans rfl) hsl hgr ?_ (by simp) (by simp) (by simp) (fun j v h=>by simp at h);rcases hblk with h|h
      ·exact .inl h
      exact .inr ⟨_,h,g8 _⟩
     obtain⟨_,h,_⟩:=hA0 h0;cases h
    | some b =>
     have hcell:∀j,j<xs.length*sz'->w.cell? (b.add j)=some (f j)/\(f j).oneCell'=true:=fun j hj=>by
      have h0:0<xs.length:=Nat.pos_of_ne_zero (fun h=>by rw[h]at hj;simp at hj);obtain⟨ad',h,_,hc⟩:=hA0 h0;simp only[gQ]at h;subst h;exact hc j hj
     obtain⟨v',w',hrn,hown',hgr⟩:=run_append_arg_grows (P:=P) w t o.type e i z sz' by_ hu hi hiz hisz hby hzsz hpos b xs.length c0 ((List.range (xs.length*sz')).map f) (by simp) (fun j u hj=>by
      rw[iG]at hj;obtain⟨k,hk,rfl⟩:=Option.map_eq_some_iff.1 hj;obtain⟨hk1,hk2⟩:=List.getElem?_eq_some_iff.1 hk;simp at hk1 hk2;subst hk2;exact(hcell j hk1).1) ad ys.length c news hnl hcells (by omega) hb2 hb1
     refine fin v' w' ((List.range (xs.length*sz')).map f) (by rw[hse,hxe];exact hrn) ?_ (by rcases hown'.2 with⟨h,_⟩|⟨g,cap,cur,h,_⟩<;>(rw[h];rfl)) (by rcases hown'.2 with⟨h,_⟩|⟨g,cap,cur,h,_⟩<;>exact⟨_,_,_,h⟩) hgr ?_ hl (by simp) ?_ ?_
     ·refine⟨hown'.1,?_⟩;rcases hown'.2 with h|⟨g,cap,cur,h1,h2,h3,h4,h5,h6,h7⟩
      ·exact .inl h
      exact .inr (.inl ⟨g,0,cap,cur,h1,iY hR.hbase h2,.plain h3,h4,h5,by rw[i6];exact h6,by rw[List.drop_zero];exact h7⟩)
     ·rcases hown'.2 with⟨h,_⟩|⟨g,cap,cur,h1,h2,h3⟩
      ·subst h;exact .inl rfl
      subst h1;exact .inr ⟨g,rfl,h2⟩
     ·intro u hu;simp only[List.mem_map,List.mem_range]at hu;obtain⟨j,hj,rfl⟩:=hu;exact(hcell j hj).2
     intro j v hv;have hj:j<xs.length*sz':=by
      have:=(List.getElem?_eq_some_iff.1 hv).1;rwa[Bu _ hl]at this
     have:=hr0 j v hv;simpa[gP,hj]using this
   ·rename_i id sz' lo k hes;split at h
    ·rename_i ob hob;obtain⟨hbox,hfz,rfl,hsze,rfl,rfl,hfit,hK⟩:=h;rw[hes]at hsv;obtain⟨g,O,N,cap,hv,hl,hse⟩:=Il hsv;obtain⟨_,hok⟩:=hR.obs id ob hob;obtain⟨vals,hrow,hv1,hvr⟩:=hok.row;simp only[hbox,iR,if_false]at hvr;subst hisz;have hlen:=hok.len;rw[hv,hsze]at hrow;rw[hsze]at hlen;have hN:N=ob.xs.length:=by
      rcases hrow.sl ⟨_,_,_,rfl⟩with⟨hnil,_⟩|⟨g',O',cap',cur,hval,_⟩
      ·simp at hnil
      simp only[Value.slice.injEq]at hval;exact hval.2.1
     subst hN;obtain⟨cur,hbg,hg,hnc,hcm,hcs,htake⟩:=hrow.row;have hse':a.eval s=.slice (some ⟨g,O,none⟩) k cap:=by rw[hse];simp
     have hlk:k<=ob.xs.length:=by omega
     have hid:id<st.nx:=(hR.obs id ob hob).1;cases A with
     | none =>
      have hy0:=hAn rfl;subst hy0;have hn0:news=[]:=iF (by simpa using hnl);subst hn0;have hrn:(Builtin.append_ #[t,t] o.type #[.slice (some ⟨g,O,none⟩) k cap,.slice none 0 c]).run P w=.ok (.slice (some ⟨g,O,none⟩) k cap) w:=by
       have:k<=cap:=by omega
       simp[Builtin.append_,run_underlying hu,sizeOf,typeInfo,hi,Builtin.lenOf,Builtin.firstCells,this,storeCells]
      have hR':RelM base Xa w0 {st with ob:=(id,some {ob with xs:=spl ob.xs k []})::st.ob} a w M:=hR.sub fun i o1 ho1=>by
       simp only[lookO]at ho1;split at ho1
       ·rename_i e;subst e;simp only[gQ]at ho1;subst ho1;exact⟨ob.fz,hob,fun h=>h⟩
       exact⟨o1.fz,ho1,fun h=>h⟩
      refine AU (hrun _ w (by rw[hse',hxe];exact hrn)) (Nx.of hK (hR'.put hd (v:=.part id i.size 0 (k+0)) ?_) rfl);have:=R.part (M:=M) (w:=w) (X:=Xf base Xa w M ((id,some {ob with xs:=spl ob.xs k []})::st.ob)) st.nx id i.size 0 (k+0) g O ob.xs.length cap hid hv (by omega);simpa using this
     | some ad =>
      have hcl:∀j u,news[j]? =some u->w.cell? (ad.add j)=some u:=fun j u hu=>by
       have hm:0<ys.length:=by
        have h1:=(List.getElem?_eq_some_iff.1 hu).1;rw[hnl]at h1;exact Nat.pos_of_ne_zero fun h=>by rw[h]at h1;simp at h1
       obtain⟨ad',e,hc⟩:=hA hm;simp only[gQ]at e;subst e;exact hc j u hu
      have hfc:=run_firstCells_some (P:=P) w i.size ys.length ad ys.length c news hnl hcl;have hyz:∀y∈ys,y.length=ob.sz:=fun y hy=>by
       rw[hsze];exact hyl (fun h'=>by subst h';simp at hy) y hy
      obtain⟨w',hst,hR'⟩:=hR.storeN (P:=P) hob hfz hbox (lo:=k) (g:=g) (by rw[hv];rfl) hyz (by omega) (us:=news) ⟨by rw[Bu ys hyz,hnl,hsze],hn1,hnr⟩;rw[hsze,show(M id).offB=O by rw[hv];rfl]at hst;have hadd:∀n,(⟨g,O,none⟩:Addr).add n=⟨g,O+n,none⟩:=fun n=>Addr.add_lit _ _ _;have hfit2:k+ys.length<=cap:=by omega
      have hrn:(Builtin.append_ #[t,t] o.type #[.slice (some ⟨g,O,none⟩) k cap,.slice (some ad) ys.length c]).run P w=.ok (.slice (some ⟨g,O,none⟩) (k+ys.length) cap) w':=by
       simp[Builtin.append_,run_underlying hu,sizeOf,typeInfo,hi,Builtin.lenOf,hfc,hfit2,hadd,hst,Sem.run_bind]
      refine AU (hrun _ w' (by rw[hse',hxe];exact hrn)) (Nx.of hK (hR'.put hd (v:=.part id i.size 0 (k+ys.length)) ?_) rfl);have:=R.part (M:=M) (w:=w') (X:=Xf base Xa w' M ((id,some {ob with xs:=spl ob.xs k ys})::st.ob)) st.nx id i.size 0 (k+ys.length) g O ob.xs.length cap hid hv (by omega);simpa using this
    exact h.elim
   exact h.elim
  exact h.elim
 exact h.elim
theorem Jz[Glo]{o:Oper}{t:TypeId}{x:Operand}{lo hi mx:Option Operand}(ho:o.op=.slice t x lo hi mx){id:Nat}(he:ev st x=.own id){b:Ob}(hb:lookO st.ob id=some b){p:Prop}{v:V}
  (hs:slcV P t (.sl b.sz false b.xs) (Bn st lo) (Bn st hi) (Bn st mx)=some (p,v)) (hp:p) (hbox:b.box=false) (hK:K ({st with ob:=fz1 st.ob id}.put o.dst v))
  (hd:∀d,o.dst=some d->d<st.n) (hR:RelM base Xa w0 st a w M):o.wp P a w (Nx base Xa w0 st.n K) Q:=by
 have hx:=CU hR.rx x;rw[he]at hx;have hR':RelM base Xa w0 {st with ob:=fz1 st.ob id} a w M:=hR.fz [id];have hc:Cs M w (Xf base Xa w M st.ob) st.nx [.own id] [a.eval x]:=.one_ (by
  have:∀{u},R M w (Xf base Xa w M st.ob) st.nx (.own id) u->u.oneCell'=true:=fun h=>by cases h;rfl
  exact this hx) hx
 have hq:=(Cs.pur hR hc).rel 0 _ rfl;have hpe:DT st.ob (.own id)=.sl b.sz false b.xs:=by simp[DT,hb,hbox]
 rw[hpe]at hq;have hq':R M w (Xf base Xa w M (fz1 st.ob id)) st.nx (.sl b.sz false b.xs) (a.eval x):=R.up hq;obtain⟨u,h1,h2⟩:=QH (P:=P) (lo:=lo) (hi:=hi) (mx:=mx) hs hp hR.rx hq';refine AU (u:=u) (w':=w) ?_ (Nx.of hK (hR'.put hd h2) rfl);unfold execOp;simp[ho,h1]
theorem pur_R[Glo](h:RelM base Xa w0 st a w M){v:V}{u:Value}(hv:R M w (Xf base Xa w M st.ob) st.nx v u){X':Nat->Prop}(hX:∀b,Xf base Xa w M st.ob b->X' b)
  (hown:∀id o g,(V.own id∈v.cells\/V.omap id∈v.cells)->lookO st.ob id=some o->(M id).ownB=some g->X' g):R M w X' 0 (pur st.ob v) u:=by
 cases v with
 | st cs =>
  cases hv with
  | st _ _ arr hl h1 hr =>
   refine .st _ _ _ (by simpa using hl) h1 fun j c hc=>?_;rw[iG]at hc;obtain⟨v,hv,rfl⟩:=Option.map_eq_some_iff.1 hc;exact NI (hr j v hv) (fun id o ho=>(h.obs id o ho).2) hX fun id o g e ho hg=>hown id o g (by
    rcases e with rfl|rfl
    ·exact .inl (g9 hv)
    exact .inr (g9 hv)) ho hg
 | _=>exact NI hv (fun id o ho=>(h.obs id o ho).2) hX fun id o g e ho hg=>hown id o g (by
  rcases e with e|e
  ·exact .inl (by rw[<- e];simp[V.cells])
  exact .inr (by rw[<- e];simp[V.cells])) ho hg
theorem R_clo{f:FuncId}{cs:List V}{u:Value}(h:R M w X n (.clo f cs) u):∃arr,u=.func (.func f) #[] arr/\arr.size=cs.length/\∀(j:Nat)(v:V),cs[j]? =some v->R M w X 0 v (arr.getD j undef):=by
 cases h with
 | clo _ _ _ arr hl h=>exact⟨arr,rfl,hl,h⟩
theorem MP[Glo]{o:Oper}{f:Operand}{args:Array Operand}{tys:Array TypeId}(ho:o.op=.call {callee:=.value f,args:=args,argTypes:=tys}){fid:FuncId}{cs:List V}{carr:Array Value}
  (hfe:a.eval f=.func (.func fid) #[] carr) (hcl:carr.size=cs.length) (hcr:∀(j:Nat)(u:V),cs[j]? =some u->R M w (Xf base Xa w M st.ob) 0 u (carr.getD j undef))
  (h:ND (args.toList.map (ev st))/\∃nf r,AC P fid (((args.toList.map (ev st)).map unG).map (pur st.ob)++cs) r/\C0 nf o.dst ((args.toList.map (ev st)).map unG) K st r) (hd:∀d,o.dst=some d->d<st.n) (hR:RelM base Xa w0 st a w M):o.wp P a w (Nx base Xa w0 st.n K) Q:=by
 ·obtain⟨hokg,nf,r,⟨hcall,hmeet⟩,h⟩:=h;have hrun:(execOp a.eval o).run P w=.ok (.enter fid (args.map a.eval++carr)) w:=by
   unfold D7 at hcall;split at hcall
   ·rename_i fn hfn;simp only[gX,i7]at hcall;have h1:¬fn.name= "runtime.NumGoroutine" :=by simpa using hcall.1
    have h2:¬fn.body=none:=fun h=>by simp[h]at hcall
    unfold execOp;simp[ho,resolve,Deferred.ofValue,hfe,invoke,callFunc,program,Sem.run,hfn,h1,h2]
   simp at hcall
  unfold Oper.wp;rw[hrun,Oper.upon_enter];have hsz:(args.map a.eval++carr).size=(((args.toList.map (ev st)).map unG).map (pur st.ob)++cs).length:=by simp[hcl]
  have hval:∀(X':Nat->Prop),(∀b,Xf base Xa w M st.ob b->X' b)->(∀(j:Nat)(u:V),(((args.toList.map (ev st)).map unG).map (pur st.ob))[j]? =some u->R M w X' 0 u ((args.map a.eval).getD j undef)) ->
    ∀(j:Nat)(u:V),(((args.toList.map (ev st)).map unG).map (pur st.ob)++cs)[j]? =some u->R M w X' 0 u ((args.map a.eval++carr).getD j undef):=fun X' hX' hA j u hu=>by
   have hal:(((args.toList.map (ev st)).map unG).map (pur st.ob)).length=(args.map a.eval).size:=by simp
   by_cases hj:j<(args.map a.eval).size
   ·rw[iQ (by omega)]at hu;have:=hA j u hu;rw[gZ]at this ⊢;rwa[Array.getElem?_append_left hj]
   rw[iN (by omega)]at hu;have:=hcr _ u hu;rw[gZ]at this ⊢;rw[Array.getElem?_append_right (by omega),<- hal];exact this.mono (g8 _) (fun _ _=>rfl) hX' (fun _ _=>rfl)
  have harg:∀(j:Nat)(u:V),(((args.toList.map (ev st)).map unG).map (pur st.ob))[j]? =some u->∃x,((args.toList.map (ev st)).map unG)[j]? =some (unG (ev st x))/\u=pur st.ob (unG (ev st x))/\(args.map a.eval).getD j undef=a.eval x/\R M w (Xf base Xa w M st.ob) st.nx (unG (ev st x)) (a.eval x):=fun j u hu=>by
   rw[iG,iG,iG]at hu;obtain⟨v,hv,rfl⟩:=Option.map_eq_some_iff.1 hu;obtain⟨v',hv',rfl⟩:=Option.map_eq_some_iff.1 hv;obtain⟨x,hx,rfl⟩:=Option.map_eq_some_iff.1 hv';rw[Array.getElem?_toList]at hx;exact⟨x,by simp[hx],rfl,by simp[gZ,hx],SC (CU hR.rx x) (I5 hokg _ (List.mem_map.2 ⟨x,by simpa using Array.mem_of_getElem? hx,rfl⟩))⟩
  have fin:∀{st':St}{Xc:Nat->Prop}{w':World}{val:Value},RelM base Xa w0 st' a w M->st'.n=st.n->st'.nx=st.nx->Below w.heap.size w w'->Res w.heap.size Xc w' r val ->
    ((∀b,Xc b->Xf base Xa w M st'.ob b)\/noX r)->K ({st' with nx:=st'.nx+r.fcells.length,ob:=BY st'.nx r.fcells++st'.ob}.put o.dst (opn st'.nx r))->Nx base Xa w0 st.n K (a.put o.dst val) w':=by
   intro st' Xc w' val h' hn _ hb hres hX hK;obtain⟨M',hM,hR',hr⟩:=h'.result hb hres hX;exact Nx.of hK (hR'.put (by simpa only[hn]using hd) hr) hn
  cases nf with
  | succ _ =>
   obtain⟨hno,hK⟩:=h;refine(hmeet w (fun b=>b<w.heap.size) (args.map a.eval++carr) M ⟨fun b h=>h,hR.gin.to (fun b hb=>hb.lt hR.xa hR.hbase),rfl⟩ hsz (hval _ (fun b hb=>hb.lt hR.xa hR.hbase) fun j u hu=>?_)).mono ?_
   ·obtain⟨x,_,rfl,hx,hrx⟩:=harg j u hu;rw[hx];exact pur_R hR hrx (fun b hb=>hb.lt hR.xa hR.hbase) (fun id o' g _ ho' hg=>by
     obtain⟨vals,hrow,_⟩:=(hR.obs id o' ho').2.row;exact(hrow.lt g hg).2)
   rintro e w' ⟨val,rfl,hb,hres⟩;exact fin hR rfl rfl hb hres (.inr hno) hK
  | zero =>
   have hK:=h;simp only[C0]at hK;have hR':=hR.fz (((args.toList.map (ev st)).map unG).flatMap fun v:V=>BJ v.cells);refine(hmeet w (Xf base Xa w M (fzs (((args.toList.map (ev st)).map unG).flatMap fun v:V=>BJ v.cells) st.ob)) (args.map a.eval++carr) M ⟨fun b h=>h.lt hR.xa hR.hbase,hR'.gin,rfl⟩ hsz (hval _ (fun b hb=>⟨hb.1,fun id o' ho' hf'=>?_⟩) fun j u hu=>?_)).mono ?_
   ·rw[Ce]at ho';split at ho'
    ·obtain⟨o'',h1,h2⟩:=Option.map_eq_some_iff.1 ho';subst h2;cases hf'
    exact hb.2 id o' ho' hf'
   ·obtain⟨x,hj,rfl,hx,hrx⟩:=harg j u hu;rw[hx];refine pur_R hR hrx (fun b hb=>⟨hb.1,fun id o' ho' hf'=>?_⟩) (fun id o' g hm ho' hg=>?_)
    ·rw[Ce]at ho';split at ho'
     ·obtain⟨o'',h1,h2⟩:=Option.map_eq_some_iff.1 ho';subst h2;cases hf'
     exact hb.2 id o' ho' hf'
    have hmem:id∈((args.toList.map (ev st)).map unG).flatMap fun v:V=>BJ v.cells:=List.mem_flatMap.2 ⟨_,g9 hj,Fl _ _ hm⟩;obtain⟨vals,hrow,_⟩:=(hR.obs id o' ho').2.row;refine⟨.inr (hrow.lt g hg),fun id' o1 ho1 hf1 e=>?_⟩;rw[Ce]at ho1;split at ho1
    ·obtain⟨o'',h1,h2⟩:=Option.map_eq_some_iff.1 ho1;subst h2;cases hf1
    rename_i hni;exact hR.dist id' id o1 o' g ho1 ho' (fun e=>hni (e▸hmem)) e hg
   rintro e w' ⟨val,rfl,hb,hres⟩;exact fin hR' rfl rfl hb hres (.inl fun b h=>h) hK
theorem Wu[Glo]{o:Oper}{f:Operand}{args:Array Operand}{tys:Array TypeId}(ho:o.op=.call {callee:=.value f,args:=args,argTypes:=tys}){fid:FuncId}
  (hfe:a.eval f=.func (.func fid) #[] #[]) (hokg:ND (args.toList.map (ev st))) (h:Bt P fid ((args.toList.map (ev st)).map unG) st.nx st.ob fun r nx ob=>K ({st with nx:=nx,ob:=ob}.put o.dst r))
  (hd:∀d,o.dst=some d->d<st.n) (hR:RelM base Xa w0 st a w M):o.wp P a w (Nx base Xa w0 st.n K) Q:=by
 obtain⟨hcall,hin⟩:=h;have hrun:(execOp a.eval o).run P w=.ok (.enter fid (args.map a.eval)) w:=by
  unfold D7 at hcall;split at hcall
  ·rename_i fn hfn;simp only[gX,i7]at hcall;have h1:¬fn.name= "runtime.NumGoroutine" :=by simpa using hcall.1
   have h2:¬fn.body=none:=fun h=>by simp[h]at hcall
   unfold execOp;simp[ho,resolve,Deferred.ofValue,hfe,invoke,callFunc,program,Sem.run,hfn,h1,h2]
  simp at hcall
 unfold Oper.wp;rw[hrun,Oper.upon_enter];refine(hin base Xa _ w M (args.map a.eval) hR.aside (by simp) fun j u hu=>?_).mono ?_
 ·rw[iG,iG]at hu;obtain⟨v,hv,rfl⟩:=Option.map_eq_some_iff.1 hu;obtain⟨x,hx,rfl⟩:=Option.map_eq_some_iff.1 hv;rw[Array.getElem?_toList]at hx;have e:(args.map a.eval).getD j undef=a.eval x:=by simp[gZ,hx]
  rw[e];exact SC (CU hR.rx x) (I5 hokg _ (List.mem_map.2 ⟨x,by simpa using Array.mem_of_getElem? hx,rfl⟩))
 rintro e w' ⟨val,r,nx',ob',M',rfl,hK,h',hr⟩;exact Nx.of hK ((hR.again h').put (st:={st with nx:=nx',ob:=ob'}) hd hr) rfl
theorem R_cap{f:FuncId}{fs cs:List (Option (Nat×Nat))}{u:Value}(h:R M w X n (.cap f fs cs) u):∃fa ca,u=.func (.func f) fa ca/\fa.size=fs.length/\ca.size=cs.length/\(∀j p,fs[j]? =some p->CapR M n p (fa.getD j undef))/\∀j p,cs[j]? =some p->CapR M n p (ca.getD j undef):=by
 cases h with
 | cap _ _ _ _ fa ca hf hc h1 h2=>exact⟨fa,ca,rfl,hf,hc,h1,h2⟩
theorem CapR.R{p:Option (Nat×Nat)}{u:Value}(h:CapR M n p u):R M w X n (Yp p) u:=by
 cases p with
 | none=>cases h;exact .nilp _
 | some q =>
  obtain⟨h1,g,h2,rfl⟩:=h;exact .ptr _ q.1 q.2 0 0 g _ h1 h2 (by simp)
theorem WX[Glo]{o:Oper}{f:Operand}{args:Array Operand}{tys:Array TypeId}(ho:o.op=.call {callee:=.value f,args:=args,argTypes:=tys}){fid:FuncId}{fs cs:List (Option (Nat×Nat))}{fa ca:Array Value}
  (hfe:a.eval f=.func (.func fid) fa ca) (h1:fa.size=fs.length) (h2:ca.size=cs.length) (h3:∀j p,fs[j]? =some p->CapR M st.nx p (fa.getD j undef)) (h4:∀j p,cs[j]? =some p->CapR M st.nx p (ca.getD j undef))
  (hokg:ND (args.toList.map (ev st))) (h:Bt P fid (fs.map Yp++((args.toList.map (ev st)).map unG++cs.map Yp)) st.nx st.ob fun r nx ob=>K ({st with nx:=nx,ob:=ob}.put o.dst r))
  (hd:∀d,o.dst=some d->d<st.n) (hR:RelM base Xa w0 st a w M):o.wp P a w (Nx base Xa w0 st.n K) Q:=by
 obtain⟨hcall,hin⟩:=h;have hrun:(execOp a.eval o).run P w=.ok (.enter fid (fa++args.map a.eval++ca)) w:=by
  unfold D7 at hcall;split at hcall
  ·rename_i fn hfn;simp only[gX,i7]at hcall;have h1:¬fn.name= "runtime.NumGoroutine" :=by simpa using hcall.1
   have h2:¬fn.body=none:=fun h=>by simp[h]at hcall
   unfold execOp;simp[ho,resolve,Deferred.ofValue,hfe,invoke,callFunc,program,Sem.run,hfn,h1,h2]
  simp at hcall
 unfold Oper.wp;rw[hrun,Oper.upon_enter];refine(hin base Xa _ w M (fa++args.map a.eval++ca) hR.aside (by simp[h1,h2]) fun j u hu=>?_).mono ?_
 ·simp only[gZ,Array.getElem?_append,Array.size_append,Array.size_map,h1];rw[List.getElem?_append,List.length_map]at hu;split at hu
  ·rename_i hj;rw[nH,if_pos hj];rw[iG]at hu;obtain⟨p,hp,rfl⟩:=Option.map_eq_some_iff.1 hu;have:=(h3 j p hp).R (w:=w) (X:=Xf base Xa w M st.ob);rwa[gZ]at this
  rename_i hj;have e2:(List.map unG (List.map (ev st) args.toList)).length=args.size:=by simp
  rw[List.getElem?_append,e2]at hu;split at hu
  ·rename_i hj';rw[nH,if_neg hj];rw[iG,iG]at hu;obtain⟨v,hv,rfl⟩:=Option.map_eq_some_iff.1 hu;obtain⟨x,hx,rfl⟩:=Option.map_eq_some_iff.1 hv;rw[Array.getElem?_toList]at hx;rw[Array.getElem?_map,hx];exact SC (CU hR.rx x) (I5 hokg _ (List.mem_map.2 ⟨x,by simpa using Array.mem_of_getElem? hx,rfl⟩))
  rename_i hj';rw[nG];rw[iG]at hu;obtain⟨p,hp,rfl⟩:=Option.map_eq_some_iff.1 hu;have:=(h4 _ p hp).R (w:=w) (X:=Xf base Xa w M st.ob);rw[gZ]at this;rwa[Nat.sub_sub]at this
 rintro e w' ⟨val,r,nx',ob',M',rfl,hK,h',hr⟩;exact Nx.of hK ((hR.again h').put (st:={st with nx:=nx',ob:=ob'}) hd hr) rfl
theorem KJ[Glo]{o:Oper}{f:Operand}{args:Array Operand}{tys:Array TypeId}(ho:o.op=.call {callee:=.value f,args:=args,argTypes:=tys})
  (h:Qw P o.dst (ev st f) (args.toList.map (ev st)) K st) (hd:∀d,o.dst=some d->d<st.n) (hR:RelM base Xa w0 st a w M):o.wp P a w (Nx base Xa w0 st.n K) Q:=by
 unfold Qw at h;have hfv:=CU hR.rx f;split at h
 ·rename_i fid hf;rw[hf]at hfv;have hfe:a.eval f=.func (.func fid) #[] #[]:=by
   revert hfv;generalize a.eval f=u;intro hfv;cases hfv;rfl
  rcases h with⟨hokg,h|h⟩
  ·exact MP ho (cs:=[]) hfe rfl (fun j u hu=>by simp at hu) (by simpa using And.intro hokg h) hd hR
  exact Wu ho hfe hokg h hd hR
 ·rename_i fid cs hf;rw[hf]at hfv;obtain⟨arr,hfe,hl,hr⟩:=R_clo hfv;exact MP ho hfe hl hr h hd hR
 ·rename_i fid fs cs hf;rw[hf]at hfv;obtain⟨fa,ca,hfe,h1,h2,h3,h4⟩:=R_cap hfv;exact WX ho hfe h1 h2 h3 h4 h.1 h.2 hd hR
 exact h.elim
theorem KB[Glo]{id sz:Nat}{u:Value}(h:R M w X n (.ptr id sz 0 0) u):∃g,id<n/\(M id).ownBlock=some g/\u=.pointer (some ⟨g,(M id).offB,none⟩):=by
 obtain⟨g,h1,h2,h3⟩:=Qo h;exact⟨g,h1,h2,by simpa using h3⟩
theorem IR[Glo]:∀{l:List Operand}{ps:List (Option (Nat×Nat))},Vo st l=some ps->ps.length=l.length
 | [],ps,h=>by simp only[Vo,gQ]at h;subst h;rfl
 | x::r,ps,h=>by
  simp only[Vo]at h;split at h
  ·rename_i h2;simp only[gQ]at h;subst h;simp[IR h2]
  ·rename_i h2;simp only[gQ]at h;subst h;simp[IR h2]
  cases h
theorem PS[Glo](hR:RelM base Xa w0 st a w M):∀(l:List Operand){ps:List (Option (Nat×Nat))},Vo st l=some ps->∀j p,ps[j]? =some p->CapR M st.nx p ((l.map a.eval).getD j undef)
 | [],ps,h,j,p,hp=>by simp only[Vo,gQ]at h;subst h;simp at hp
 | x::r,ps,h,j,p,hp=>by
  simp only[Vo]at h;have hx:=CU hR.rx x;split at h
  ·rename_i he h2;simp only[gQ]at h;subst h;rw[he]at hx;cases j with
   | zero =>
    simp only[iS,gQ]at hp;subst hp;obtain⟨g,h3,h4,h5⟩:=KB hx;exact⟨h3,g,h4,by simpa using h5⟩
   | succ j=>simpa using PS hR r h2 j p (by simpa using hp)
  ·rename_i he h2;simp only[gQ]at h;subst h;rw[he]at hx;cases j with
   | zero =>
    simp only[iS,gQ]at hp;subst hp;cases hx':a.eval x<;>rw[hx']at hx<;>cases hx;simp[CapR,hx']
   | succ j=>simpa using PS hR r h2 j p (by simpa using hp)
  cases h
theorem NH[Glo]{o:Oper}{t:TypeId}{x:Operand}{lo hi mx:Option Operand}(ho:o.op=.slice t x lo hi mx){id lo0 k:Nat}{b:Ob}(hb:lookO st.ob id=some b)(he:(ev st x=.own id/\k=b.xs.length)\/ev st x=.part id b.sz lo0 k)
  (h:Vq P o.dst t id lo0 k b (Bn st lo) (Bn st hi) (Bn st mx) K st) (hd:∀d,o.dst=some d->d<st.n) (hR:RelM base Xa w0 st a w M):o.wp P a w (Nx base Xa w0 st.n K) Q:=by
 have hx:=CU hR.rx x;unfold Vq at h;split at h
 ·rename_i e sz by_ l hh m hs hlo hhi hmx;obtain⟨hbox,hsz,rfl,⟨p0,p1,p2,p3,p4⟩,hK⟩:=h;obtain⟨inf,zz,hund,hinf,_,_,hisz,_,hpos⟩:=Bd hs;obtain⟨hid,hok⟩:=hR.obs id b hb;obtain⟨vals,hrow,hone,hrr⟩:=hok.row;have hval:∃A c,a.eval x=.slice A k c/\b.xs.length<=c/\((∃g O,M id=.slice (some ⟨g,O,none⟩) b.xs.length c/\A=some ⟨g,O,none⟩)\/b.xs=[]):=by
   rcases he with⟨he,rfl⟩|he
   ·rw[he]at hx;obtain⟨_,hv⟩:=Ik hx;rcases hrow.sl (EJ hx)with⟨hnil,h2⟩|⟨g,O,cap,cur,hval,_,_,hnc,_⟩
    ·exact⟨none,0,by rw[<- hv,hnil,h2],by omega,.inr (iF h2)⟩
    exact⟨_,cap,by rw[<- hv,hval],hnc,.inl ⟨g,O,hval,rfl⟩⟩
   rw[he]at hx;obtain⟨g,O,N,cap,hv,hl,hu⟩:=Il hx;rw[hv]at hrow;rcases hrow.sl ⟨_,_,_,rfl⟩with⟨hnil,_⟩|⟨g',O',cap',cur,hval,_,_,hnc,_⟩
   ·simp at hnil
   simp only[Value.slice.injEq,gQ,Addr.mk.injEq]at hval;obtain⟨_,rfl,rfl⟩:=hval;exact⟨some ⟨g,O,none⟩,cap,by rw[hu];simp,hnc,.inl ⟨g,O,hv,rfl⟩⟩
  obtain⟨A,c,hxe,hNc,hA⟩:=hval;have sb:∀(k:IntKind)(i:Int)(y:Nat)(code:BoundsCode),0<=i->i<=y->(Instr.sliceBound (.int k i) y code).run P w=.ok i.toNat w:=fun k i y code h1 h2=>by
   simp[Instr.sliceBound,asIntOf,h1,h2]
  generalize hhl:hh.getD k=H at *;generalize hll:l.getD 0=L at *;have hbd:∃m':Nat,(m=none->m'=c)/\(Instr.sliceBounds true k c (lo.map a.eval) (hi.map a.eval) (mx.map a.eval)).run P w=.ok (L.toNat,H.toNat,m') w:=by
   rcases CS hmx hR.rx with⟨rfl,e3⟩|⟨k3,i3,rfl,e3⟩
   ·refine⟨c,fun _=>rfl,?_⟩;rw[e3];rcases CS hlo hR.rx with⟨rfl,e1⟩|⟨k1,i1,rfl,e1⟩<;>rcases CS hhi hR.rx with⟨rfl,e2⟩|⟨k2,i2,rfl,e2⟩<;>rw[e1,e2]<;>simp only[Option.getD_none,Option.getD_some]at hhl hll<;>subst hhl<;>subst hll
    ·simp[Instr.sliceBounds]
    ·have:=sb k2 i2 c .sliceAcap (by omega) (by omega);simp[Instr.sliceBounds,this]
    ·have:=sb k1 i1 k .sliceB (by omega) (by omega);simp[Instr.sliceBounds,this]
    have h2:=sb k2 i2 c .sliceAcap (by omega) (by omega);have h1:=sb k1 i1 i2.toNat .sliceB (by omega) (by omega);simp[Instr.sliceBounds,h1,h2]
   obtain⟨q1,q2,q3⟩:=p4 i3 rfl;refine⟨i3.toNat,fun h=>(by cases h),?_⟩;rw[e3];rcases CS hhi hR.rx with⟨rfl,e2⟩|⟨k2,i2,rfl,e2⟩
   ·simp at q1
   simp only[Option.getD_some]at hhl;subst hhl;have h3:=sb k3 i3 c .slice3Acap (by omega) (by omega);have h2:=sb k2 i2 i3.toNat .slice3B (by omega) (by omega);rcases CS hlo hR.rx with⟨rfl,e1⟩|⟨k1,i1,rfl,e1⟩<;>rw[e1,e2]<;>simp only[Option.getD_none,Option.getD_some]at hll<;>subst hll
   ·simp[Instr.sliceBounds,h2,h3]
   have h1:=sb k1 i1 i2.toNat .slice3C (by omega) (by omega);simp[Instr.sliceBounds,h1,h2,h3]
  obtain⟨m',hm',hrun⟩:=hbd;have hsl:(Instr.sliceAt t (a.eval x) (lo.map a.eval) (hi.map a.eval) (mx.map a.eval)).run P w=.ok (.slice (if m'=L.toNat then A else A.map (·.add (L.toNat*sz))) (H.toNat-L.toNat) (m'-L.toNat)) w:=by
   rw[hxe];simp only[Instr.sliceAt,Instr.slice,Sem.run_bind,run_underlying hund,Result.andThen_ok,hrun,run_sizeOf hinf,hisz,Sem.run_pure]
  refine AU (w':=w) ?_ (Nx.of hK (hR.put hd ?_) rfl) (u:=.slice (if m'=L.toNat then A else A.map (·.add (L.toNat*sz))) (H.toNat-L.toNat) (m'-L.toNat))
  ·unfold execOp;simp[ho,hsl]
  cases hc:(m.isSome||b.xs.isEmpty)with
  | true=>exact .poi _ _
  | false =>
   simp only[Bool.or_eq_false_iff,Option.isSome_eq_false_iff,Option.isNone_iff_eq_none]at hc;obtain⟨hmn,hne⟩:=hc;obtain rfl:=hm' hmn;rcases hA with⟨g,O,hM,rfl⟩|hnil
   ·have hadd:∀n,(⟨g,O,none⟩:Addr).add n=⟨g,O+n,none⟩:=fun n=>Addr.add_lit _ _ _;have:=R.part (M:=M) (w:=w) (X:=Xf base Xa w M st.ob) st.nx id sz L.toNat (H-L).toNat g O b.xs.length m' hid hM (by omega);rw[show(H-L).toNat=H.toNat-L.toNat by omega]at this ⊢;simp only[cond_false];by_cases h0:m'=L.toNat
    ·rw[if_pos h0]at this ⊢;exact this
    rw[if_neg h0]at this ⊢;simp only[Option.map_some,hadd];exact this
   rw[hnil]at hne;simp at hne
 exact h.elim
theorem Jy[Glo]{o:Oper}{t:TypeId}{x:Operand}{lo:Option Operand}(ho:o.op=.slice t x lo none none){id sz:Nat}(he:ev st x=.ptr id sz 0 0){b:Ob}(hb:lookO st.ob id=some b){len:Nat}{ag:Bool}(ha:arE P t=some (len,1,ag))
  {lq:Option Int} (hl:Bn st lo=some lq) {cs:List V} (hxs:b.xs=[cs]) (hbox:b.box=true) (hm:len<=maxLen) (l0:0<=lq.getD 0) (l1:lq.getD 0<=len) (hcl:cs.length=len) (hno:BJ cs=[])
  (hK:K ({st with ob:=fz1 st.ob id}.put o.dst (.sl 1 false (((cs.map (DT st.ob)).drop (lq.getD 0).toNat).map fun c=>[c])))) (hd:∀d,o.dst=some d->d<st.n) (hR:RelM base Xa w0 st a w M):o.wp P a w (Nx base Xa w0 st.n K) Q:=by
 have hxv:=CU hR.rx x;rw[he]at hxv;obtain⟨g,_,hg,hxe⟩:=KB hxv;obtain⟨_,hok⟩:=hR.obs id b hb;obtain⟨vals,hrow,hone,hrr⟩:=hok.row;have hsz:cs.length=b.sz:=hok.len cs (by rw[hxs];simp);have hvl:vals.length=cs.length:=by rw[hrow.1,hxs,hsz];simp
 have hc:Cs M w (Xf base Xa w M st.ob) st.nx cs vals:=⟨hvl.symm,hone,fun j u hu=>by
  have:=hrr j u (by rw[hxs];simpa using hu);rwa[hbox,if_pos rfl]at this⟩
 have hp:=Cs.pur hR hc;rw[hno]at hp;have hp':Cs M w (Xf base Xa w M st.ob) 0 (cs.map (DT st.ob)) vals:=hp;have hR':RelM base Xa w0 {st with ob:=fz1 st.ob id} a w M:=hR.fz [id];have hX:∀q,Xf base Xa w M st.ob q->Xf base Xa w M (fz1 st.ob id) q:=fun q hq=>⟨hq.1,fun i o' ho' hf=>by
  rw[JM]at ho';split at ho'
  ·obtain⟨o'',h1,h2⟩:=Option.map_eq_some_iff.1 ho';subst h2;cases hf
  exact hq.2 i o' ho' hf⟩
 have hXg:Xf base Xa w M (fz1 st.ob id) g:=by
  refine⟨.inr (hrow.lt g (Value.ownB_of hg)),fun i o' ho' hf e=>?_⟩;rw[JM]at ho';split at ho'
  ·obtain⟨o'',h1,h2⟩:=Option.map_eq_some_iff.1 ho';subst h2;cases hf
  rename_i hne;exact hR.dist i id o' b g ho' hb hne e (Value.ownB_of hg)
 obtain⟨e,hu,ht⟩:=G2 ha;have hse:∃i,P.info? e=some i/\i.size=1:=by
  unfold tyE at ht;split at ht<;>first|cases ht;done|(simp only[gQ,Prod.mk.injEq]at ht;exact⟨_,by assumption,ht.1⟩)
 obtain⟨i,hi,hi1⟩:=hse;obtain⟨l,hlq⟩:∃l,l=lq.getD 0:=⟨_,rfl⟩;rw[<- hlq]at l0 l1 hK;have hrun:(Instr.sliceAt t (.pointer (some ⟨g,(M id).offB,none⟩)) (lo.map a.eval) none none).run P w=.ok (.slice (some (if len=l.toNat then(⟨g,(M id).offB,none⟩:Addr)else(⟨g,(M id).offB,none⟩:Addr).add (l.toNat*1))) (len-l.toNat) (len-l.toNat)) w:=by
  rcases CS hl hR.rx with⟨h,hlo⟩|⟨k,z,h,hlo⟩
  ·subst h;simp only[Option.getD_none]at hlq;subst hlq;rw[hlo];simp[Instr.sliceAt,run_underlying hu,Instr.sureAddr,Instr.sliceBounds,run_sizeOf hi,hi1]
  subst h;simp only[Option.getD_some]at hlq;subst hlq;rw[hlo];have hsb:(Instr.sliceBound (.int k l) len .sliceB).run P w=.ok l.toNat w:=by simp[Instr.sliceBound,asIntOf,l0,l1]
  simp[Instr.sliceAt,run_underlying hu,Instr.sureAddr,Instr.sliceBounds,hsb,run_sizeOf hi,hi1]
 refine AU (w':=w) ?_ (Nx.of hK (hR'.put hd (v:=.sl 1 false (((cs.map (DT st.ob)).drop l.toNat).map fun c=>[c])) ?_) rfl) (u:=.slice (some (if len=l.toNat then(⟨g,(M id).offB,none⟩:Addr)else(⟨g,(M id).offB,none⟩:Addr).add (l.toNat*1))) (len-l.toNat) (len-l.toNat))
 ·unfold execOp;simp[ho,hxe,hrun]
 refine .sl _ _ _ _ _ _ _ (fun j=>vals.getD (l.toNat+j) undef) (by simp[hcl]) (g8 _) (by omega) (fun h=>by cases h) (fun h=>by cases h) (fun x hx=>?_) (fun h0=>⟨_,rfl,?_,fun j hj=>?_⟩) (fun j u hj=>?_)
 ·obtain⟨c,_,rfl⟩:=List.mem_map.1 hx;rfl
 ·split
  ·exact hXg
  rw[block_add];exact hXg
 ·rw[nG,add_add];have hlt:l.toNat*1+j<vals.length:=by omega
  have hvj:vals[l.toNat*1+j]? =some (vals.getD (l.toNat+j) undef):=by
   rw[gP,Nat.mul_one,gR (by omega)];rfl
  refine⟨hrow.cells hg _ _ hvj,hone _ (g9 hvj)⟩
 have hfl:((((cs.map (DT st.ob)).drop l.toNat).map fun c=>[c]).flatten)=(cs.map (DT st.ob)).drop l.toNat:=by
  generalize (cs.map (DT st.ob)).drop l.toNat=y;induction y with
  | nil=>rfl
  | cons c y ih=>simp[ih]
 rw[hfl,iP]at hj;exact(hp'.rel _ u hj).mono (g8 _) (fun _ _=>rfl) hX (fun _ _=>rfl)
theorem Sm[Glo](hR:RelM base Xa w0 st a w M):∀(l:List Operand){ids:List Nat}{cs:List V}(_:KL st l=some (ids,cs)){X':Nat->Prop}(_:∀b,Xf base Xa w M st.ob b->X' b)
  (_:∀id o g,id∈ids->lookO st.ob id=some o->(M id).ownB=some g->X' g),cs.length=l.length/\∀(j:Nat)(u:V),cs[j]? =some u->R M w X' 0 u ((l.map a.eval).getD j undef)
 | [],ids,cs,h,X',_,_=>by
  simp only[KL,gQ,Prod.mk.injEq]at h;obtain⟨rfl,rfl⟩:=h;exact⟨rfl,fun j u hu=>by simp at hu⟩
 | x::l,ids,cs,h,X',hX',hin=>by
  simp only[KL]at h;split at h
  ·rename_i id sz ids' cs' hx hr;split at h
   ·rename_i b hb;split at h
    ·rename_i row hrow;cases hc:(b.box&&decide (BJ row=[]))with
     | false=>simp[hc]at h
     | true =>
      simp only[hc,cond_true,gQ,Prod.mk.injEq]at h;obtain⟨rfl,rfl⟩:=h;simp only[gX,decide_eq_true_eq]at hc;obtain⟨h1,h2⟩:=Sm hR l hr hX' (fun i o g hi=>hin i o g (gW _ hi));refine⟨by simp[h1],fun j u hu=>?_⟩;cases j with
      | succ j=>simpa using h2 j u (by simpa using hu)
      | zero =>
       simp only[iS,gQ]at hu;subst hu;have hxv:=CU hR.rx x;rw[hx]at hxv;obtain⟨g,_,hg,hxe⟩:=KB hxv;obtain⟨_,hok⟩:=hR.obs id b hb;obtain⟨vals,hown,hone,hrr⟩:=hok.row;have hvl:vals.length=row.length:=by rw[hown.1,hrow];simp[hok.len row (by rw[hrow];simp)]
       simp only[iI,iC,hxe];refine .iptr _ _ _ (fun j=>vals.getD j undef) (hin id b g (g7 ..) hb (Value.ownB_of hg)) (fun j hj=>?_) (fun j u hu=>?_)
       ·rw[List.length_map]at hj;have hvj:vals[j]? =some (vals.getD j undef):=by rw[gP,gR (by omega)];rfl
        exact⟨hown.cells hg j _ hvj,hone _ (g9 hvj)⟩
       rw[iG]at hu;obtain⟨v,hv,rfl⟩:=Option.map_eq_some_iff.1 hu;have:=hrr j v (by rw[hrow];simpa using hv);exact NI (n:=if b.box then st.nx else 0) (by simpa using this) (fun id o ho=>by
        have:=(hR.obs id o ho).2;simpa[hc.1]using this) hX' fun id' o g' e ho' hg'=>by
        have:id'∈BJ row:=Fl _ _ (by
         rcases e with rfl|rfl
         ·exact .inl (g9 hv)
         exact .inr (g9 hv))
        rw[hc.2]at this;cases this
    simp at h
   simp at h
  simp at h
theorem Gq[Glo]{o:Oper}(h:opV P o K st)(hok:okO P st.n o=true)(hR:RelM base Xa w0 st a w M):o.wp P a w (Nx base Xa w0 st.n K) Q:=by
 have hd:∀d,o.dst=some d->d<st.n:=fun d hd=>by
  unfold okO at hok;simp only[hd,gX,decide_eq_true_eq]at hok;exact hok.1
 have hcv:∀s d x,o.op=.convert s d x->(P.underlying s).isSome=true:=fun s d x h=>by
  unfold okO at hok;simp only[h,gX]at hok;exact hok.2
 cases hpv:pv P st o.op with
 | some q =>
  obtain⟨p,v⟩:=q;unfold opV at h;simp only[hpv]at h;obtain⟨u,h1,h2⟩:=I9 hpv h.1 hR.rx hcv;exact AU h1 (Nx.of h.2 (hR.put hd h2) rfl)
 | none =>
  have h':=h;unfold opV at h;simp only[hpv]at h;split at h
  ·rename_i t ho;split at h
   ·rename_i cs hz;exact Np ho hz hd hR h
   exact h.elim
  ·rename_i t x ho;split at h
   ·rename_i cs hc;exact Sj ho hc hd hR h
   exact h.elim
  ·rename_i t x y ho;exact Ow ho h' hd hR
  ·rename_i t parts ho;split at h
   ·rename_i zs hz;split at h
    ·rename_i cs hf;obtain⟨arr,h1,h2⟩:=MN hz hf h.1 hR.rx;refine AU (u:=.agg arr) (w':=w) ?_ (Nx.of h.2 (hR.put hd ?_) rfl)
     ·unfold execOp;have:(parts.map fun x=>(x.1,a.eval x.2))=parts.map (fun(x:Nat×Operand)=>match x with|(i,x)=>(i,a.eval x)):=rfl;simp[ho,h1]
     exact .st _ _ _ (by simpa using h2.len) (fun u hu=>h2.one u (by simpa using hu)) (fun j c hc=>by
      have:=h2.rel j c hc;simpa[gZ,gP]using this)
    exact h.elim
   exact h.elim
  ·rename_i t len parts ho;split at h
   ·rename_i e sz b hs;split at h
    ·rename_i zs hz;split at h
     ·rename_i cs hf;exact IE ho hs hz hf h.1 hd hR h.2
     exact h.elim
    exact h.elim
   exact h.elim
  ·rename_i t x lo hi mx ho;split at h
   ·rename_i id he;split at h
    ·rename_i b hb;split at h
     ·exact NH ho hb (.inl ⟨he,rfl⟩) h hd hR
     split at h
     ·rename_i p v hs;exact Jz ho he hb hs h.1 h.2.1 h.2.2 hd hR
     exact h.elim
    exact h.elim
   ·rename_i id sq lo0 k he;split at h
    ·rename_i b hb;obtain⟨rfl,h⟩:=h;exact NH ho hb (.inr he) h hd hR
    exact h.elim
   ·rename_i id sz he;split at h
    ·rename_i b len ag l hb ha hl;split at h
     ·rename_i cs hxs;obtain⟨h1,h2,h3,h4,h5,h6,hK⟩:=h;exact Jy ho he hb ha hl hxs h1 h2 h3 h4 h5 h6 hK hd hR
     exact h.elim
    exact h.elim
   exact h.elim
  ·rename_i op t x y yt ho;split at h
   ·rename_i sz tt xs he;obtain⟨hs,h⟩:=h;obtain⟨⟨e,s,b⟩,hse⟩:=Option.isSome_iff_exists.1 hs;obtain⟨_,_,hu,_⟩:=Bd hse;have hx:=CU hR.rx x;rw[he]at hx;obtain⟨A,c,f,hv,_,_,_,_,_,hA,_⟩:=SH hx;refine AU (u:=.bool A.isNone) (w':=w) ?_ (Nx.of (h A.isNone fun hn=>?_) (hR.put hd (.bool _ _)) rfl)
    ·unfold execOp;have hr:=run_equal_slice_nil (P:=P) w t e A xs.length c hu;have hg:(eqGuard .eql t x (.const (.slice none 0 0)) (.slice A xs.length c) (.slice none 0 0)).run P w=.ok () w:=by unfold eqGuard;simp
     have hc:a.eval (.const (.slice none 0 0))=.slice none 0 0:=rfl;simp only[ho,hv,hc,Sem.run_bind,hg,Result.andThen_ok,binOp,hr,Sem.run_pure]
    rcases Nat.eq_zero_or_pos xs.length with h0|h0
    ·exact iF h0
    obtain⟨ad,e',_⟩:=hA h0;rw[e']at hn;cases hn
   exact h.elim
  ·rename_i s d x ho;split at h
   ·rename_i b e sz bb he hsl;obtain⟨hs,hbs,hl,hK⟩:=h;obtain⟨_,_,hu,_⟩:=Bd hsl;obtain⟨e',hu',he'⟩:=Ku hbs;rw[hu]at hu';simp only[gQ,TypeDesc.slice.injEq]at hu';subst hu';have hx:=CU hR.rx x;rw[he]at hx;have hv:=Ea hx;obtain⟨cap,w',hrn,hown,hgr⟩:=Ou (P:=P) w base s d e b (Fi hs) hu he' hl hR.hbase;obtain⟨M',hM,hn,hR'⟩:=hR.grow (ob1:=st.ob) (fun i o' ho'=>ho') none (fun b hx' e=>by cases e) (fun i o' ho' g hg e=>by cases e) (fun g hg=>by cases hg) hgr (.slice (some ⟨w.heap.size,0,none⟩) b.length cap) (fun g hg=>by
      simp only[Value.ownB,gQ]at hg;exact .inr (by omega)) ⟨e,1,false,false,AM b⟩ (fun _=>Nat.one_pos) (by simp[AM]) _ (by simpa[AM]using hown) (by simp only[List.mem_map];rintro u ⟨c,_,rfl⟩;rfl) (fun j v hv=>by
      have hfl:∀l:List UInt8,(AM l).flatten=l.map fun(c:UInt8)=>V.int .u8 (c.toNat:Int):=fun l=>by induction l with|nil=>rfl|cons x l ih=>simpa[AM]using ih
      simp only[hfl,iG]at hv;obtain⟨c,hc,rfl⟩:=Option.map_eq_some_iff.1 hv;rw[gP,iG,hc];exact .int _ _ _)
    refine AU (u:=_) (w':=w') ?_ (Nx.of hK (hR'.put hd (v:=.own st.nx) (.own _ _ _ _ _ (by simp) hn)) rfl);unfold execOp;simp only[ho,hv,Sem.run_bind,hrn,Result.andThen_ok,Sem.run_pure]
   ·rename_i k n he hsl;obtain⟨hs,hK⟩:=h;have hx:=CU hR.rx x;rw[he]at hx;have hv:=DK hx;have hrun:=run_convert_int_string (P:=P) w s d k n (hcv s d x ho) (Fi hs);have henc:Utf8.encode n=⟨(encS n).toArray⟩:=by
     unfold encS;split
     ·rename_i hh;obtain⟨h0,h1⟩:=hh;have hval:Utf8.valid n=true:=by simp[Utf8.valid];omega
      unfold Utf8.encode;simp only[hval,if_true];rw[nH]
     rfl
    refine AU (u:=.string ⟨(encS n).toArray⟩) (w':=w) ?_ (Nx.of hK (hR.put hd (.str _ _)) rfl);unfold execOp;rw[henc]at hrun;simp only[ho,hv,Sem.run_bind,hrun,Result.andThen_ok,Sem.run_pure]
   exact h.elim
  ·rename_i fn first caps ho
   split at h
   rotate_left
   ·exact h.elim
   rename_i f;split at h
   ·split at h
    ·rename_i fs cs hf hc;refine AU (u:=.func (.func f) (first.map a.eval) (caps.map a.eval)) (w':=w) ?_ (Nx.of h (hR.put hd (.cap _ f fs cs _ _ (by simpa using(IR hf).symm) (by simpa using(IR hc).symm) (fun j p hp=>?_) fun j p hp=>?_)) rfl)
     ·unfold execOp;simp[ho,Instr.makeFunc]
     ·have:=PS hR _ hf j p hp;simpa[gZ,gP]using this
     have:=PS hR _ hc j p hp;simpa[gZ,gP]using this
    exact h.elim
   split at h
   ·rename_i ids cs hc;obtain⟨rfl,hK⟩:=h;have hR':=hR.fz ids;obtain⟨hl,hr⟩:=Sm hR caps.toList hc (X':=Xf base Xa w M (fzs ids st.ob)) (fun b hb=>⟨hb.1,fun id o' ho' hf'=>by
     rw[Ce]at ho';split at ho'
     ·obtain⟨o'',h1,h2⟩:=Option.map_eq_some_iff.1 ho';subst h2;cases hf'
     ·exact hb.2 id o' ho' hf'⟩) (fun id o' g hm ho' hg=>by
     obtain⟨vals,hrow,_⟩:=(hR.obs id o' ho').2.row;refine⟨.inr (hrow.lt g hg),fun id' o1 ho1 hf1 e=>?_⟩;rw[Ce]at ho1;split at ho1
     ·obtain⟨o'',h1,h2⟩:=Option.map_eq_some_iff.1 ho1;subst h2;cases hf1
     rename_i hni;exact hR.dist id' id o1 o' g ho1 ho' (fun e=>hni (e▸hm)) e hg)
    refine AU (u:=.func (.func f) #[] (caps.map a.eval)) (w':=w) ?_ (Nx.of hK (hR'.put hd (.clo _ f cs _ (by simpa using hl.symm) fun j u hu=>?_)) rfl)
    ·unfold execOp;simp[ho,Instr.makeFunc]
    have:=hr j u hu;simpa[gZ,gP]using this
   exact h.elim
  ·rename_i c ho;obtain⟨callee,args,tys⟩:=c;cases callee with
   | value f=>exact KJ ho h hd hR
   | invoke r m=>simp at h
   | builtin b =>
    cases b<;>simp only at h;all_goals try exact h.elim
    split at h
    ·rename_i s x t t' h1 h2;split at h
     ·rename_i htt;subst htt;exact MB ho h1 h2 h hd hR
     exact ID ho h1 h2 h hd hR
    ·exact h.elim
    split at h
    ·rename_i s t h1 h2;exact Nv ho h1 h2 h hd hR
    ·exact h.elim
    split at h
    ·rename_i s x t t' h1 h2;exact Qy ho h1 h2 h hd hR
    ·exact h.elim
    split at h
    ·rename_i m k t t' h1 h2;exact MY ho h1 h2 h hd hR
    exact h.elim
  ·rename_i t ho;split at h
   ·rename_i sz ag z hm;exact LW ho hm hd hR h
   exact h.elim
  ·rename_i t m k x ho;split at h
   ·rename_i sz ag z id s cs hm hem hk hcs;split at h
    ·rename_i b hb;obtain⟨q1,q2,q3,q4,q5,hK⟩:=h;exact IB (.inl ho) hm hem hk hcs hb q1 q2 q3 q4 q5 hd hR hK
    exact h.elim
   exact h.elim
  ·rename_i t m k x ho;split at h
   ·rename_i sz ag z id s cs hm hem hk hcs;split at h
    ·rename_i b hb;obtain⟨q1,q2,q3,q4,q5,hK⟩:=h;exact IB (.inr ho) hm hem hk hcs hb q1 q2 q3 q4 q5 hd hR hK
    exact h.elim
   exact h.elim
  ·rename_i t m k ok ho;split at h
   ·rename_i sz ag z s hm hk;split at h
    ·rename_i id hem;split at h
     ·rename_i b hb;obtain⟨q2,q3,hK⟩:=h;exact Ho ho hm hk (.inl ⟨id,b,hem,hb,q2,rfl⟩) q3 hd hR hK
     exact h.elim
    ·rename_i sz' xs hem;obtain⟨rfl,q3,hK⟩:=h;exact Ho ho hm hk (.inr hem) q3 hd hR hK
    exact h.elim
   exact h.elim
  ·rename_i t x ho;split at h
   ·rename_i s hx;exact Od ho hx h.1 hd hR h.2
   exact h.elim
  ·rename_i it ho;split at h
   ·rename_i id he;split at h
    ·rename_i b hb;split at h
     ·rename_i s pos hx;obtain⟨q1,q2,q3,q4,hK⟩:=h;exact R2 ho he hb hx q1 q2 q3 q4 hd hR hK
     exact h.elim
    exact h.elim
   exact h.elim
  ·rename_i t l c ho;split at h
   ·rename_i e sz by_ kl n kc m hs hl hc;split at h
    ·rename_i z hz;split at h
     ·obtain⟨rfl,q1,q2,q3,hK⟩:=h;exact LV ho hs hl hc hz q1 q2 q3 hd hR hK
     obtain⟨rfl,q1,q2,q3,q4,hK⟩:=h;exact JP ho hs hl hc hz q1 q2 q3 q4 hd hR hK
    exact h.elim
   exact h.elim
  exact h.elim
end
end Go.Ab
namespace Go.Ab
open Go.RowKit
def awp[Glo](P:Program)(c:Code)(Q:Exit->St->Prop)(st:St):Prop :=
 ∀base Xa w0 a w,Rel base Xa w0 st a w->c.wp P (fun e a' w'=>∃st',st'.n=st.n/\Q e st'/\Rel base Xa w0 st' a' w') a w
def thn(K:St->Prop)(Q:Exit->St->Prop):Exit->St->Prop
 | .normal,s=>K s
 | e,s=>Q e s
def blk(id:Nat)(Q:Exit->St->Prop):Exit->St->Prop
 | .exit id',s=>if id'=id then Q .normal s else Q (.exit id') s
 | e,s=>Q e s
section
variable {P:Program} {base:Nat} {Xa:Nat->Prop} {w0:W0} {w w':World} {st:St} {a:Act} {M M':Mp} {X X':Nat->Prop} {n n':Nat} {K:St->Prop} {Q:Exit->St->Prop}
theorem Nc[Glo]{ops:Array Oper}{o:Oper}{j:Nat}{want:Bool}(hg:o.guard=some (j,want)){d:Tmp}(hj:(ops.toList[j]?).bind (·.dst)=some d){b want':Bool}(hb:gdV (lkT st.tmp d) want=some (b,want'))(hR:RelM base Xa w0 st a w M):
  Region.wanted o (yielded ops a.tmps)=(b==want'):=by
 have h:=hR.tmps d;rw[Array.getElem?_toList]at hj;have key:∀c:Bool,a.tmps.getD d undef=.bool c->Region.wanted o (yielded ops a.tmps)=(c==want):=fun c h=>by
  have hlt:d<a.tmps.size:=by
   rcases Nat.lt_or_ge d a.tmps.size with h'|h'
   ·exact h'
   rw[gZ,Array.getElem?_eq_none h']at h;cases h
  have h2:a.tmps[d]? =some (.bool c):=by
   rw[i9 hlt];rw[gZ,i9 hlt]at h;exact congrArg some h
  simp only[Region.wanted,hg,yielded,hj,Option.bind_some,h2];rfl
 unfold gdV at hb;split at hb
 ·rename_i c he;simp only[gQ,Prod.mk.injEq]at hb;obtain⟨rfl,rfl⟩:=hb;rw[he]at h;exact key _ (Et h)
 ·rename_i c b' he;simp only[gQ,Prod.mk.injEq]at hb;obtain⟨rfl,rfl⟩:=hb;rw[he]at h;cases c with
  | true =>
   rw[key b' (by
    generalize a.tmps.getD d undef=u at h ⊢;cases h with
    | gd _ _ _ _ h1 _=>exact Et (h1 rfl))]
   simp
  | false =>
   have hu:a.tmps.getD d undef=undef:=by
    generalize a.tmps.getD d undef=u at h ⊢;cases h with
    | gd _ _ _ _ _ h0=>exact h0 rfl
   have h2:a.tmps[d]? =none\/a.tmps[d]? =some undef:=by
    cases hc:a.tmps[d]? with
    | none=>exact .inl rfl
    | some x=>rw[gZ,hc]at hu;simp at hu;rw[hu];exact .inr rfl
   have:yielded ops a.tmps j=none:=by
    rcases h2 with h2|h2<;>simp only[yielded,hj,Option.bind_some,h2]<;>rfl
   simp only[Region.wanted,hg,this];rfl
 simp at hb
theorem TZ(st:St):∀l:List Operand,(IX st l).ob=st.ob
 | []=>rfl
 | x::r=>by
  cases x with
  | tmp t=>simp only[IX];split<;>exact TZ st r
  | _=>exact TZ st r
theorem TY(st:St):∀l:List Operand,(IX st l).nx=st.nx
 | []=>rfl
 | x::r=>by
  cases x with
  | tmp t=>simp only[IX];split<;>exact TY st r
  | _=>exact TY st r
theorem Wj(st:St):∀l:List Operand,(IX st l).n=st.n
 | []=>rfl
 | x::r=>by
  cases x with
  | tmp t=>simp only[IX];split<;>exact Wj st r
  | _=>exact Wj st r
theorem T8(st:St):∀l:List Operand,(IX st l).pn=st.pn
 | []=>rfl
 | x::r=>by
  cases x with
  | tmp t=>simp only[IX];split<;>exact T8 st r
  | _=>exact T8 st r
theorem RL[Glo]{N:Nat}(h:RelX base st a w M X N):∀l:List Operand,Gp st l->RelX base (IX st l) a w M X N
 | [],_=>h
 | x::r,hl=>by
  cases x with
  | tmp t =>
   simp only[Gp]at hl;have ih:=RL h r hl.2;simp only[IX];split
   ·rename_i b v hv;have ht:=h.tmps t;rw[hv]at ht;have hg:=hl.1;rw[hv]at hg;have hu:R M w X N v (a.tmps.getD t undef):=by
     cases ht with
     | gd _ _ _ _ h' _=>exact h' hg
    refine⟨fun t'=>?_,ih.obs,ih.gl⟩;simp only[lkT];split
    ·rename_i e;subst e;exact hu
    exact ih.tmps t'
   exact ih
  | _=>exact RL h r (by simpa only[Gp]using hl)
theorem DR{o:Oper}{N N':Act->World->Prop}{QC:Exit->Act->World->Prop}(h:o.wp P a w N QC)(hN:∀a w,N a w->N' a w):o.wp P a w N' QC:=by
 unfold Oper.wp at h ⊢;revert h;generalize (execOp a.eval o).run P w=res;intro h;cases res with
 | ok nx w1 =>
  cases nx with
  | value v=>exact hN _ _ h
  | skip=>exact hN _ _ h
  | enter f args =>
   refine Calls.mono h ?_;intro e w2 he;cases e with
   | returned v=>exact hN _ _ he
   | panicked c=>exact he
   | outgrown=>exact he
  | defer d=>exact hN _ _ h
  | row s args=>exact Rows.mono h fun v w2 he=>hN _ _ he
  | _=>exact h.elim
 | halt hh w1 =>
  cases hh with
  | panic v=>exact h
  | _=>exact h.elim
theorem RelM.bump[Glo](h:RelM base Xa w0 st a w M)(k:Nat):RelM base Xa w0 {st with nx:=st.nx+k} a w M :=
 ⟨h.below,h.hbase,h.xa,fun m k v u hv=>(h.gh m k v u hv).mono (g8 _) (fun _ _=>rfl) (fun _ h=>h) (fun _ _=>rfl),⟨⟨h.pin.1.1,iY h.pin.1.2 (by simp)⟩,h.pin.2⟩,h.defers.mono (fun _ h=>h) (fun _ _=>rfl),h.size,fun t=>(h.tmps t).mono (by simp) (fun _ _=>rfl) (fun _ h=>h) (fun _ _=>rfl),fun id o ho=>by
  obtain⟨h1,h2⟩:=h.obs id o ho;exact⟨by simp only;omega,h2.mono (by simp) (fun _ _=>rfl) (fun _ h=>h) (fun _ _=>rfl) (fun _ _=>rfl)⟩,h.dist⟩
theorem N6[Glo]{QC:Exit->Act->World->Prop}{o:Oper}{b want:Bool}{r:V}(h:uniV P o b want K st r)(hd:∀d,o.dst=some d->d<st.n)(hR:RelM base Xa w0 st a w M):
  if(b==want)=true then o.wp P a w (Nx base Xa w0 st.n K) QC else Nx base Xa w0 st.n K (a.put o.dst undef) w:=by
 unfold uniV at h;split at h
 ·rename_i c ho;obtain⟨callee,args,tys⟩:=c;split at h
  ·rename_i f hcal;simp only at hcal;subst hcal;split at h
   ·rename_i fid hf;obtain⟨h1,hobs,hK⟩:=h;split
    ·rename_i hbw;have hbw':b=want:=by simpa using hbw
     obtain⟨hg,hm⟩:=h1 hbw';have hcall:=KJ (Q:=QC) (K:=fun st'=>st'=({st with nx:=st.nx+r.fcells.length,ob:=fzs (((args.toList.map (ev st)).map unG).flatMap fun v:V=>BJ v.cells) st.ob}.put o.dst (opn st.nx r))) ho (by
      unfold Qw;rw[hf];exact⟨hg,.inl ⟨0,r,hm,by simp only[C0];rw[hobs];rfl⟩⟩) hd hR
     refine DR hcall ?_;rintro a' w' ⟨s',hn,rfl,M',hM'⟩;refine⟨_,by rw[dI],hK,M',?_⟩;cases hdst:o.dst with
     | none=>rw[hdst]at hM';exact hM'
     | some d =>
      rw[hdst]at hM';refine⟨hM'.below,hM'.hbase,hM'.xa,hM'.gh,hM'.pin,hM'.defers,hM'.size,fun t=>?_,hM'.obs,hM'.dist⟩;have:=hM'.tmps t;simp only[St.put,lkT]at this ⊢;split
      ·rename_i e;rw[if_pos e]at this;exact .gd _ _ _ _ (fun _=>this) (fun e'=>by rw[hbw]at e';cases e')
      rename_i e;rw[if_neg e]at this;exact this
    rename_i hbw;refine⟨_,by rw[dI],hK,M,?_⟩;have h2:=(hR.fz (((args.toList.map (ev st)).map unG).flatMap fun v:V=>BJ v.cells)).bump r.fcells.length;exact h2.put (st:={st with nx:=st.nx+r.fcells.length,ob:=fzs (((args.toList.map (ev st)).map unG).flatMap fun v:V=>BJ v.cells) st.ob}) hd (.gd _ _ _ _ (fun e=>absurd e hbw) (fun _=>rfl))
   exact h.elim
  exact h.elim
 exact h.elim
theorem RelM.fixM[Glo](h:RelM base Xa w0 st a w M){l:List Operand}(hl:Gp st l):RelM base Xa w0 (IX st l) a w M:=by
 have hF:=RL h.rx l hl;have h1:=TZ st l;have h2:=TY st l;have h3:=Wj st l;have h4:=T8 st l;refine⟨h.below,h.hbase,h.xa,fun m k v u hv=>by rw[h1];exact h.gh m k v u hv,by rw[h2,h4];exact h.pin,by rw[h1];exact h.defers,by rw[h3];exact h.size,fun t=>?_,fun id o ho=>?_,fun id id' o o' g q1 q2=>?_⟩
 ·rw[h1,h2];exact hF.tmps t
 ·rw[h1]at ho ⊢;rw[h2];exact h.obs id o ho
 rw[h1]at q1 q2;exact h.dist id id' o o' g q1 q2
theorem Hg[Glo]{ops:Array Oper}{QC:Exit->Act->World->Prop}{o:Oper}(h:Ll P (slotsOf ops.toList) o K st)(hok:okO P st.n o=true)(hR:RelM base Xa w0 st a w M):
  if Region.wanted o (yielded ops a.tmps)=true then o.wp P a w (Nx base Xa w0 st.n K) QC else Nx base Xa w0 st.n K (a.put o.dst undef) w:=by
 have hd:∀d,o.dst=some d->d<st.n:=fun d hd=>by
  unfold okO at hok;simp only[hd,gX,decide_eq_true_eq]at hok;exact hok.1
 simp only[Ll]at h;split at h
 ·rename_i hg;rw[if_pos (by simp[Region.wanted,hg])];exact Gq h hok hR
 rename_i j want hg;split at h
 ·rename_i d hj;split at h
  ·rename_i b want hb;rw[Jc]at hj;rw[Nc hg hj hb hR];split at h
   ·rename_i p v hpv;by_cases hbw:b=want
    ·rw[if_pos (by simp[hbw])];obtain⟨hp,hall⟩:=h.1 hbw;obtain⟨u,h1,h2⟩:=I9 hpv hp (RL hR.rx _ hall) (fun s d x h'=>by
      unfold okO at hok;simp only[h',gX]at hok;exact hok.2)
     exact AU h1 (Nx.of h.2 (hR.put hd (.gd _ _ _ _ (fun _=>h2) (fun e=>by simp[hbw]at e))) rfl)
    rw[if_neg (by simpa using hbw)];exact Nx.of h.2 (hR.put hd (.gd _ _ _ _ (fun h'=>absurd (by simpa using h') hbw) (fun _=>rfl))) rfl
   split at h
   ·rcases h with h|⟨r,h⟩
    case inr=>exact N6 h hd hR
    by_cases hbw:b=want
    ·rw[if_pos (by simp[hbw])];exact Gq (h.1 hbw) hok hR
    rw[if_neg (by simpa using hbw)];exact Nx.of (h.2 (by cases b<;>cases want<;>simp_all)) (hR.put hd (.poi _ _)) rfl
   by_cases hbw:b=want
   ·rw[if_pos (by simp[hbw])];obtain⟨hall,hv⟩:=h.1 hbw;have hF:=RL hR.rx _ hall;have hn:=Wj st (Gf o.op);have hw:o.wp P a w (Nx base Xa w0 (IX st (Gf o.op)).n K) QC:=Gq hv (by rw[hn];exact hok) (hR.fixM hall);rw[hn]at hw;exact hw
   rw[if_neg (by simpa using hbw)];exact Nx.of (h.2 (by cases b<;>cases want<;>simp_all)) (hR.put hd (.poi _ _)) rfl
  exact h.elim
 exact h.elim
theorem NF[Glo]{ops:Array Oper}{QC:Exit->Act->World->Prop}{m:Nat}(hQ:∀a w,Nx base Xa w0 m K a w->QC .normal a w):∀(l:List Oper)(st:St)(a:Act)(w:World),st.n=m->Px P (slotsOf ops.toList) l K st->(l.all (okO P m))=true->Rel base Xa w0 st a w->wpList P ops QC l a w
 | [],st,a,w,hn,h,_,hR=>hQ a w ⟨st,hn,h,hR⟩
 | o::r,st,a,w,hn,h,hok,⟨M,hR⟩=>by
  simp only[List.all_cons,gX]at hok;have next:∀a' w',Nx base Xa w0 st.n (Px P (slotsOf ops.toList) r K) a' w'->wpList P ops QC r a' w':=fun a' w' ⟨st',h1,h2,h3⟩=>NF hQ r st' a' w' (h1.trans hn) h2 hok.2 h3
  have hs:=Hg (QC:=QC) h (by rw[hn];exact hok.1) hR;unfold wpList;split
  ·rename_i hw;rw[if_pos hw]at hs;exact .inl (DR hs next)
  rename_i hw;rw[if_neg hw]at hs;exact next _ _ hs
theorem Au[Glo]{id:Nat}{ops:List Oper}(hok:ops.all (okO P st.n)=true)(h:Px P (slotsOf ops) ops (Q .normal) st):awp P (.region id ops.toArray false) Q st:=by
 intro base Xa w0 a w hR;refine wp_region_list ?_;exact NF (K:=Q .normal) (m:=st.n) (fun a w ⟨s,h1,h2,h3⟩=>⟨s,h1,h2,h3⟩) _ st a w rfl (by simpa using h) (by simpa using hok) hR
theorem B6[Glo](h:Q .normal st):awp P .skip Q st:=fun _ _ _ _ _ hR=>wp_skip ⟨st,rfl,h,hR⟩
theorem B2[Glo]{id:Nat}(h:Q (.exit id) st):awp P (.exit id) Q st:=fun _ _ _ _ _ hR=>wp_exit ⟨st,rfl,h,hR⟩
theorem BS[Glo](h:Q .ret st):awp P .ret Q st:=fun _ _ _ _ _ hR=>wp_ret ⟨st,rfl,h,hR⟩
theorem S9[Glo]{x y:Code}(h:awp P x (thn (awp P y Q) Q) st):awp P (.seq x y) Q st:=fun base Xa w0 a w hR=>wp_seq (wp_mono (h base Xa w0 a w hR) fun e a' w' ⟨s,h1,h2,h3⟩=>by
 cases e with
 | normal =>
  exact wp_mono (h2 base Xa w0 a' w' h3) fun e _ _ ⟨s',h1',h2',h3'⟩=>⟨s',h1'.trans h1,h2',h3'⟩
 | _=>exact⟨s,h1,h2,h3⟩)
theorem AB[Glo]{c:Operand}{x y:Code}{b:Bool}(hc:ev st c=.bool b)(h1:b=true->awp P x Q st)(h2:b=false->awp P y Q st):awp P (.cond c x y) Q st:=fun base Xa w0 a w hR=>by
 obtain⟨M,hM⟩:=hR;have hb:=CU hM.rx c;rw[hc]at hb;exact wp_cond_split (Et hb) (fun h=>h1 h base Xa w0 a w ⟨M,hM⟩) (fun h=>h2 h base Xa w0 a w ⟨M,hM⟩)
theorem BK[Glo]{id:Nat}{c:Code}(h:awp P c (blk id Q) st):awp P (.block id c) Q st:=fun base Xa w0 a w hR=>wp_block (wp_mono (h base Xa w0 a w hR) fun e _ _ ⟨s,h1,h2,h3⟩=>by
 cases e with
 | exit id' =>
  simp only[blk]at h2;simp only[Exit.inBlock];split at h2
  ·rename_i e;rw[if_pos e];exact⟨s,h1,h2,h3⟩
  rename_i e;rw[if_neg e];exact⟨s,h1,h2,h3⟩
 | _=>exact⟨s,h1,h2,h3⟩)
def BE(ρ:Nat->Nat):V->V
 | .own id=>.own (ρ id)
 | .ptr id sz i off=>.ptr (ρ id) sz i off
 | .part id sz lo len=>.part (ρ id) sz lo len
 | .omap id=>.omap (ρ id)
 | .itr id=>.itr (ρ id)
 | .cap f fs cs=>.cap f (fs.map fun p=>p.map fun q=>(ρ q.1,q.2)) (cs.map fun p=>p.map fun q=>(ρ q.1,q.2))
 | v=>v
def ren(ρ:Nat->Nat):V->V
 | .st cs=>.st (cs.map (BE ρ))
 | v=>BE ρ v
def lt1(n:Nat):V->Prop
 | .own id=>id<n
 | .ptr id _ _ _=>id<n
 | .part id _ _ _=>id<n
 | .omap id=>id<n
 | .itr id=>id<n
 | .cap _ fs cs=>(∀p∈fs,∀q∈p,q.1<n)/\∀p∈cs,∀q∈p,q.1<n
 | .st _=>False
 | .tup _=>False
 | .new _ _ _=>False
 | .newm _ _ _=>False
 | .gd _ _=>False
 | _=>True
def ltV(n:Nat):V->Prop
 | .st cs=>∀c∈cs,lt1 n c
 | v=>lt1 n v
theorem Uk{ρ:Nat->Nat}{v:V}{u:Value}(h:R M w X n (BE ρ v) u)(hl:lt1 n' v)(hX:∀b,X b->X' b):R (fun i=>M (ρ i)) w X' n' v u:=by
 have hm:∀{v u},R M w X 0 v u->R (fun i=>M (ρ i)) w X' 0 v u:=fun h=>h.mono (g8 _) (fun _ h=>absurd h (by omega)) hX (fun _ _=>rfl);cases v with
 | poi=>exact .poi _ _
 | nilp=>cases h;exact .nilp _
 | yld=>cases h;exact .yld _ _
 | bool b=>cases h;exact .bool _ _
 | int k i=>cases h;exact .int _ _ _
 | str s=>cases h;exact .str _ _
 | st cs=>exact hl.elim
 | sl sz t xs =>
  cases h with
  | sl _ _ _ _ A len c f hlen hc hm' ht hnil hs hA h =>
   exact .sl _ sz t xs A len c f hlen hc hm' ht hnil hs (fun h0=>by obtain⟨ad,e,hx,hcell⟩:=hA h0;exact⟨ad,e,hX _ hx,hcell⟩) fun j u hu=>hm (h j u hu)
 | own id=>cases h with|own _ _ A l c _ hv=>exact .own _ id A l c hl hv
 | ptr id sz i off=>cases h with|ptr _ _ _ _ _ g k _ hg hk=>exact .ptr _ id sz i off g k hl hg hk
 | clo f cs=>cases h with|clo _ _ _ arr hl' h=>exact .clo _ f cs arr hl' fun j u hu=>hm (h j u hu)
 | cap f fs cs =>
  have key:∀(l:List (Option (Nat×Nat)))(arr:Array Value),(∀p∈l,∀q∈p,q.1<n')->(∀j p,(l.map fun p=>p.map fun q:Nat×Nat=>(ρ q.1,q.2))[j]? =some p->CapR M n p (arr.getD j undef)) ->
    ∀j p,l[j]? =some p->CapR (fun i=>M (ρ i)) n' p (arr.getD j undef):=fun l arr hlt h j p hp=>by
   have:=h j _ (by rw[iG,hp];rfl);cases p with
   | none=>exact this
   | some q=>exact⟨hlt _ (g9 hp) q rfl,this.2⟩
  cases h with
  | cap _ _ _ _ fa ca hf hc h1 h2=>exact .cap _ f fs cs fa ca (by simpa using hf) (by simpa using hc) (key fs fa hl.1 h1) (key cs ca hl.2 h2)
 | part id sz lo len=>cases h with|part _ _ _ _ _ g O N cap _ hv hl'=>exact .part _ id sz lo len g O N cap hl hv hl'
 | iptr cs=>cases h with|iptr _ _ ad f hx hc h=>exact .iptr _ cs ad f (hX _ hx) hc fun j u hu=>hm (h j u hu)
 | omap id=>cases h with|omap _ _ g _ hv=>exact .omap _ id g hl hv
 | itr id=>cases h with|itr _ _ g _ hv=>exact .itr _ id g hl hv
 | mp sz xs=>cases h with|mp _ _ _ g es clk hx hg hl' hsz hok hs h1 h=>exact .mp _ sz xs g es clk (hX _ hx) hg hl' hsz hok hs h1 fun j u hu=>hm (h j u hu)
 | newm a b c=>exact hl.elim
 | tup vs=>exact hl.elim
 | new a b c=>exact hl.elim
 | fn f=>cases h;exact .fn _ _
 | gd a b=>exact hl.elim
theorem ren_R[Glo]{ρ:Nat->Nat}{v:V}{u:Value}(h:R M w X n (ren ρ v) u)(hl:ltV n' v)(hX:∀b,X b->X' b):R (fun i=>M (ρ i)) w X' n' v u:=by
 cases v with
 | st cs =>
  simp only[ren]at h;cases h with
  | st _ _ arr hlen h1 hr =>
   exact .st _ _ _ (by simpa using hlen) h1 fun j c hc=>Uk (hr j (BE ρ c) (by simp[hc])) (hl c (g9 hc)) hX
 | _=>exact Uk h hl hX
def leT(ρ:Nat->Nat)(st:St)(nx:Nat)(p:Nat×V):Prop:=p.2=.poi\/(ltV nx p.2/\lkT st.tmp p.1=ren ρ p.2)
def leO(ρ:Nat->Nat)(st:St)(nx:Nat)(p:Nat×Option Ob):Prop :=
 match p with
 | (_,none)=>True
 | (id,some o)=>id<nx/\∃fz,(o.fz=false->fz=false) /\
   (if o.box then(∀x∈o.xs,∀c∈x,lt1 nx c)/\lookO st.ob (ρ id)=some {o with fz:=fz,xs:=o.xs.map (·.map (BE ρ))}else lookO st.ob (ρ id)=some {o with fz:=fz})
structure Le(ρ:Nat->Nat)(st st':St):Prop where
 n:st'.n=st.n
 tmp:∀p∈st'.tmp,leT ρ st st'.nx p
 ob:∀p∈st'.ob,leO ρ st st'.nx p
 inj:∀p∈st'.ob,∀q∈st'.ob,p.1≠q.1->ρ p.1≠ρ q.1
 pin:st'.pn=st.pn/\st.pn<=st'.nx/\∀i,i<st.pn->ρ i=i
theorem OS:∀(l:List (Nat×V))(t:Nat),lkT l t=.poi\/(t,lkT l t)∈l
 | [],t=>.inl rfl
 | (k,v)::r,t=>by
  simp only[lkT];split
  ·rename_i e;subst e;exact .inr (g7 ..)
  exact(OS r t).imp (fun h=>h) (gW _)
theorem FR:∀(l:List (Nat×Option Ob))(t:Nat)(o:Ob),lookO l t=some o->(t,some o)∈l
 | [],t,o,h=>by simp[lookO]at h
 | (k,v)::r,t,o,h=>by
  simp only[lookO]at h;split at h
  ·rename_i e;subst e;subst h;exact g7 ..
  exact gW _ (FR r t o h)
theorem Rel.le[Glo]{ρ:Nat->Nat}{st':St}(h:Rel base Xa w0 st a w)(hle:Le ρ st st'):Rel base Xa w0 st' a w:=by
 obtain⟨M,h⟩:=h;have hobs:∀id o,lookO st'.ob id=some o->id<st'.nx/\∃o',lookO st.ob (ρ id)=some o'/\(o.fz=false->o'.fz=false):=fun id o ho=>by
  have:=hle.ob _ (FR _ _ _ ho);obtain⟨h1,fz,h2,h3⟩:=this;refine⟨h1,?_⟩;split at h3
  ·exact⟨_,h3.2,h2⟩
  exact⟨_,h3,h2⟩
 have hX:∀b,Xf base Xa w M st.ob b->Xf base Xa w (fun i=>M (ρ i)) st'.ob b:=fun b hx=>⟨hx.1,fun id o ho hf=>by
  obtain⟨_,o',h1,h2⟩:=hobs id o ho;exact hx.2 _ o' h1 (h2 hf)⟩
 refine⟨fun i=>M (ρ i),h.below,h.hbase,h.xa,fun m n v u hv=>(h.gh m n v u hv).mono (g8 _) (fun _ _=>rfl) hX (fun _ _=>rfl),⟨⟨by rw[hle.pin.1];exact h.pin.1.1,by rw[hle.pin.1];exact hle.pin.2.1⟩,fun i hi=>by
  rw[hle.pin.1]at hi;simp only[hle.pin.2.2 i hi];exact h.pin.2 i hi⟩,h.defers.mono hX (fun _ _=>rfl),h.size.trans hle.n.symm,fun t=>?_,fun id o ho=>?_,?_⟩
 ·rcases OS st'.tmp t with h'|h'
  ·rw[h'];exact .poi _ _
  rcases hle.tmp _ h' with h2|⟨h2,h3⟩
  ·simp only at h2;rw[h2];exact .poi _ _
  have:=h.tmps t;simp only at h3;rw[h3]at this;exact ren_R this h2 hX
 ·obtain⟨h1,fz,h2,h3⟩:=hle.ob _ (FR _ _ _ ho);refine⟨h1,?_⟩;split at h3
  ·rename_i hb;obtain⟨h3,h4⟩:=h3;obtain⟨_,hok⟩:=h.obs _ _ h4;obtain⟨vals,hrow,hv1,hr⟩:=hok.row;refine⟨hok.pos,hok.off,fun x hx=>?_,vals,by simpa using hrow,hv1,fun j u hu=>?_⟩
   ·have:=hok.len (x.map (BE ρ)) (List.mem_map.2 ⟨x,hx,rfl⟩);simpa using this
   have e:(o.xs.map (·.map (BE ρ))).flatten=o.xs.flatten.map (BE ρ):=by rw[List.map_flatten]
   have:=hr j (BE ρ u) (by simp only[e];rw[iG,hu];rfl);obtain⟨x,hx,hc⟩:=List.mem_flatten.1 (g9 hu);simp only[hb,if_true]at this ⊢;exact Uk this (h3 x hx u hc) hX
  rename_i hb;obtain⟨_,hok⟩:=h.obs _ _ h3;obtain⟨vals,hrow,hv1,hr⟩:=hok.row;refine⟨hok.pos,hok.off,hok.len,vals,hrow,hv1,fun j u hu=>?_⟩;have:=hr j u hu;simp only[hb]at this ⊢;exact this.mono (g8 _) (fun _ h=>absurd h (by simp)) hX (fun _ _=>rfl)
 intro id id' o o' g h1 h2 hne hg;obtain⟨_,p1,q1,_⟩:=hobs id o h1;obtain⟨_,p2,q2,_⟩:=hobs id' o' h2;exact h.dist _ _ _ _ g q1 q2 (hle.inj _ (FR _ _ _ h1) _ (FR _ _ _ h2) hne) hg
theorem awp_le[Glo]{ρ:Nat->Nat}{c:Code}{st':St}(hle:Le ρ st st')(h:awp P c Q st'):awp P c Q st:=fun base Xa w0 a w hR =>
 wp_mono (h base Xa w0 a w (hR.le hle)) fun _ _ _ ⟨s,h1,h2,h3⟩=>⟨s,h1.trans hle.n,h2,h3⟩
theorem PI{c:Code}{QC:Exit->Act->World->Prop}(I:Nat->Act->World->Prop){k0:Nat}(h₀:I k0 a w)
  (round:∀k a w,I k a w->c.wp P (Exit.then (fun a' w'=>∃k',k'<k/\I k' a' w') QC) a w):(Code.loop c).wp P QC a w:=by
 intro b k cs;have key:∀n a w,I n a w->∃e a' w',QC e a' w'/\Arrives P (lone (b.at a (.code c::.inLoop c::k)) cs w) b k cs e a' w':=by
  intro n;induction n using Nat.strongRecOn with
  | _ n ih =>
   intro a w hI;obtain⟨e,a₁,w₁,hq,harr⟩:=round n a w hI b (.inLoop c::k) cs;cases e with
   | normal =>
    obtain⟨k',hlt,hI₁⟩:=hq;obtain⟨e₂,a₂,w₂,hq₂,harr₂⟩:=ih k' hlt a₁ w₁ hI₁;exact⟨e₂,a₂,w₂,hq₂,.of_steps (Steps.trans harr (.one step_inLoop)) harr₂⟩
   | exit id=>exact⟨_,a₁,w₁,hq,.pass (x:=.inLoop c) rfl (fun _ _=>.inl (by simp)) harr⟩
   | goto l=>exact⟨_,a₁,w₁,hq,.pass (x:=.inLoop c) rfl (fun _ _=>.inl (by simp)) harr⟩
   | ret=>exact⟨_,a₁,w₁,hq,.pass (x:=.inLoop c) rfl (fun _ _=>.inl (by simp)) harr⟩
   | panic ch=>exact⟨_,a₁,w₁,hq,.pass (x:=.inLoop c) rfl (fun _ _=>.inl (by simp)) harr⟩
   | outgrown=>exact⟨_,a₁,w₁,hq,.pass (x:=.inLoop c) rfl (fun _ _=>.inl (by simp)) harr⟩
 obtain⟨e,a',w',hq,harr⟩:=key _ a w h₀;exact⟨e,a',w',hq,.of_steps (.one step_loop) harr⟩
theorem WO[Glo]{c:Code}(I:Nat->St->Prop){k0:Nat}{st0:St}{ρ0:Nat->Nat}(hle:Le ρ0 st st0)(h0:I k0 st0)
  (round:∀k s,I k s->s.n=st.n->awp P c (thn (fun s'=>∃k' s'' ρ,k'<k/\Le ρ s' s''/\I k' s'') Q) s):awp P (.loop c) Q st:=fun base Xa w0 a w hR=>by
 refine PI (fun k a w=>∃s,I k s/\s.n=st.n/\Rel base Xa w0 s a w) (k0:=k0) ⟨st0,h0,hle.n,hR.le hle⟩ fun k a w ⟨s,hI,hn,hs⟩=>?_;refine wp_mono (round k s hI hn base Xa w0 a w hs) fun e a' w' ⟨s',h1,h2,h3⟩=>?_;cases e with
 | normal =>
  obtain⟨k',s'',ρ,hlt,hle',hI'⟩:=h2;exact⟨k',hlt,s'',hI',(hle'.n.trans h1).trans hn,h3.le hle'⟩
 | _=>exact⟨s',h1.trans hn,h2,h3⟩
end
end Go.Ab
namespace Go.Ab
open Go.RowKit
section
variable {P:Program} {base:Nat} {Xa:Nat->Prop} {w0:W0} {w w':World} {st:St} {a:Act} {M M':Mp}
theorem UP{e:TypeId}{size:Nat}{v:Value}{n:Nat}{xs:List Value}(h:w.ownsG base e size v n xs){g:Nat}(hg:v.ownB=some g):∃o,w.heap[g]? =some o/\isRow o=true:=by
 rcases h.2 with⟨rfl,_⟩|⟨g',O,cap,cur,rfl,_,⟨fz,hh,_⟩,_⟩|⟨g',es,clk,rfl,_,hh,_⟩|⟨g',s,pos,rfl,_,hh,_⟩
 ·simp[Value.ownB]at hg
 ·simp only[Value.ownB,gQ]at hg;subst hg;exact⟨_,hh,rfl⟩
 ·simp only[Value.ownB,gQ]at hg;subst hg;exact⟨_,hh,rfl⟩
 simp only[Value.ownB,gQ]at hg;subst hg;exact⟨_,hh,rfl⟩
theorem Marks.put{X:Nat->Prop}{ms:List (Nat×Obj)}{r:Nat}{o':Obj}(h:Marks base w X ms)(hr:r∉ms.map (·.1)):Marks base (w.putObj r o') X ms :=
 ⟨h.1,fun p hp=>by
  obtain⟨h1,h2,h3,h4⟩:=h.2 p hp;exact⟨h1,h2,(World.putObj_heap_other (fun e=>hr (List.mem_map.2 ⟨p,hp,e⟩))).trans h3,h4⟩⟩
theorem RelM.reobj[Glo](h:RelM base Xa w0 st a w M){r:Nat}{o o':Obj}(hr:w.heap[r]? =some o)(hb:base<=r)(ho:isRow o=false)(ho':isRow o'=false){ds:List Deferred}{mk:List (Nat×Obj)}
  (hd:Dfr base (w.putObj r o') (Xf base Xa w M st.ob) ds mk) (hk:Glo.wok {w0 with mks:=mk}):RelM base Xa {w0 with mks:=mk} st {a with defers:=ds} (w.putObj r o') M:=by
 have hlt:r<w.heap.size:=(Array.getElem?_eq_some_iff.1 hr).1;have hnew:(w.putObj r o').heap[r]? =some o':=World.putObj_heap_same hlt;have hoth:∀b,b≠r->(w.putObj r o').heap[b]? =w.heap[b]? :=fun b hb=>World.putObj_heap_other hb;have hcell:∀ad,(w.putObj r o').cell? ad=w.cell? ad:=fun ad=>by
  by_cases e:ad.block=r
  ·unfold World.cell?;rw[e,hnew,hr];cases o<;>cases o'<;>simp_all[isRow]
  exact World.cell?_of_block (hoth _ e)
 have hmap:∀(g:Nat)(es:Array MapEntry)(clk:Nat),w.heap[g]? =some (Obj.map es clk)->(w.putObj r o').heap[g]? =some (Obj.map es clk):=fun g es clk hg=>by
  rw[hoth g (fun e=>by subst e;rw[hr]at hg;cases hg;simp[isRow]at ho)];exact hg
 have hX:∀b,Xf base Xa w M st.ob b->Xf base Xa (w.putObj r o') M st.ob b:=fun b hx=>⟨by simpa using hx.1,hx.2⟩
 have hm:∀{m:Mp}{n:Nat}{v:V}{u:Value},R m w (Xf base Xa w M st.ob) n v u->R m (w.putObj r o') (Xf base Xa (w.putObj r o') M st.ob) n v u:=fun hv =>
  hv.mono2 (g8 _) (fun _ _=>rfl) hX (fun ad j _=>hcell _) (fun g es clk _ hg=>hmap g es clk hg)
 refine⟨⟨h.below.os,h.below.tape,h.below.output,by simpa using h.below.size,fun k hk=>(hoth k (by omega)).trans (h.below.block k hk)⟩,by simpa using h.hbase,⟨h.xa.o,hk⟩,fun m n v u hv=>hm (h.gh m n v u hv),h.pin,hd.mono hX (fun _ _=>rfl),h.size,fun t=>hm (h.tmps t),fun id ob hob=>?_,h.dist⟩;obtain⟨hid,hok⟩:=h.obs id ob hob;obtain⟨vals,hrow,h1,hr'⟩:=hok.row;have hv:∀g,(M id).ownB=some g->(w.putObj r o').heap[g]? =w.heap[g]? :=fun g hg=>by
  obtain⟨o1,q1,q2⟩:=UP hrow hg;exact hoth g (fun e=>by subst e;rw[hr]at q1;cases q1;rw[ho]at q2;cases q2)
 refine⟨hid,hok.pos,hok.off,hok.len,vals,⟨hrow.1,?_⟩,h1,fun j u hu=>hm (hr' j u hu)⟩;rcases hrow.2 with h2|⟨g,O,cap,cur,e,hb,hg,rest⟩|hodd
 ·exact .inl h2
 ·exact .inr (.inl ⟨g,O,cap,cur,e,hb,hg.congr (hv g (by rw[e];rfl)),rest⟩)
 exact .inr (.inr (hodd.congr hv fun _ _ h=>h))
theorem GI{f:FuncId}{fn:Func}{c:Code}{args:Array Value}{R:Ending->World->Prop}(hf:P.funcs[f]? =some fn)(hb:fn.body=some c)
  (h:c.wp P (bodyPostM Fence.wide 0 P fn R) {tmps:=args++Array.replicate (fn.ntmps-args.size) undef,defers:=[]} w):Calls P f args w R :=
 callsIn_wide.1 (callsIn_of_wp_marks (F:=Fence.wide) (n:=0) hf hb trivial (wpIn_wide.2 h))
theorem OO[Glo]{fn:Func}{Rr:Ending->World->Prop}:∀(ds:List Deferred)(a:Act)(w:World),a.defers=ds->RelM base Xa w0 st a w M ->
  (∀w'',RelM base Xa w0 st {a with defers:=[]} w'' M->∃v,(results fn a.tmps).run P w''=.ok v w''/\Rr (.returned v) w'')->LeavesInM Fence.wide 0 P fn a.tmps Rr ds .returning w
 | [],a,w,e,hR,h=>by
  have:=h w (by cases a;cases e;exact hR);exact this
 | d::ds,a,w,e,hR,h=>by
  obtain⟨r,rfl⟩:=hR.defers.1 d (by rw[e];simp);have hD:=hR.defers;rw[e]at hD;have hmk:G1 (IH r::ds)=(r,.deferred (some []))::G1 ds:=rfl;obtain⟨hD1,hD2⟩:=hD;rw[hmk]at hD2;obtain⟨hb,hx,hh,hi⟩:=hD2.2 (r,.deferred (some [])) (by simp);have hnd:r∉(G1 ds++w0.mks).map (·.1):=by
   have:=hD2.1;simp only[iT,iI,List.nodup_cons]at this;exact this.1
  refine⟨by simp,.inl ⟨r,w.putObj r (.deferred none),rfl,run_takeDeferred hh,?_⟩⟩;have hR':=hR.reobj (o':=.deferred none) hh hb hi rfl (ds:=ds) (mk:=w0.mks) ⟨fun d hd=>hD1 d (gW _ hd),(hD2.sub (List.sublist_cons_self ..)).put hnd⟩ hR.xa.k;exact OO ds {a with defers:=ds} _ rfl hR' (fun w'' h''=>h w'' h'')
end
end Go.Ab
namespace Go.Ab
open Go.RowKit
def Eu(ob:List (Nat×Option Ob)):V->V
 | .own id=>match lookO ob id with
  | some o=>bif o.box then .poi else bif o.fz then .sl o.sz false o.xs else .new o.ety o.sz o.xs
  | none=>.poi
 | .omap id=>match lookO ob id with
  | some o=>bif o.box then .poi else bif o.fz then .mp o.sz o.xs else .newm o.ety o.sz o.xs
  | none=>.poi
 | v=>DT ob v
def Nl(ob:List (Nat×Option Ob)):V->V
 | .st cs=>.st (cs.map (Eu ob))
 | v=>Eu ob v
def Yr(ob:List (Nat×Option Ob)):V->V
 | .tup vs=>.tup (vs.map (Nl ob))
 | v=>Nl ob v
def Cn(ob:List (Nat×Option Ob)):List V->List Nat
 | []=>[]
 | .own id::r=>(match lookO ob id with|some o=>bif o.box||o.fz then []else [id]|none=>[])++Cn ob r
 | .omap id::r=>(match lookO ob id with|some o=>bif o.box||o.fz then []else [id]|none=>[])++Cn ob r
 | _::r=>Cn ob r
def resV[Glo](P:Program)(st:St):ResultVar->Option (Prop×V)
 | .tmp t=>some (True,lkT st.tmp t)
 | .cell t ty=>pv P st (.load ty (.tmp t))
def Z2[Glo](P:Program)(st:St):List ResultVar->Option (Prop×List V)
 | []=>some (True,[])
 | r::l=>match resV P st r with
  | some (p,v)=>match Z2 P st l with
   | some (q,vs)=>some (p/\q,v::vs)
   | none=>none
  | none=>none
def LY:List V->V
 | [v]=>v
 | vs=>.tup vs
def retQ[Glo](P:Program)(rs:List ResultVar)(r:V):Exit->St->Prop
 | .normal,st|.ret,st=>match Z2 P st rs with
  | some (p,vs)=>p/\(vs.all fun v=>(Ez v).isSome)=true/\(Cn st.ob (vs.flatMap V.cells)).Nodup/\wkR (Yr st.ob (LY vs)) r
  | none=>False
 | _,_=>False
theorem HT(ob:List (Nat×Option Ob))(c:V):(∃id o,lookO ob id=some o/\o.box=false/\o.fz=false/\((c=.own id/\Eu ob c=.new o.ety o.sz o.xs)\/(c=.omap id/\Eu ob c=.newm o.ety o.sz o.xs))) \/
  (Eu ob c=DT ob c/\∀id o,(c=.own id\/c=.omap id)->lookO ob id=some o->o.box=true\/o.fz=true):=by
 cases c with
 | own id =>
  cases h:lookO ob id with
  | none=>exact .inr ⟨by simp[Eu,DT,h],fun id' o e h'=>by rcases e with e|e<;>cases e;rw[h]at h';cases h'⟩
  | some o =>
   cases hb:o.box with
   | true=>exact .inr ⟨by simp[Eu,DT,h,hb],fun id' o' e h'=>by rcases e with e|e<;>cases e;rw[h]at h';cases h';exact .inl hb⟩
   | false =>
    cases hf:o.fz with
    | true=>exact .inr ⟨by simp[Eu,DT,h,hb,hf],fun id' o' e h'=>by rcases e with e|e<;>cases e;rw[h]at h';cases h';exact .inr hf⟩
    | false=>exact .inl ⟨id,o,h,hb,hf,.inl ⟨rfl,by simp[Eu,h,hb,hf]⟩⟩
 | omap id =>
  cases h:lookO ob id with
  | none=>exact .inr ⟨by simp[Eu,DT,h],fun id' o e h'=>by rcases e with e|e<;>cases e;rw[h]at h';cases h'⟩
  | some o =>
   cases hb:o.box with
   | true=>exact .inr ⟨by simp[Eu,DT,h,hb],fun id' o' e h'=>by rcases e with e|e<;>cases e;rw[h]at h';cases h';exact .inl hb⟩
   | false =>
    cases hf:o.fz with
    | true=>exact .inr ⟨by simp[Eu,DT,h,hb,hf],fun id' o' e h'=>by rcases e with e|e<;>cases e;rw[h]at h';cases h';exact .inr hf⟩
    | false=>exact .inl ⟨id,o,h,hb,hf,.inr ⟨rfl,by simp[Eu,h,hb,hf]⟩⟩
 | _=>exact .inr ⟨rfl,fun id o e=>by rcases e with e|e<;>cases e⟩
theorem I8(ob:List (Nat×Option Ob))(c:V):(DT ob c).cells=[DT ob c]/\(∀k,O5 k (DT ob c)=DT ob c)/\(∀e s xs,DT ob c≠.new e s xs/\DT ob c≠.newm e s xs)/\(∀k,K8 k (DT ob c)=DT ob c)/\(DT ob c).fcells=[DT ob c]/\∀k,opn k (DT ob c)=DT ob c:=by
 cases c with
 | own id =>
  simp only[DT];split
  ·rename_i o _;cases o.box<;>exact⟨rfl,fun _=>rfl,(fun _ _ _=>⟨(fun h=>by cases h),(fun h=>by cases h)⟩),fun _=>rfl,rfl,fun _=>rfl⟩
  exact⟨rfl,fun _=>rfl,(fun _ _ _=>⟨(fun h=>by cases h),(fun h=>by cases h)⟩),fun _=>rfl,rfl,fun _=>rfl⟩
 | omap id =>
  simp only[DT];split
  ·rename_i o _;cases o.box<;>exact⟨rfl,fun _=>rfl,(fun _ _ _=>⟨(fun h=>by cases h),(fun h=>by cases h)⟩),fun _=>rfl,rfl,fun _=>rfl⟩
  exact⟨rfl,fun _=>rfl,(fun _ _ _=>⟨(fun h=>by cases h),(fun h=>by cases h)⟩),fun _=>rfl,rfl,fun _=>rfl⟩
 | _=>exact⟨rfl,fun _=>rfl,(fun _ _ _=>⟨(fun h=>by cases h),(fun h=>by cases h)⟩),fun _=>rfl,rfl,fun _=>rfl⟩
theorem G7[Glo](ob:List (Nat×Option Ob))(c:V):(Eu ob c).cells=[Eu ob c]/\(∀k,K8 k (Eu ob c)=O5 k (Eu ob c))/\(Eu ob c).fcells=[Eu ob c]/\∀k,opn k (Eu ob c)=O5 k (Eu ob c):=by
 rcases HT ob c with⟨id,o,_,_,_,⟨_,h⟩|⟨_,h⟩⟩|⟨h,_⟩
 ·rw[h];exact⟨rfl,fun _=>rfl,rfl,fun _=>rfl⟩
 ·rw[h];exact⟨rfl,fun _=>rfl,rfl,fun _=>rfl⟩
 rw[h];obtain⟨h1,h2,h3,h4,h5,h6⟩:=I8 ob c;exact⟨h1,fun k=>(h4 k).trans (h2 k).symm,h5,fun k=>(h6 k).trans (h2 k).symm⟩
theorem W1[Glo](ob:List (Nat×Option Ob))(v:V)(h1:Nl ob v=Eu ob v)(h2:v.cells=[v]):(Nl ob v).cells=v.cells.map (Eu ob):=by
 rw[h1,h2];exact(G7 ob v).1
theorem W2[Glo](ob:List (Nat×Option Ob))(v:V)(h1:Yr ob v=Eu ob v)(h2:v.fcells=[v]):(Yr ob v).fcells=v.fcells.map (Eu ob):=by
 rw[h1,h2];exact(G7 ob v).2.2.1
theorem KP[Glo](ob:List (Nat×Option Ob))(v:V):(Nl ob v).cells=v.cells.map (Eu ob):=by
 cases v with
 | st cs=>rfl
 | _=>exact W1 ob _ rfl rfl
theorem Is[Glo](ob:List (Nat×Option Ob))(r:V):(Yr ob r).fcells=r.fcells.map (Eu ob):=by
 cases r with
 | tup vs =>
  simp only[Yr,V.fcells];induction vs with
  | nil=>rfl
  | cons v vs ih=>simp only[iI,List.flatMap_cons,List.map_append,ih,KP]
 | st cs=>rfl
 | _=>exact W2 ob _ rfl rfl
section
variable {P:Program} {base:Nat} {Xa:Nat->Prop} {w0:W0} {w w':World} {st:St} {a:Act} {M M':Mp} {X X':Nat->Prop} {n n':Nat}
theorem Pj(ob:List (Nat×Option Ob)):∀(cs:List V),(Cn ob cs).Nodup->∀(j j' id:Nat)(o:Ob),(cs[j]? =some (V.own id)\/cs[j]? =some (V.omap id))->(cs[j']? =some (V.own id)\/cs[j']? =some (V.omap id))->lookO ob id=some o->o.box=false->o.fz=false->j=j'
 | [],_,j,j',id,o,h,_,_,_,_=>by simp at h
 | c::r,hn,j,j',id,o,h,h',ho,hb,hf=>by
  have hmem:∀(l:List V)(j:Nat),(l[j]? =some (.own id)\/l[j]? =some (.omap id))->id∈Cn ob l:=by
   intro l;induction l with
   | nil=>intro j h;simp at h
   | cons x l ih =>
    intro j h;cases j with
    | zero =>
     simp only[iS,gQ]at h;rcases h with h|h<;>(subst h;simp[Cn,ho,hb,hf])
    | succ j =>
     have:=ih j (by simpa using h);cases x<;>simp only[Cn]<;>first|exact this|exact List.mem_append_right _ this
  have hr:(Cn ob r).Nodup:=by
   cases c<;>simp only[Cn]at hn<;>first|exact hn|exact(List.nodup_append.1 hn).2.1
  cases j with
  | zero =>
   cases j' with
   | zero=>rfl
   | succ j' =>
    simp only[iS,gQ]at h;have:=hmem r j' (by simpa using h');rcases h with h|h<;>(subst h;simp only[Cn,ho,hb,hf,Bool.or_self,cond_false]at hn;simp at hn;exact absurd this hn.1)
  | succ j =>
   cases j' with
   | zero =>
    simp only[iS,gQ]at h';have:=hmem r j (by simpa using h);rcases h' with h|h<;>(subst h;simp only[Cn,ho,hb,hf,Bool.or_self,cond_false]at hn;simp at hn;exact absurd this hn.1)
   | succ j'=>rw[Pj ob r hr j j' id o (by simpa using h) (by simpa using h') ho hb hf]
def Kg(tmps:Array Value):ResultVar->Sem Value
 | .tmp t=>pure (tmps.getD t undef)
 | .cell b t=>do loadVar t (<- asAddr (tmps.getD b undef))
theorem QP[Glo](hR:RelM base Xa w0 st a w M):∀(l:List ResultVar)(p:Prop)(vs:List V),Z2 P st l=some (p,vs)->p ->
  ∃us:List Value,(l.mapM (Kg a.tmps)).run P w=.ok us w/\us.length=vs.length /\
   ∀(j:Nat)(v:V),vs[j]? =some v->R M w (Xf base Xa w M st.ob) st.nx v (us.getD j undef)
 | [],p,vs,h,_=>by
  simp only[Z2,gQ,Prod.mk.injEq]at h;obtain⟨rfl,rfl⟩:=h;exact⟨[],by simp,rfl,fun j v h=>by simp at h⟩
 | r::l,p,vs,h,hp=>by
  simp only[Z2]at h;split at h
  ·rename_i q v hv;split at h
   ·rename_i q' vs' hvs;simp only[gQ,Prod.mk.injEq]at h;obtain⟨rfl,rfl⟩:=h;obtain⟨us,h1,h2,h3⟩:=QP hR l q' vs' hvs hp.2;have:=Pe;have key:∃u,(Kg a.tmps r).run P w=.ok u w/\R M w (Xf base Xa w M st.ob) st.nx v u:=by
     cases r with
     | tmp t =>
      simp only[resV,gQ,Prod.mk.injEq]at hv;obtain⟨rfl,rfl⟩:=hv;exact⟨_,by simp only[Kg,Sem.run_pure],hR.tmps t⟩
     | cell b t =>
      simp only[resV]at hv;obtain⟨u,hu,hr⟩:=UV hv hp.1 hR.rx;refine⟨u,?_,hr⟩;simp only[Instr.loadAt,Sem.run_bind,Act.eval]at hu;cases hb:a.tmps.getD b undef with
      | pointer ad =>
       rw[hb]at hu;cases ad with
       | none=>simp[Instr.sureAddr,stuck]at hu
       | some ad =>
        simp only[Instr.sureAddr,Sem.run_pure,Result.andThen_ok]at hu;simp only[Kg,Sem.run_bind,hb,asAddr,Sem.run_pure,Result.andThen_ok];exact hu
      | _=>rw[hb]at hu;simp[Instr.sureAddr,stuck]at hu
    obtain⟨u,hu,hru⟩:=key;refine⟨u::us,?_,by simp[h2],fun j v' hj=>?_⟩
    ·rw[List.mapM_cons];simp only[Sem.run_bind,hu,h1,Result.andThen_ok,Sem.run_pure]
    cases j with
    | zero=>simp only[iS,gQ]at hj;subst hj;exact hru
    | succ j=>exact h3 j v' (by simpa using hj)
   simp at h
  simp at h
theorem J6[Glo]{fn:Func}(hR:RelM base Xa w0 st a w M){p:Prop}{vs:List V}(h:Z2 P st fn.results.toList=some (p,vs))(hp:p):
  ∃us:List Value,us.length=vs.length/\(results fn a.tmps).run P w=.ok (if h:us.length=1 then us[0]else .tuple us.toArray) w/\∀(j:Nat)(v:V),vs[j]? =some v->R M w (Xf base Xa w M st.ob) st.nx v (us.getD j undef):=by
 obtain⟨us,h1,h2,h3⟩:=QP (P:=P) hR _ p vs h hp;refine⟨us,h2,?_,h3⟩;have:=Pe;have e:(results fn a.tmps)=(do let vs <- fn.results.mapM (Kg a.tmps);pure (if h:vs.size=1 then vs[0]else .tuple vs)):=by
  unfold results;congr 1
 have e2:(fn.results.mapM (Kg a.tmps)).run P w=.ok us.toArray w:=by
  rw[<- Array.toArray_toList (xs:=fn.results),List.mapM_toArray,map_eq_pure_bind,Sem.run_bind,h1];simp
 rw[e,Sem.run_bind,e2];simp only[Result.andThen_ok,Sem.run_pure];congr 1
theorem Cs.flat[Glo]:∀(vs:List V)(us:List Value),vs.length=us.length->(∀v∈vs,(Ez v).isSome=true)->(∀(j:Nat)(v:V),vs[j]? =some v->R M w X n v (us.getD j undef))->Cs M w X n (vs.flatMap V.cells) (us.flatMap (·.cells.toList))
 | [],[],_,_,_=>Cs.nil
 | v::vs,u::us,hl,hb,hr=>by
  simp only[List.flatMap_cons];refine Cs.app ?_ (Cs.flat vs us (by simpa using hl) (fun v hv=>hb v (gW _ hv)) (fun j v hv=>hr (j+1) v (by simpa using hv)));obtain⟨cs,hcs⟩:=Option.isSome_iff_exists.1 (hb v (g7 ..));have:cs=v.cells:=by cases v<;>simp[Ez]at hcs<;>simp[V.cells,hcs]
  subst this;exact KF hcs (hr 0 v rfl)
 | [],_::_,hl,_,_=>by simp at hl
 | _::_,[],hl,_,_=>by simp at hl
end
end Go.Ab
namespace Go.Ab
open Go.RowKit
section
variable {P:Program} {base:Nat} {Xa:Nat->Prop} {w0:W0} {w w':World} {st:St} {a:Act} {M M':Mp} {X X':Nat->Prop} {n n':Nat}
theorem ZS[Glo]{M':Mp}{N:Nat}:∀(vs:List V)(us:List Value)(n:Nat),vs.length=us.length->(∀(j:Nat)(v:V),vs[j]? =some v->R M w X n' v (us.getD j undef))->(∀v∈vs,(Ez v).isSome=true) ->
  (∀(j:Nat)(c:V),(vs.flatMap V.cells)[j]? =some c->R M' w X' N (O5 (n+j) (Eu st.ob c)) ((us.flatMap (·.cells.toList)).getD j undef)) ->
  ∀(j:Nat)(u:V),(O6 n (vs.map (Nl st.ob)))[j]? =some u->R M' w X' N u (us.getD j undef)
 | [],us,n,hl,hr,hb,H,j,u,hu=>by simp[O6]at hu
 | v::vs,[],n,hl,_,_,_,_,_,_=>by simp at hl
 | v::vs,x::us,n,hl,hr,hb,H,j,u,hu=>by
  have hv:=hr 0 v rfl;simp only[iC]at hv;have hsz:v.cells.length=x.cells.toList.length:=by
   obtain⟨cs,hcs⟩:=Option.isSome_iff_exists.1 (hb v (g7 ..));have:cs=v.cells:=by cases v<;>simp[Ez]at hcs<;>simp[V.cells,hcs]
   subst this;exact(KF hcs hv).len
  simp only[iI,O6]at hu;cases j with
  | zero =>
   simp only[iS,gQ]at hu;subst hu;simp only[iC];cases v with
   | st cs =>
    simp only[Nl,K8];cases hv with
    | st _ _ arr hlen h1 hh =>
     refine .st _ _ _ ?_ h1 fun j c hc=>?_
     ·have:∀(l:List V)(k:Nat),(UM k l).length=l.length:=by
       intro l;induction l with
       | nil=>intro k;rfl
       | cons a l ih=>intro k;simp[UM,ih]
      rw[this];simpa using hlen
     rw[L6,iG]at hc;obtain⟨c1,hc1,rfl⟩:=Option.map_eq_some_iff.1 hc;obtain⟨c2,hc2,rfl⟩:=Option.map_eq_some_iff.1 hc1;have hj:=(List.getElem?_eq_some_iff.1 hc2).1;have:=H j c2 (by simp only[List.flatMap_cons,V.cells];rw[iQ hj];exact hc2);simp only[List.flatMap_cons,Value.cells]at this;rw[gP,iQ (by simp;omega)]at this;simpa[gZ]using this
   | _ =>
    have:=H 0 _ (by simp only[List.flatMap_cons,V.cells];rfl);have hx:x.cells.toList=[x]:=by cases hv<;>first|rfl|simp[Ez]at hb
    simp only[List.flatMap_cons,hx,Nat.add_zero,List.singleton_append,iC]at this;simp only[Nl];rw[(G7 st.ob _).2.1];exact this
  | succ j =>
   simp only[List.getElem?_cons_succ,KP,List.length_map]at hu;have:=ZS (M':=M') (N:=N) vs us (n+v.cells.length) (by simpa using hl) (fun j v hv=>hr (j+1) v (by simpa using hv)) (fun v hv=>hb v (gW _ hv)) (fun j c hc=>by
    have:=H (v.cells.length+j) c (by simp only[List.flatMap_cons];rw[iN (by omega),Nat.add_sub_cancel_left];exact hc);simp only[List.flatMap_cons]at this;rw[gP,iN (by omega),<- gP,show v.cells.length+j-x.cells.toList.length=j by omega,<- Nat.add_assoc]at this;exact this) j u hu
   simpa using this
theorem KG[Glo]{v:V}{u:Value}(h:(Ez v).isSome=true)(hr:R M w X n v u):v.fcells=v.cells/\Jk u=u.cells.toList/\(∀ob,Yr ob v=Nl ob v)/\∀ob k,opn k (Nl ob v)=K8 k (Nl ob v):=by
 have key:∀ob k,opn k (Nl ob v)=K8 k (Nl ob v):=fun ob k=>by
  cases v with
  | st cs=>rfl
  | _=>simp only[Nl];rw[(G7 ob _).2.2.2,(G7 ob _).2.1]
 cases v with
 | poi=>simp[Ez]at h
 | tup vs=>simp[Ez]at h
 | new a b c=>simp[Ez]at h
 | newm a b c=>simp[Ez]at h
 | gd a b=>simp[Ez]at h
 | _=>exact⟨rfl,by cases hr<;>rfl,fun _=>rfl,key⟩
theorem dX[Glo](hR:RelM base Xa w0 st a w M){vs:List V}{us:List Value}(hl:us.length=vs.length)(hr:∀(j:Nat) (v:V),vs[j]? =some v->R M w (Xf base Xa w M st.ob) st.nx v (us.getD j undef))
  (hb:∀v∈vs,(Ez v).isSome=true) (hnd:(Cn st.ob (vs.flatMap V.cells)).Nodup):Res base Xa w (Yr st.ob (LY vs)) (if h:us.length=1 then us[0]else .tuple us.toArray):=by
 have hC:=Cs.flat vs us hl.symm hb hr;have hshape:(LY vs).fcells=vs.flatMap V.cells/\Jk (if h:us.length=1 then us[0]else .tuple us.toArray)=us.flatMap (·.cells.toList):=by
  match vs,us,hl with
  | [],[],_=>exact⟨rfl,rfl⟩
  | [v],[u],_ =>
   obtain⟨h1,h2,_⟩:=KG (hb v (by simp)) (hr 0 v rfl);simp only[iC]at h2;exact⟨by simpa[LY]using h1,by simpa using h2⟩
  | v::v'::vs,u::u'::us,_=>exact⟨rfl,by simp[Jk]⟩
 intro M' n hM';rw[Is,hshape.1,hshape.2,List.length_map]at hM';rw[Is,hshape.1];generalize hCC:vs.flatMap V.cells=C at *;generalize hUU:us.flatMap (·.cells.toList)=U at *;have hnew:∀id o,lookO (BY n (C.map (Eu st.ob))) id=some o->∃j id0 o0,id=n+j/\j<C.length/\(C[j]? =some (.own id0)\/C[j]? =some (.omap id0))/\lookO st.ob id0=some o0/\o0.box=false/\o0.fz=false/\o=⟨o0.ety,o0.sz,false,false,o0.xs⟩/\M' id=M id0:=fun id o ho=>by
  obtain⟨j,e,s,xs,rfl,hj,rfl⟩:=Gn _ _ _ _ ho;rw[iG]at hj;obtain⟨c,hc,hcc⟩:∃c,C[j]? =some c/\(Eu st.ob c=.new e s xs\/Eu st.ob c=.newm e s xs):=by
   rcases hj with hj|hj<;>obtain⟨c,hc,hcc⟩:=Option.map_eq_some_iff.1 hj
   ·exact⟨c,hc,.inl hcc⟩
   exact⟨c,hc,.inr hcc⟩
  have hjl:=(List.getElem?_eq_some_iff.1 hc).1;rcases HT st.ob c with⟨id0,o0,h1,h2,h3,⟨rfl,h4⟩|⟨rfl,h4⟩⟩|⟨h,_⟩
  ·rw[h4]at hcc;rcases hcc with hcc|hcc<;>cases hcc;refine⟨j,id0,o0,rfl,hjl,.inl hc,h1,h2,h3,rfl,?_⟩;rw[hM' j hjl];exact(Ik (hC.rel j _ hc)).2.symm
  ·rw[h4]at hcc;rcases hcc with hcc|hcc<;>cases hcc;refine⟨j,id0,o0,rfl,hjl,.inr hc,h1,h2,h3,rfl,?_⟩;rw[hM' j hjl];have:=hC.rel j _ hc;revert this;generalize U.getD j undef=u;intro this;cases this with
   | omap _ _ g _ hv=>exact hv.symm
  rw[h]at hcc;rcases hcc with hcc|hcc
  ·exact absurd hcc ((I8 st.ob c).2.2.1 e s xs).1
  exact absurd hcc ((I8 st.ob c).2.2.1 e s xs).2
 have hX:∀b,Xf base Xa w M st.ob b->Xf base Xa w M' (BY n (C.map (Eu st.ob))) b:=fun b hx=>⟨hx.1,fun id o ho _=>by
  obtain⟨j,id0,o0,_,_,_,h1,_,h3,_,h5⟩:=hnew id o ho;rw[h5];exact hx.2 id0 o0 h1 h3⟩
 have hcell:∀(j:Nat)(c:V),C[j]? =some c->R M' w (Xf base Xa w M' (BY n (C.map (Eu st.ob)))) (n+(C.map (Eu st.ob)).length) (O5 (n+j) (Eu st.ob c)) (U.getD j undef):=fun j c hc=>by
  have hjl:=(List.getElem?_eq_some_iff.1 hc).1;have hrc:=hC.rel j c hc;rcases HT st.ob c with⟨id0,o0,h1,h2,h3,⟨rfl,h4⟩|⟨rfl,h4⟩⟩|⟨h,h'⟩
  rotate_left
  ·rw[h4];have hm:=hM' j hjl;simp only[O5];have:∀{u},R M w (Xf base Xa w M st.ob) st.nx (.omap id0) u->∃g,u=.map (some g):=fun h=>by cases h;exact⟨_,rfl⟩
   obtain⟨g,e⟩:=this hrc;rw[e]at hm ⊢;exact .omap _ _ _ (by rw[List.length_map];omega) hm
  rotate_left
  ·rw[h4];have hm:=hM' j hjl;simp only[O5];have:∀{u},R M w (Xf base Xa w M st.ob) st.nx (.own id0) u->∃A l c,u=.slice A l c:=fun h=>by cases h;exact⟨_,_,_,rfl⟩
   obtain⟨A,l,c,e⟩:=this hrc;rw[e]at hm ⊢;exact .own _ _ _ _ _ (by rw[List.length_map];omega) hm
  rw[h,(I8 st.ob c).2.1];refine R.up (NI (base:=base) hrc (fun id o ho=>(hR.obs id o ho).2) hX fun id o g e ho hg=>?_);obtain⟨vals,hrow,_⟩:=(hR.obs id o ho).2.row;refine⟨.inr (hrow.lt g hg),fun id' o' ho' _=>?_⟩;obtain⟨j',id0,o0,_,_,_,q1,q2,q3,_,q5⟩:=hnew id' o' ho';rw[q5];refine hR.dist id id0 o o0 g ho q1 (fun e'=>?_) hg;subst e';rw[ho]at q1;simp only[gQ]at q1;subst q1;rcases h' id o e ho with h''|h''
  ·rw[h'']at q2;cases q2
  rw[h'']at q3;cases q3
 have hT:=ZS (st:=st) (M':=M') (N:=n+(C.map (Eu st.ob)).length) (X':=Xf base Xa w M' (BY n (C.map (Eu st.ob)))) vs us n hl.symm hr hb (by rw[hCC,hUU];exact hcell);refine⟨?_,fun id o ho=>?_,?_⟩
 ·match vs,us,hl,hT,hr,hb with
  | [v],[u],_,hT,hr,hb =>
   obtain⟨_,_,h3,h4⟩:=KG (hb v (by simp)) (hr 0 v rfl);have:=hT 0 (K8 n (Nl st.ob v)) rfl;simp only[LY,h3,h4];simpa using this
  | [],[],_,hT,_,_=>exact .tup _ _ _ rfl (fun j u hu=>by simp[O6]at hu)
  | v::v'::vs,u::u'::us,hl,hT,_,_ =>
   refine .tup _ _ _ ?_ fun j x hx=>?_
   ·have:∀(l:List V)(k:Nat),(O6 k l).length=l.length:=by
     intro l;induction l with
     | nil=>intro k;rfl
     | cons a l ih=>intro k;simp[O6,ih]
    rw[this];simp at hl ⊢;omega
   have:=hT j x hx;simpa[gZ,gP]using this
 ·obtain⟨j,id0,o0,rfl,hjl,hc,h1,h2,h3,rfl,h5⟩:=hnew id o ho;obtain⟨_,hok⟩:=hR.obs id0 o0 h1;obtain⟨vals,hrow,hv1,hvr⟩:=hok.row;rw[h5];refine⟨fun _=>hok.pos h2,fun h=>hok.off (h.imp (fun h=>by first|exact h|(simp[h2]at h)) id),hok.len,vals,hrow,hv1,fun j u hu=>?_⟩;have:=hvr j u hu;simp only[h2,iR,if_false]at this ⊢;exact this.mono (g8 _) (fun _ h=>absurd h (by omega)) hX (fun _ _=>rfl)
 intro id id' o o' g h1 h2 hne hg;obtain⟨j,id0,o0,rfl,_,hc,q1,q2,q3,_,q5⟩:=hnew id o h1;obtain⟨j',id0',o0',rfl,_,hc',q1',q2',q3',_,q5'⟩:=hnew id' o' h2;rw[q5]at hg;rw[q5'];refine hR.dist id0 id0' o0 o0' g q1 q1' (fun e=>?_) hg;subst e;exact hne (by rw[Pj st.ob C hnd j j' id0 o0 hc hc' q1 q2 q3])
def Vn:Nat->List V->List (Nat×V)
 | _,[]=>[]
 | n,v::r=>(n,v)::Vn (n+1) r
theorem LR:∀(vs:List V)(n t:Nat),lkT (Vn n vs) t=if n<=t/\t<n+vs.length then vs.getD (t-n) .poi else .poi
 | [],n,t=>by simp[Vn,lkT]
 | v::r,n,t=>by
  simp only[Vn,lkT,iO];split
  ·rename_i e;subst e;rw[nH,Nat.sub_self];rfl
  rename_i e;rw[LR r];by_cases h:n+1<=t/\t<n+1+r.length
  ·rw[if_pos h,nH,show t-n=(t-(n+1))+1 by omega];rfl
  rw[if_neg h,nG]
def St.start(ntmps:Nat)(args:List V):St:=⟨ntmps,Vn 0 args,0,[],0⟩
theorem AC.of[Glo][Tot]{f:FuncId}{fn:Func}{c:Code}{args:List V}{r:V}(hf:P.funcs[f]? =some fn)(hb:fn.body=some c)(hname:(fn.name== "runtime.NumGoroutine")=false)(hble:Nat.ble args.length fn.ntmps=true)
  (h:awp P c (retQ P fn.results.toList r) (St.start fn.ntmps args)):AC P f args r:=by
 have hlen:args.length<=fn.ntmps:=Nat.le_of_ble_eq_true hble;refine⟨by simp[D7,hf,hb,hname],fun w Xa vals M hXa hsz hargs=>GI hf hb ?_⟩;have hR:Rel w.heap.size Xa (W0.of w) (St.start fn.ntmps args) {tmps:=vals++Array.replicate (fn.ntmps-vals.size) undef,defers:=[]} w:=by
  refine⟨M,Below.refl _ _,g8 _,⟨hXa,Tot.t _⟩,(fun _ _ _ _ h=>h.elim),⟨⟨Nat.le_of_eq Tot.p,g8 _⟩,fun i hi=>absurd hi (Nat.not_lt_zero _)⟩,Dfr.nil _ _ _,by simp[St.start];omega,fun t=>?_,fun id o ho=>by simp[St.start,lookO]at ho,fun id id' o o' g ho=>by simp[St.start,lookO]at ho⟩;simp only[St.start,LR,Nat.zero_le,true_and,i6,Nat.sub_zero];split
  ·rename_i ht;have hv:args[t]? =some (args.getD t .poi):=by rw[gP,gR ht];rfl
   have:=hargs t _ hv;have e:(vals++Array.replicate (fn.ntmps-vals.size) undef).getD t undef=vals.getD t undef:=by
    simp only[gZ];rw[Array.getElem?_append_left (by omega)]
   rw[e];exact this.mono (g8 _) (fun _ h=>absurd h (by omega)) (fun b hx=>⟨.inl hx,fun id o ho=>by simp[lookO]at ho⟩) (fun _ _=>rfl)
  exact .poi _ _
 refine wp_mono (h _ _ _ _ _ hR) fun e a' w' ⟨st',_,hq,M',hR'⟩=>?_;have fin:retQ P fn.results.toList r .ret st'->LeavesInM Fence.wide 0 P fn a'.tmps (fun e w'=>∃val,e=.returned val/\Below w.heap.size w w'/\Res w.heap.size Xa w' r val) a'.defers .returning w':=fun hq=>by
  refine OO _ a' w' rfl hR' fun w' hR'=>?_;simp only[retQ]at hq;split at hq
  ·rename_i p vs hret;obtain⟨hp,hbx,hnd,hwk⟩:=hq;obtain⟨us,hl,hrun,hr⟩:=J6 (P:=P) (fn:=fn) hR' hret hp;exact⟨_,hrun,_,rfl,hR'.below,(dX hR' hl hr (fun v hv=>List.all_eq_true.1 hbx v hv) hnd).wk hwk⟩
  exact hq.elim
 cases e with
 | normal=>exact fin hq
 | ret=>exact fin hq
 | _=>exact hq.elim
end
section
variable {P:Program}
def St.startI(ntmps:Nat)(args:List V)(nx:Nat)(ob:List (Nat×Option Ob)):St:=⟨ntmps,Vn 0 args,nx,ob,nx⟩
def retI[Glo](P:Program)(rs:List ResultVar)(pn:Nat)(Post:V->Nat->List (Nat×Option Ob)->Prop):Exit->St->Prop
 | .normal,st|.ret,st=>match Z2 P st rs with
  | some (p,vs)=>p/\st.pn=pn/\Post (LY vs) st.nx st.ob
  | none=>False
 | _,_=>False
theorem Bt.of[Glo]{f:FuncId}{fn:Func}{c:Code}{args:List V}{nx:Nat}{ob:List (Nat×Option Ob)}{Post:V->Nat->List (Nat×Option Ob)->Prop}(hf:P.funcs[f]? =some fn)(hb:fn.body=some c)
  (hname:(fn.name== "runtime.NumGoroutine")=false) (hble:Nat.ble args.length fn.ntmps=true) (h:awp P c (retI P fn.results.toList nx Post) (St.startI fn.ntmps args nx ob)):Bt P f args nx ob Post:=by
 have hlen:args.length<=fn.ntmps:=Nat.le_of_ble_eq_true hble;refine⟨by simp[D7,hf,hb,hname],fun base Xa w0 w M vals h0 hsz hargs=>GI hf hb ?_⟩;have hR:Rel base Xa w0 (St.startI fn.ntmps args nx ob) {tmps:=vals++Array.replicate (fn.ntmps-vals.size) undef,defers:=[]} w:=by
  refine⟨M,h0.below,h0.hbase,h0.xa,h0.gh,h0.pin,h0.defers,by simp[St.startI];omega,fun t=>?_,h0.obs,h0.dist⟩;simp only[St.startI,LR,Nat.zero_le,true_and,i6,Nat.sub_zero];split
  ·rename_i ht;have hv:args[t]? =some (args.getD t .poi):=by rw[gP,gR ht];rfl
   have:=hargs t _ hv;have e:(vals++Array.replicate (fn.ntmps-vals.size) undef).getD t undef=vals.getD t undef:=by
    simp only[gZ];rw[Array.getElem?_append_left (by omega)]
   rw[e];exact this
  exact .poi _ _
 refine wp_mono (h _ _ _ _ _ hR) fun e a' w' ⟨st',_,hq,M',hR'⟩=>?_;have fin:retI P fn.results.toList nx Post .ret st'->LeavesInM Fence.wide 0 P fn a'.tmps (fun e w'=>∃val r nx' ob' M',e=.returned val/\Post r nx' ob'/\RelM base Xa w0 ⟨0,[],nx',ob',nx⟩ ⟨#[],[]⟩ w' M'/\R M' w' (Xf base Xa w' M' ob') nx' r val) a'.defers .returning w':=fun hq=>by
  refine OO _ a' w' rfl hR' fun w' hR'=>?_;simp only[retI]at hq;split at hq
  ·rename_i p vs hret;obtain⟨hp,hpn,hpost⟩:=hq;obtain⟨us,hl,hrun,hr⟩:=J6 (P:=P) (fn:=fn) hR' hret hp;refine⟨_,hrun,_,LY vs,st'.nx,st'.ob,M',rfl,hpost,⟨hR'.below,hR'.hbase,hR'.xa,hR'.gh,by rw[<- hpn];exact hR'.pin,hR'.defers,rfl,fun t=>by simp only[lkT];exact .poi _ _,hR'.obs,hR'.dist⟩,?_⟩
   match vs,us,hl,hr with
   | [v],[u],_,hr=>simpa[LY]using hr 0 v rfl
   | [],[],_,_=>exact .tup _ _ _ rfl (fun j u hu=>by simp at hu)
   | v::v'::vs,u::u'::us,hl,hr =>
    refine .tup _ _ _ (by simp at hl ⊢;omega) fun j x hx=>?_;have:=hr j x hx;simpa[gZ,gP]using this
  exact hq.elim
 cases e with
 | normal=>exact fin hq
 | ret=>exact fin hq
 | _=>exact hq.elim
end
theorem J1[Glo]{P:Program}{t len k:Nat}{ag:Bool}(h:arE P t=some (len,k,ag))(i:Nat):plE P t i=some (i*k,k):=by
 obtain⟨e,hu,ht⟩:=G2 h;obtain⟨inf,hi,hs⟩:=Hh ht;simp[plE,hu,hi,hs]
end Go.Ab
namespace Go.Ab
open Go.RowKit
section
variable {P:Program} {ops:Array Oper} {Q:Exit->Act->World->Prop}
theorem Tc(m:Region.Mode):∀(fuel t:Nat)(listed:Array Bool)(acc:List Nat),Region.linearise.go m ops fuel t listed acc=acc.reverse++Region.linearise.go m ops fuel t listed []
 | 0,t,listed,acc=>by simp[Region.linearise.go]
 | fuel+1,t,listed,acc=>by
  rw[Region.linearise.go,Region.linearise.go];split
  ·rename_i i _;rw[Tc m fuel _ _ (i::acc),Tc m fuel _ _ [i]];simp
  simp
theorem MV{α:Type}(p q:α->Bool):∀(l:List α),(∀x∈l,q x=true->p x=true)->∀i∈l,p i=true->q i=false->l.countP q<l.countP p
 | [],_,i,h,_,_=>by simp at h
 | x::l,hpq,i,hi,hp,hq=>by
  have hle:∀l:List α,(∀x∈l,q x=true->p x=true)->l.countP q<=l.countP p:=fun l h=>List.countP_mono_left h;have h1:=hle l (fun y hy=>hpq y (gW _ hy));rcases List.mem_cons.1 hi with rfl|hi
  ·simp only[List.countP_cons,hp,hq];simp;omega
  have:=MV p q l (fun y hy=>hpq y (gW _ hy)) i hi hp hq;simp only[List.countP_cons];cases hqx:q x with
  | false=>simp;split<;>omega
  | true=>simp[hpq x (g7 ..) hqx];omega
end
end Go.Ab
namespace Go.Ab
open Go.RowKit
structure HI where
 dst:Option Tmp
 eff:Bool
 v:V
 ob:List (Nat×Option Ob)
 nx:Nat
 deriving Inhabited
def eT(L:Nat->Bool):Nat->List HI->List (Nat×V)
 | _,[]=>[]
 | i,x::r=>(match x.dst with|some d=>[(d,bif L i then x.v else .poi)]|none=>[])++eT L (i+1) r
def eO(L:Nat->Bool):Nat->List HI->List (Nat×Option Ob)×Nat->List (Nat×Option Ob)×Nat
 | _,[],b=>b
 | i,x::r,b=>eO L (i+1) r (bif x.eff&&L i then(x.ob,x.nx)else b)
def stS(st0:St)(L:Nat->Bool)(l:List HI):St:=⟨st0.n,eT L 0 l++st0.tmp,(eO L 0 l (st0.ob,st0.nx)).2,(eO L 0 l (st0.ob,st0.nx)).1,st0.pn⟩
def Mt:V->Bool
 | .poi=>true
 | _=>false
def isEff:Op->Bool
 | .alloc _=>true
 | .box _ _=>true
 | .store _ _ _=>true
 | .buildSlice _ _ _=>true
 | .call c=>match c.callee with|.value _=>true|.builtin .append=>true|_=>false
 | _=>false
def Cd(nf:Nat)(args:List V)(K:V->List (Nat×Option Ob)->Nat->Prop)(s:St)(r:V):Prop :=
 match nf with
 | _+1=>noX r/\K (opn s.nx r) (BY s.nx r.fcells++s.ob) (s.nx+r.fcells.length)
 | 0=>K (opn s.nx r) (BY s.nx r.fcells++fzs (args.flatMap fun v:V=>BJ v.cells) s.ob) (s.nx+r.fcells.length)
def Zz(P:Program)(t:TypeId)(s x:V)(st:St)(K:V->List (Nat×Option Ob)->Nat->Prop):Prop :=
 match slE P t with
 | some (e,sz,by_)=>match YR st sz x with
  | some (p,ys)=>p/\(match s with
   | .own id=>match lookO st.ob id with
    | some o=>o.box=false/\o.fz=false/\o.ety=e/\o.sz=sz/\UI x id/\(o.xs.length+ys.length)*by_<=140737488355328/\o.xs.length+ys.length<=maxLen /\
     K (.own st.nx) ((st.nx,some ⟨e,sz,false,false,o.xs++ys⟩)::(id,none)::st.ob) (st.nx+1)
    | none=>False
   | .sl sz' tt xs=>(sz'=0\/(sz'=sz/\tt=true/\ys≠[]))/\(xs.length+ys.length)*by_<=140737488355328/\xs.length+ys.length<=maxLen /\
     K (.own st.nx) ((st.nx,some ⟨e,sz,false,false,xs++ys⟩)::st.ob) (st.nx+1)
   | .part id sq lo k=>match lookO st.ob id with
    | some o=>o.box=false/\o.fz=false/\o.ety=e/\o.sz=sz/\sq=sz/\lo=0/\k+ys.length<=o.xs.length /\
     K (.part id sz 0 (k+ys.length)) ((id,some {o with xs:=spl o.xs k ys})::st.ob) st.nx
    | none=>False
   | _=>False)
  | none=>False
 | none=>False
def LD[Glo](P:Program)(o:Oper)(s:St)(K:V->List (Nat×Option Ob)->Nat->Prop):Prop :=
 match o.op with
 | .alloc t=>match zeroE P t with
  | some cs=>K (.ptr s.nx cs.length 0 0) ((s.nx,some ⟨t,cs.length,true,false,[cs]⟩)::s.ob) (s.nx+1)
  | none=>False
 | .box t x=>match Ez (ev s x)with
  | some cs=>K (.ptr s.nx cs.length 0 0) ((s.nx,some ⟨t,cs.length,true,false,[cs]⟩)::s.ob) (s.nx+1)
  | none=>False
 | .store t x y=>match tyE P t,ev s x,Ez (ev s y)with
  | some (m,_),.ptr id sz i off,some ds=>match lookO s.ob id with
   | some b=>b.fz=false/\sz=b.sz/\i<b.xs.length/\off+m<=sz/\ds.length=m /\
     (if b.box=true then K .poi ((id,some {b with xs:=b.xs.set i (spl (b.xs.getD i []) off ds)})::s.ob) s.nx
      else id∉BJ ds/\K .poi ((id,some {b with xs:=b.xs.set i (spl (b.xs.getD i []) off (ds.map (DT s.ob)))})::fzs (BJ ds) s.ob) s.nx)
   | none=>False
  | _,_,_=>False
 | .buildSlice t len parts=>match slE P t with
  | some (e,sz,_)=>match zeroE P e with
   | some zs=>match EO s (fun i=>some (i*sz,sz)) (List.replicate len zs).flatten parts.toList with
    | some cs=>len*sz<=16777216/\K (.own s.nx) ((s.nx,some ⟨e,sz,false,false,HS sz len (cs.map (DT s.ob))⟩)::fzs (BJ cs) s.ob) (s.nx+1)
    | none=>False
   | none=>False
  | none=>False
 | .call c=>match c.callee with
  | .value f=>match ev s f with
   | .fn f=>(c.args.toList.all fun x=>!Mt (ev s x))=true/\ND (c.args.toList.map (ev s))/\∃nf r,AC P f (((c.args.toList.map (ev s)).map unG).map (pur s.ob)) r/\Cd nf ((c.args.toList.map (ev s)).map unG) K s r
   | _=>False
  | .builtin .append=>match c.args.toList,c.argTypes.toList with
   | [x,y],[t,t']=>t=t'/\Zz P t (ev s x) (ev s y) s K
   | _,_=>False
  | _=>False
 | _=>False
def uniE[Glo](P:Program)(o:Oper)(b want:Bool)(s:St)(r:V)(K:V->List (Nat×Option Ob)->Nat->Prop):Prop :=
 match o.op with
 | .call c=>match c.callee with
  | .value f=>match ev s f with
   | .fn f=>(c.args.toList.all fun x=>!Mt (ev s x))=true/\(b=want->ND (c.args.toList.map (ev s))/\AC P f (((c.args.toList.map (ev s)).map unG).map (pur s.ob)) r)/\BY s.nx r.fcells=[] /\
     K (.gd (b==want) (opn s.nx r)) (fzs (((c.args.toList.map (ev s)).map unG).flatMap fun v:V=>BJ v.cells) s.ob) (s.nx+r.fcells.length)
   | _=>False
  | _=>False
 | _=>False
def FM[Glo](P:Program)(o:Oper)(b want:Bool)(s:St)(K:V->List (Nat×Option Ob)->Nat->Prop):Prop :=
 ((b=want->LD P o s K)/\(b=!want->K .poi s.ob s.nx))\/∃r,uniE P o b want s r K
def hpv[Glo](P:Program)(s:St)(op:Op):Option (Prop×V) :=
 match op with
 | .build t parts=>match zeroE P t with
  | some zs=>match EO s (plE P t) zs parts.toList with
   | some cs=>some (Be P t=true,.st cs)
   | none=>none
  | none=>none
 | .slice t x lo hi mx=>match ev s x with
  | .own id=>match lookO s.ob id,slE P t,Bn s lo,Bn s hi,Bn s mx with
   | some b,some (_,sz,_),some l,some h,some none=>some (b.box=false/\sz=b.sz/\b.xs≠[]/\0<=l.getD 0/\l.getD 0<=h.getD b.xs.length/\h.getD b.xs.length<=b.xs.length,
     .part id sz (l.getD 0).toNat ((h.getD b.xs.length).toNat-(l.getD 0).toNat))
   | _,_,_,_,_=>none
  | _=>pv P s (.slice t x lo hi mx)
 | .lookup t m k ok=>match mpE P t,ev s k,ev s m with
  | some (sz,ag,z),.str q,.omap id=>match lookO s.ob id with
   | some b=>some (b.sz=sz/\mkeys b.xs,lkV ag ok z (mget q b.xs))
   | none=>none
  | _,_,_=>none
 | op=>pv P s op
def hstep[Glo](P:Program)(ops:List (Option Tmp))(o:Oper)(s:St)(K:Bool->V->List (Nat×Option Ob)->Nat->Prop):Prop :=
 match o.guard with
 | none=>match hpv P s o.op with
  | some (p,v)=>p/\K false v [] 0
  | none=>LD P o s (K true)
 | some (j,want)=>match(ops[j]?).join with
  | some d=>match gdV (lkT s.tmp d) want with
   | some (b,want)=>match hpv P (IX s (Gf o.op)) o.op with
    | some (p,v)=>(b=want->p/\Gp s (Gf o.op))/\K false (.gd (b==want) v) [] 0
    | none=>isEff o.op=true/\FM P o b want s (K true)
   | none=>False
  | none=>False
def ph(o:Oper):HI:=⟨o.dst,false,.poi,[],0⟩
def addH(F:List HI->Prop)(done:List HI)(dst:Option Tmp)(eff:Bool)(v:V)(ob:List (Nat×Option Ob))(nx:Nat):Prop:=F (done++[⟨dst,eff,v,ob,nx⟩])
def Gc[Glo](P:Program)(ops:List (Option Tmp))(prs:List (List Nat))(st0:St)(K:List HI->Prop):List Oper->List HI->Prop
 | [],done=>K done
 | o::r,done=>hstep P ops o (stS st0 (fun j=>(prs.getD done.length []).contains j) (done++(o::r).map ph)) (addH (Gc P ops prs st0 K r) done o.dst)
def J2[Glo](P:Program)(ops:List (Option Tmp))(prs:List (List Nat))(st0:St)(seg:List Oper)(done:List HI):List (Nat×Nat)->Prop
 | []=>True
 | (i,j)::r=>(match seg[i]?,done[i]?,done[j]? with
   | some o,some x,some y=>hstep P ops o ⟨st0.n,eT (fun k=>(prs.getD i []).contains k) 0 done++st0.tmp,y.nx,y.ob,st0.pn⟩ (fun eff v _ _=>eff=false/\v=x.v)
   | _,_,_=>False)/\J2 P ops prs st0 seg done r
theorem LE[Glo]{P:Program}{o:Oper}{s:St}{K:V->List (Nat×Option Ob)->Nat->Prop}(h:LD P o s K):∃v ob nx,K v ob nx/\LD P o s (fun v' ob' nx'=>v'=v/\ob'=ob/\nx'=nx):=by
 unfold LD at h ⊢;split at h
 ·split at h
  ·exact⟨_,_,_,h,rfl,rfl,rfl⟩
  exact h.elim
 ·split at h
  ·exact⟨_,_,_,h,rfl,rfl,rfl⟩
  exact h.elim
 ·split at h
  ·split at h
   ·rename_i b hb;obtain⟨h1,h2,h3,h4,h5,h6⟩:=h;cases hbx:b.box with
    | true=>rw[if_pos hbx]at h6;exact⟨_,_,_,h6,h1,h2,h3,h4,h5,(by simp[hbx])⟩
    | false=>rw[if_neg (by simp[hbx])]at h6;exact⟨_,_,_,h6.2,h1,h2,h3,h4,h5,(by simp[hbx,h6.1])⟩
   exact h.elim
  exact h.elim
 ·split at h
  ·split at h
   ·split at h
    ·exact⟨_,_,_,h.2,h.1,rfl,rfl,rfl⟩
    exact h.elim
   exact h.elim
  exact h.elim
 ·split at h
  ·split at h
   ·obtain⟨hp,hg,nf,r,hm,h⟩:=h;cases nf with
    | succ k=>exact⟨_,_,_,h.2,hp,hg,k+1,r,hm,And.intro h.1 ⟨rfl,rfl,rfl⟩⟩
    | zero=>exact⟨_,_,_,h,hp,hg,0,r,hm,And.intro rfl ⟨rfl,rfl⟩⟩
   exact h.elim
  ·split at h
   ·obtain⟨ht,h⟩:=h;unfold Zz at h ⊢;split at h
    ·split at h
     ·obtain⟨hp,h⟩:=h;split at h
      ·split at h
       ·obtain⟨h1,h2,h3,h4,h5,h6,h7,h8⟩:=h;exact⟨_,_,_,h8,ht,hp,h1,h2,h3,h4,h5,h6,h7,rfl,rfl,rfl⟩
       exact h.elim
      ·obtain⟨h1,h2,h3,h4⟩:=h;exact⟨_,_,_,h4,ht,hp,h1,h2,h3,rfl,rfl,rfl⟩
      ·split at h
       ·obtain⟨h1,h2,h3,h4,h5,h6,h7,h8⟩:=h;exact⟨_,_,_,h8,ht,hp,h1,h2,h3,h4,h5,h6,h7,rfl,rfl,rfl⟩
       exact h.elim
      exact h.elim
     exact h.elim
    exact h.elim
   exact h.elim
  exact h.elim
 exact h.elim
theorem FD[Glo]{P:Program}{o:Oper}{s:St}{K K':V->List (Nat×Option Ob)->Nat->Prop}(h:LD P o s K)(hK:∀v ob nx,K v ob nx->K' v ob nx):LD P o s K':=by
 unfold LD at h ⊢;split at h
 ·split at h
  ·exact hK _ _ _ h
  exact h
 ·split at h
  ·exact hK _ _ _ h
  exact h
 ·split at h
  ·split at h
   ·rename_i b hb;obtain⟨h1,h2,h3,h4,h5,h6⟩:=h;refine⟨h1,h2,h3,h4,h5,?_⟩;by_cases hbx:b.box=true
    ·rw[if_pos hbx]at h6 ⊢;exact hK _ _ _ h6
    rw[if_neg hbx]at h6 ⊢;exact⟨h6.1,hK _ _ _ h6.2⟩
   exact h
  exact h
 ·split at h
  ·split at h
   ·split at h
    ·exact⟨h.1,hK _ _ _ h.2⟩
    exact h
   exact h
  exact h
 ·split at h
  ·split at h
   ·obtain⟨hp,hg,nf,r,hm,h⟩:=h;cases nf with
    | succ k=>exact⟨hp,hg,k+1,r,hm,And.intro h.1 (hK _ _ _ h.2)⟩
    | zero=>exact⟨hp,hg,0,r,hm,hK _ _ _ h⟩
   exact h
  ·split at h
   ·obtain⟨ht,h⟩:=h;refine⟨ht,?_⟩;unfold Zz at h ⊢;split at h
    ·split at h
     ·obtain⟨hp,h⟩:=h;refine⟨hp,?_⟩;split at h
      ·split at h
       ·obtain⟨h1,h2,h3,h4,h5,h6,h7,h8⟩:=h;exact⟨h1,h2,h3,h4,h5,h6,h7,hK _ _ _ h8⟩
       exact h
      ·obtain⟨h1,h2,h3,h4⟩:=h;exact⟨h1,h2,h3,hK _ _ _ h4⟩
      ·split at h
       ·obtain⟨h1,h2,h3,h4,h5,h6,h7,h8⟩:=h;exact⟨h1,h2,h3,h4,h5,h6,h7,hK _ _ _ h8⟩
       exact h
      exact h
     exact h
    exact h
   exact h
  exact h
 exact h
theorem JI[Glo]{P:Program}{o:Oper}{b want:Bool}{s:St}{K:V->List (Nat×Option Ob)->Nat->Prop}(h:FM P o b want s K):∃v ob nx,K v ob nx/\FM P o b want s (fun v' ob' nx'=>v'=v/\ob'=ob/\nx'=nx):=by
 rcases h with h|⟨r,h⟩
 ·by_cases hbw:b=want
  ·obtain⟨v,ob,nx,hk,he⟩:=LE (h.1 hbw);refine⟨v,ob,nx,hk,.inl ⟨fun _=>he,fun h'=>?_⟩⟩;subst hbw;cases b<;>simp at h'
  have hb':b=!want:=by cases b<;>cases want<;>simp_all
  exact⟨_,_,_,h.2 hb',.inl ⟨fun h'=>absurd h' hbw,fun _=>⟨rfl,rfl,rfl⟩⟩⟩
 unfold uniE at h;split at h
 ·rename_i c ho;split at h
  ·rename_i f hf;split at h
   ·rename_i fid hfid;obtain⟨h1,h2,h3,h4⟩:=h;refine⟨_,_,_,h4,.inr ⟨r,?_⟩⟩;simp only[uniE,ho,hf,hfid];exact⟨h1,h2,h3,trivial,trivial,trivial⟩
   exact h.elim
  exact h.elim
 exact h.elim
theorem GU[Glo]{P:Program}{o:Oper}{b want:Bool}{s:St}{K K':V->List (Nat×Option Ob)->Nat->Prop}(h:FM P o b want s K)(hK:∀v ob nx,K v ob nx->K' v ob nx):FM P o b want s K':=by
 rcases h with h|⟨r,h⟩
 ·exact .inl ⟨fun e=>FD (h.1 e) hK,fun e=>hK _ _ _ (h.2 e)⟩
 refine .inr ⟨r,?_⟩;unfold uniE at h ⊢;split at h
 ·split at h
  ·split at h
   ·exact⟨h.1,h.2.1,h.2.2.1,hK _ _ _ h.2.2.2⟩
   exact h
  exact h
 exact h
def SF[Glo](P:Program)(ops:List (Option Tmp))(o:Oper)(s:St)(x:HI):Prop:=x.dst=o.dst/\hstep P ops o s fun eff v ob nx=>eff=x.eff/\v=x.v/\(eff=true->ob=x.ob/\nx=x.nx)
theorem Wp[Glo]{P:Program}{ops:List (Option Tmp)}{o:Oper}{s:St}{K:Bool->V->List (Nat×Option Ob)->Nat->Prop}(h:hstep P ops o s K):∃eff v ob nx,K eff v ob nx/\SF P ops o s ⟨o.dst,eff,v,ob,nx⟩:=by
 unfold SF;unfold hstep at h ⊢;split at h
 ·split at h
  ·exact⟨_,_,_,_,h.2,rfl,h.1,rfl,rfl,fun h=>by cases h⟩
  obtain⟨v,ob,nx,hk,he⟩:=LE h;exact⟨true,v,ob,nx,hk,rfl,FD he fun v' ob' nx' ⟨h1,h2,h3⟩=>⟨rfl,h1,fun _=>⟨h2,h3⟩⟩⟩
 rename_i j want hg;split at h
 ·split at h
  ·rename_i b want hb;split at h
   ·exact⟨_,_,_,_,h.2,rfl,h.1,rfl,rfl,fun h=>by cases h⟩
   obtain⟨v,ob,nx,hk,he⟩:=JI h.2;exact⟨true,v,ob,nx,hk,rfl,h.1,GU he fun v' ob' nx' ⟨h1,h2,h3⟩=>⟨rfl,h1,fun _=>⟨h2,h3⟩⟩⟩
  exact h.elim
 exact h.elim
theorem P0:∀(l l':List HI)(L:Nat->Bool)(i:Nat),l.length=l'.length->(∀j x x',l[j]? =some x->l'[j]? =some x'->x.dst=x'.dst/\(L (i+j)=true->x.v=x'.v))->eT L i l=eT L i l'
 | [],[],_,_,_,_=>rfl
 | x::l,x'::l',L,i,hl,h=>by
  have h0:=h 0 x x' rfl rfl;simp only[eT];rw[P0 l l' L (i+1) (by simpa using hl) (fun j y y' hy hy'=>by
   have:=h (j+1) y y' (by simpa using hy) (by simpa using hy');rw[show i+1+j=i+(j+1) by omega];exact this),h0.1]
  cases hL:L i with
  | false=>rfl
  | true=>rw[h0.2 (by simpa using hL)]
 | [],_::_,_,_,hl,_=>by simp at hl
 | _::_,[],_,_,hl,_=>by simp at hl
theorem IS:∀(l l':List HI)(L L':Nat->Bool)(i:Nat)(b:List (Nat×Option Ob)×Nat),l.length=l'.length ->
  (∀j x x',l[j]? =some x->l'[j]? =some x'->(x.eff&&L (i+j))=(x'.eff&&L' (i+j))/\((x.eff&&L (i+j))=true->x.ob=x'.ob/\x.nx=x'.nx))->eO L i l b=eO L' i l' b
 | [],[],_,_,_,_,_,_=>rfl
 | x::l,x'::l',L,L',i,b,hl,h=>by
  have h0:=h 0 x x' rfl rfl;simp only[Nat.add_zero]at h0;simp only[eO];have e:(bif x.eff&&L i then(x.ob,x.nx)else b)=(bif x'.eff&&L' i then(x'.ob,x'.nx)else b):=by
   rw[<- h0.1];cases hc:(x.eff&&L i)with
   | false=>rfl
   | true=>obtain⟨h1,h2⟩:=h0.2 hc;simp[h1,h2]
  rw[e];exact IS l l' L L' (i+1) _ (by simpa using hl) (fun j y y' hy hy'=>by
   have:=h (j+1) y y' (by simpa using hy) (by simpa using hy');rw[show i+1+j=i+(j+1) by omega];exact this)
 | [],_::_,_,_,_,_,hl,_=>by simp at hl
 | _::_,[],_,_,_,_,hl,_=>by simp at hl
theorem PZ[Glo]{P:Program}{ops:List (Option Tmp)}{prs:List (List Nat)}{st0:St}{K:List HI->Prop}(hpr:∀i j,j∈prs.getD i []->j<i):∀(todo:List Oper)(done:List HI),Gc P ops prs st0 K todo done ->
  ∃outs:List HI,outs.length=todo.length/\K (done++outs) /\
   ∀k o x,todo[k]? =some o->outs[k]? =some x->SF P ops o (stS st0 (fun j=>(prs.getD (done.length+k) []).contains j) (done++outs)) x
 | [],done,h=>⟨[],rfl,by simpa[Gc]using h,fun k o x hk=>by simp at hk⟩
 | o::r,done,h=>by
  simp only[Gc]at h;obtain⟨eff,v,ob,nx,hk,hsf⟩:=Wp h;simp only[addH]at hk;obtain⟨outs,hl,hK,hf⟩:=PZ hpr r _ hk;have hdsts:∀(k:Nat)(o':Oper)(x:HI),(o::r)[k]? =some o'->(⟨o.dst,eff,v,ob,nx⟩::outs)[k]? =some x->x.dst=o'.dst:=fun k o' x ho hx=>by
   cases k with
   | zero=>simp at ho hx;subst ho;subst hx;rfl
   | succ k=>exact(hf k o' x (by simpa using ho) (by simpa using hx)).1
  refine⟨⟨o.dst,eff,v,ob,nx⟩::outs,by simp[hl],by simpa using hK,fun k o' x ho hx=>?_⟩;cases k with
  | zero =>
   simp only[iS,gQ]at ho hx;subst ho;subst hx;have key:∀j,done.length<=j->((prs.getD done.length []).contains j)=false:=fun j hj=>by
    cases hc:(prs.getD done.length []).contains j with
    | false=>rfl
    | true =>
     have:=hpr done.length j (by simpa using hc);omega
   have hcase:∀(j:Nat)(x x':HI),(done++(o::r).map ph)[j]? =some x->(done++⟨o.dst,eff,v,ob,nx⟩::outs)[j]? =some x'->(j<done.length/\x=x')\/(done.length<=j/\x.dst=x'.dst):=fun j y y' hy hy'=>by
    by_cases hj:j<done.length
    ·rw[iQ hj]at hy hy';rw[hy]at hy';exact .inl ⟨hj,by simpa using hy'⟩
    rw[iN (by omega)]at hy hy';rw[iG]at hy;obtain⟨o1,h1,rfl⟩:=Option.map_eq_some_iff.1 hy;exact .inr ⟨by omega,(hdsts _ o1 y' h1 hy').symm⟩
   have e:stS st0 (fun j=>(prs.getD (done.length+0) []).contains j) (done++⟨o.dst,eff,v,ob,nx⟩::outs)=stS st0 (fun j=>(prs.getD done.length []).contains j) (done++(o::r).map ph):=by
    simp only[stS,Nat.add_zero];rw[P0 (done++⟨o.dst,eff,v,ob,nx⟩::outs) (done++(o::r).map ph) _ 0 (by simp[hl]) (fun j y y' hy hy'=>by
     rcases hcase j y' y hy' hy with⟨_,h2⟩|⟨h1,h2⟩
     ·subst h2;exact⟨rfl,fun _=>rfl⟩
     ·refine⟨h2.symm,fun hL=>?_⟩;rw[i6,key j h1]at hL;cases hL),IS (done++⟨o.dst,eff,v,ob,nx⟩::outs) (done++(o::r).map ph) _ (fun j=>(prs.getD done.length []).contains j) 0 _ (by simp[hl]) (fun j y y' hy hy'=>by
     rcases hcase j y' y hy' hy with⟨_,h2⟩|⟨h1,h2⟩
     ·subst h2;exact⟨rfl,fun _=>⟨rfl,rfl⟩⟩
     simp only[i6,key j h1,Bool.and_false];exact⟨trivial,fun h=>by cases h⟩)]
   rw[e];exact hsf
  | succ k =>
   have:=hf k o' x (by simpa using ho) (by simpa using hx);simpa[Nat.add_assoc,Nat.add_comm 1 k]using this
end Go.Ab
end
