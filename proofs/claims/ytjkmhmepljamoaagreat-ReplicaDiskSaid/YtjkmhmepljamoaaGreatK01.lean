/- A part of the proof of ReplicaDisk. -/
import Derived.Test.YtjkmhmepljamoaaGreatK00
import Derived.ArgAppend
import Derived.Laws.CopyRow
import Derived.Laws.OwnMore
import Derived.Laws.RangeString
import Derived.Lib.OthersKept
import Derived.MapKept
set_option linter.all false
set_option maxHeartbeats 16000000
set_option maxRecDepth 100000
section
namespace Go.Ab
open Go.RowKit
def fz1(ob:List (Nat×Option Ob))(id:Nat):List (Nat×Option Ob) :=
 match lookO ob id with
 | some o=>(id,some {o with fz:=true})::ob
 | none=>ob
def fzs(ids:List Nat)(ob:List (Nat×Option Ob)):List (Nat×Option Ob):=ids.foldl fz1 ob
def BJ:List V->List Nat
 | []=>[]
 | .own id::r=>id::BJ r
 | .omap id::r=>id::BJ r
 | _::r=>BJ r
def DT(ob:List (Nat×Option Ob)):V->V
 | .own id=>match lookO ob id with
  | some o=>bif o.box then .poi else .sl o.sz false o.xs
  | none=>.poi
 | .omap id=>match lookO ob id with
  | some o=>bif o.box then .poi else .mp o.sz o.xs
  | none=>.poi
 | .itr _=>.poi
 | .newm _ _ _=>.poi
 | .ptr _ _ _ _=>.poi
 | .cap _ _ _=>.poi
 | .part _ _ _ _=>.poi
 | .st _=>.poi
 | .tup _=>.poi
 | .new _ _ _=>.poi
 | .gd _ _=>.poi
 | v=>v
def pur(ob:List (Nat×Option Ob)):V->V
 | .st cs=>.st (cs.map (DT ob))
 | v=>DT ob v
def Ez:V->Option (List V)
 | .st cs=>some cs
 | .poi=>none
 | .tup _=>none
 | .new _ _ _=>none
 | .newm _ _ _=>none
 | .gd _ _=>none
 | v=>some [v]
def spl{α:Type}:List α->Nat->List α->List α
 | xs,_,[]=>xs
 | xs,k,v::r=>spl (xs.set k v) (k+1) r
def zeroE(P:Program)(t:TypeId):Option (List V) :=
 match P.info? t with
 | some i=>match i.zero with
  | some z=>bif z.cells.all (·.oneCell')then some (z.cells.toList.map of1)else none
  | none=>none
 | none=>none
theorem C6{α:Type}:∀(us:List α)(xs:List α)(k:Nat),(spl xs k us).length=xs.length
 | [],_,_=>rfl
 | u::us,xs,k=>by rw[spl,C6 us];simp
theorem D3{α:Type}:∀(us:List α)(xs:List α)(k j:Nat),k+us.length<=xs.length->(spl xs k us)[j]? =if k<=j/\j<k+us.length then us[j-k]? else xs[j]?
 | [],xs,k,j,_=>by simp[spl];omega
 | u::us,xs,k,j,h=>by
  simp only[iO]at h;rw[spl,D3 us (xs.set k u) (k+1) j (by simp;omega)];by_cases h1:k+1<=j/\j<k+1+us.length
  ·rw[if_pos h1,if_pos (by simp;omega),show j-k=(j-(k+1))+1 by omega];simp
  rw[if_neg h1];by_cases h2:j=k
  ·subst h2;rw[if_pos (by simp),Nat.sub_self];simp[show j<xs.length by omega]
  rw[if_neg (by simp;omega),List.getElem?_set_ne (by omega)]
section
variable {P:Program} {base:Nat} {Xa:Nat->Prop} {w0:W0} {w w':World} {st:St} {a:Act} {M M':Mp} {X X':Nat->Prop} {n n':Nat}
structure Cs(M:Mp)(w:World)(X:Nat->Prop)(n:Nat)(cs:List V)(us:List Value):Prop where
 len:cs.length=us.length
 one:∀u∈us,u.oneCell'=true
 rel:∀(j:Nat)(c:V),cs[j]? =some c->R M w X n c (us.getD j undef)
theorem Cs.mono{cs:List V}{us:List Value}(h:Cs M w X n cs us)(hn:n<=n')(hM:∀i,i<n->M' i=M i)(hX:∀b,X b->X' b)(hw:∀b,X b->w'.heap[b]? =w.heap[b]?):Cs M' w' X' n' cs us :=
 ⟨h.len,h.one,fun j c hc=>(h.rel j c hc).mono hn hM hX hw⟩
theorem Cs.spl[Glo]{cs ds:List V}{us vs:List Value}(h:Cs M w X n cs us)(h':Cs M w X n ds vs)(k:Nat)(hk:k+ds.length<=cs.length):Cs M w X n (Ab.spl cs k ds) (Ab.spl us k vs):=by
 have e1:=h.len;have e2:=h'.len;refine⟨by rw[C6,C6,e1],fun u hu=>?_,fun j c hc=>?_⟩
 ·obtain⟨j,hj⟩:=List.getElem?_of_mem hu;rw[D3 _ _ _ _ (by omega)]at hj;split at hj
  ·exact h'.one _ (g9 hj)
  exact h.one _ (g9 hj)
 rw[D3 _ _ _ _ hk]at hc;rw[gP,D3 _ _ _ _ (by omega)];by_cases hj:k<=j/\j<k+ds.length
 ·rw[if_pos hj]at hc;rw[nH,<- gP];exact h'.rel _ _ hc
 rw[if_neg hj]at hc;rw[nG,<- gP];exact h.rel _ _ hc
theorem Cs.one_{v:V}{u:Value}(h:u.oneCell'=true)(hv:R M w X n v u):Cs M w X n [v] [u] :=
 ⟨rfl,by simpa using h,fun j c hc=>by
  cases j with
  | zero=>simp only[iS,gQ]at hc;subst hc;exact hv
  | succ j=>simp at hc⟩
theorem KF[Glo]{v:V}{u:Value}{cs:List V}(h:Ez v=some cs)(hv:R M w X n v u):Cs M w X n cs u.cells.toList:=by
 cases v with
 | st ds =>
  simp only[Ez,gQ]at h;subst h;cases hv with
  | st _ _ _ hl h1 hr =>
   exact⟨by simpa[Value.cells]using hl,by simpa[Value.cells]using h1,fun j c hc=>by
    have:=hr j c hc;simpa[Value.cells,gZ,gP]using this⟩
 | poi=>simp[Ez]at h
 | tup vs=>simp[Ez]at h
 | new a b c=>simp[Ez]at h
 | newm a b c=>simp[Ez]at h
 | gd a b=>simp[Ez]at h
 | _ =>
  simp only[Ez,gQ]at h;subst h;have:u.oneCell'=true/\u.cells.toList=[u]:=by cases hv<;>exact⟨rfl,rfl⟩
  rw[this.2];exact .one_ this.1 hv
theorem NI{ob:List (Nat×Option Ob)}{v:V}{u:Value}(hv:R M w X n v u)(hob:∀id o,lookO ob id=some o->ObOk base M n w X (M id) o)(hX:∀b,X b->X' b)
  (hown:∀id o g,v=.own id\/v=.omap id->lookO ob id=some o->(M id).ownB=some g->X' g):R M' w X' 0 (DT ob v) u:=by
 have hm:∀{v u},R M w X 0 v u->R M' w X' 0 v u:=fun h=>h.mono (g8 _) (fun _ h=>absurd h (by omega)) hX (fun _ _=>rfl);cases hv with
 | poi=>exact .poi _ _
 | nilp=>exact .nilp _
 | yld=>exact .yld _ _
 | bool _ b=>exact .bool _ _
 | int _ k i=>exact .int _ _ _
 | str _ s=>exact .str _ _
 | st=>exact .poi _ _
 | sl _ sz t xs A len c f hlen hc hm' ht hnil hs hA h =>
  exact .sl _ sz t xs A len c f hlen hc hm' ht hnil hs (fun h0=>by obtain⟨ad,e,hx,hcell⟩:=hA h0;exact⟨ad,e,hX _ hx,hcell⟩) fun j u hu=>hm (h j u hu)
 | own _ id A l c hid hv =>
  simp only[DT];split
  ·rename_i o ho;cases hb:o.box with
   | true=>exact .poi _ _
   | false =>
    have hok:=hob id o ho;obtain⟨vals,hrow,h1,hr⟩:=hok.row;rw[hv]at hrow;have hsz:=hrow.1;simp only[cond_false];rcases hrow.sl ⟨_,_,_,rfl⟩with⟨h2,h3⟩|⟨g,O,cap,cur,h2,hbg,hg,hnc,hcm,hcs,htake⟩
    ·simp only[Value.slice.injEq]at h2;obtain⟨rfl,rfl,rfl⟩:=h2;refine .sl _ _ _ _ _ _ _ (fun j=>vals.getD j undef) h3.symm (g8 _) (by simp) (fun h=>by cases h) (fun _=>⟨rfl,rfl⟩) hok.len (fun h0=>absurd h0 (by omega)) fun j u hu=>?_;have:=hr j u hu;simp only[hb,iR,if_false]at this;exact hm this
    simp only[Value.slice.injEq]at h2;obtain⟨rfl,rfl,rfl⟩:=h2;have hXg:X' g:=hown id o g (.inl rfl) ho (by rw[hv];rfl);by_cases hz:o.sz=0
    ·have:=hok.pos hb;omega
    refine .sl _ _ _ _ _ _ _ (fun j=>vals.getD j undef) rfl hnc hcm (fun h=>by cases h) (fun h=>absurd h hz) hok.len (fun h0=>⟨_,rfl,hXg,fun j hj=>?_⟩) fun j u hu=>?_
    ·have hl:j<vals.length:=by omega
     have hvj:vals[j]? =some (vals.getD j undef):=by rw[gP,gR hl];rfl
     exact⟨hrow.cells (g:=g) rfl j _ hvj,h1 _ (g9 hvj)⟩
    have:=hr j u hu;simp only[hb,iR,if_false]at this;exact hm this
  exact .poi _ _
 | ptr=>exact .poi _ _
 | cap=>exact .poi _ _
 | part=>exact .poi _ _
 | clo _ f cs arr hl h=>exact .clo _ f cs arr hl fun j u hu=>hm (h j u hu)
 | omap _ id g hid hv =>
  simp only[DT];split
  ·rename_i o ho;cases hb:o.box with
   | true=>exact .poi _ _
   | false =>
    have hok:=hob id o ho;obtain⟨vals,hrow,h1,hr⟩:=hok.row;rw[hv]at hrow;simp only[cond_false];rcases hrow.2 with⟨h2,_⟩|⟨_,_,_,_,h2,_⟩|⟨g',es,clk,h2,hbg,hg,hn,hsz,hmo,rfl⟩|⟨_,_,_,h2,_⟩
    ·cases h2
    ·cases h2
    ·simp only[Value.map.injEq,gQ]at h2;subst h2;refine .mp _ _ _ _ es clk (hown id o g (.inr rfl) ho (by rw[hv];rfl)) hg hn hsz hmo hok.len h1 fun j u hu=>?_;have:=hr j u hu;simp only[hb,iR,if_false]at this;exact hm this
    cases h2
  exact .poi _ _
 | itr=>exact .poi _ _
 | mp _ sz xs g es clk hx hg hl hsz hok hs h1 h=>exact .mp _ sz xs g es clk (hX _ hx) hg hl hsz hok hs h1 fun j u hu=>hm (h j u hu)
 | iptr _ cs ad f hx hc h=>exact .iptr _ cs ad f (hX _ hx) hc fun j u hu=>hm (h j u hu)
 | tup=>exact .poi _ _
 | fn _ f=>exact .fn _ _
 | gd=>exact .poi _ _
end
end Go.Ab
namespace Go.Ab
open Go.RowKit
section
variable {P:Program} {base:Nat} {Xa:Nat->Prop} {w0:W0} {w w':World} {st:St} {a:Act} {M M':Mp} {X X':Nat->Prop} {n n':Nat}
theorem Je{e size len cap g O o:Nat}:∀(us:List Value)(i:Nat)(vals:List Value)(w:World),w.ownsG base e size (.slice (some ⟨g,O,none⟩) len cap) len vals->o+i+us.length<=vals.length->(∀u∈us,u.oneCell'=true) ->
  ∃w',(storeCells ⟨g,O+o,none⟩ us i).run P w=.ok () w'/\w'.ownsG base e size (.slice (some ⟨g,O,none⟩) len cap) len (spl vals (o+i) us)/\w.grownBy w' (some g)
 | [],i,vals,w,h,_,_=>⟨w,by simp[storeCells],h,World.grownBy.refl w _⟩
 | u::us,i,vals,w,h,hl,h1=>by
  simp only[iO]at hl;have hc:=h.cellAt (o+i) (by have:=h.1;omega);have hf:=h.frozenAt (o+i) (by have:=h.1;omega);have hcs:vals[o+i]? =some vals[o+i]:=gR (by omega);rw[hcs]at hc;obtain⟨h2,hg⟩:=h.stored (o+i) u;obtain⟨w',hrun,h3,hg'⟩:=Je (o:=o) us (i+1) _ _ h2 (by simp;omega) (fun x hx=>h1 x (gW _ hx));have e:(⟨g,O+o,none⟩:Addr).add i=⟨g,O+(o+i),none⟩:=by rw[Addr.add_lit,Nat.add_assoc]
  refine⟨w',?_,by rw[spl];exact h3,?_⟩
  ·simp only[storeCells,Sem.run_bind,e,run_store P w _ u .plain (h1 u (g7 ..)),hc,hf];simpa using hrun
  exact⟨hg'.os.trans hg.os,hg'.tape.trans hg.tape,hg'.output.trans hg.output,iY hg.size hg'.size,fun k hk hne=>(hg'.block k (Nat.lt_of_lt_of_le hk hg.size) hne).trans (hg.block k hk hne)⟩
theorem P7[Glo]{m:Nat}(l:List (List V))(i:Nat)(x:List V)(hl:∀y∈l,y.length=m)(hx:x.length=m)(hi:i<l.length):(l.set i x).flatten=spl l.flatten (i*m) x:=by
 have hfl:=Bu l hl;have hl':∀y∈l.set i x,y.length=m:=fun y hy=>by
  rcases List.mem_or_eq_of_mem_set hy with h|h
  ·exact hl y h
  subst h;exact hx
 have hle:i*m+m<=l.length*m:=by rw[<- Nat.succ_mul];exact iW _ hi
 rcases Nat.eq_zero_or_pos m with h0|h0
 ·subst h0;have e1:(l.set i x).flatten=[]:=iF (by rw[Bu _ hl'];simp);have e2:l.flatten=[]:=iF (by rw[hfl];simp);have e3:x=[]:=iF hx;rw[e1,e2,e3];rfl
 apply List.ext_getElem?;intro j;rw[D3 _ _ _ _ (by rw[hx,hfl];exact hle)];have hq:j=(j/m)*m+j%m:=by rw[Nat.mul_comm];exact(Nat.div_add_mod j m).symm
 have hr:=Nat.mod_lt j h0;generalize j/m=q at hq;generalize j%m=r at hq hr;subst hq;rw[flat_get _ _ _ hl' hr,flat_get _ _ _ hl hr];by_cases hqi:q=i
 ·subst hqi;rw[nH,Nat.add_sub_cancel_left];simp[gP,hi]
 rw[if_neg (by
  intro h;rcases Nat.lt_or_gt_of_ne hqi with h'|h'
  ·have:(q+1)*m<=i*m:=iW _ h';rw[Nat.add_mul]at this;omega
  have:(i+1)*m<=q*m:=iW _ h';rw[Nat.add_mul]at this;omega)]
 simp only[gP];rw[List.getElem?_set_ne (by omega)]
theorem fF[Glo]{α:Type}(xs:List α)(k off:Nat)(seg ds:List α)(hs:k+seg.length<=xs.length)(hseg:∀j,j<seg.length->seg[j]? =xs[k+j]?)(hd:off+ds.length<=seg.length):spl xs k (spl seg off ds)=spl xs (k+off) ds:=by
 apply List.ext_getElem?;intro j;rw[D3 (spl seg off ds) xs k j (by rw[C6];exact hs),D3 ds xs (k+off) j (by omega),C6];by_cases h1:k<=j/\j<k+seg.length
 ·rw[if_pos h1,D3 _ _ _ _ hd];by_cases h2:k+off<=j/\j<k+off+ds.length
  ·rw[nH,if_pos h2];congr 1;omega
  rw[nG,if_neg h2,hseg _ (by omega)];congr 1;omega
 rw[if_neg h1,nG]
theorem RelM.store[Glo](h:RelM base Xa w0 st a w M){id:Nat}{o:Ob}(ho:lookO st.ob id=some o)(hf:o.fz=false){g i off:Nat}(hg:(M id).ownBlock=some g)(hi:i<o.xs.length){ds:List V}{us:List Value}
  (hd:off+ds.length<=o.sz) (hds:Cs M w (Xf base Xa w M st.ob) (if o.box then st.nx else 0) ds us) :
  ∃w',(storeCells ⟨g,(M id).offB+(i*o.sz+off),none⟩ us 0).run P w=.ok () w'/\RelM base Xa w0 {st with ob:=(id,some {o with xs:=o.xs.set i (Ab.spl (o.xs.getD i []) off ds)})::st.ob} a w' M:=by
 obtain⟨hid,hok⟩:=h.obs id o ho;obtain⟨vals,hrow,h1,hr⟩:=hok.row;have hlen:(o.xs.getD i []).length=o.sz:=by
  rw[gP,gR hi];exact hok.len _ (List.getElem_mem hi)
 have hfl:=Bu o.xs hok.len;have hvl:=hrow.1;have hle:i*o.sz+o.sz<=o.xs.length*o.sz:=by rw[<- Nat.succ_mul];exact iW _ hi
 have hdl:=hds.len;rcases hrow.sl (Jb hg)with⟨h2,h3⟩|⟨g',O,cap,cur,h2,rest⟩
 ·omega
 rw[h2]at hg hrow;simp only[Value.ownBlock,gQ]at hg;subst hg;obtain⟨w',hrun,hown,hgr⟩:=Je (P:=P) (o:=i*o.sz+off) us 0 vals w hrow (by omega) hds.one;have hgr':w.grownBy w' (M id).ownB:=by rw[h2];exact hgr
 refine⟨w',by rw[h2];exact hrun,?_⟩;refine h.modify (o':={o with xs:=o.xs.set i (Ab.spl (o.xs.getD i []) off ds)}) ho hf hgr' ⟨hok.pos,hok.off,?_,Ab.spl vals (i*o.sz+off) us,?_,?_,?_⟩
 ·intro x hx;rcases List.mem_or_eq_of_mem_set hx with h|h
  ·exact hok.len x h
  subst h;rw[C6];exact hlen
 ·rw[h2];simpa using hown
 ·intro u hu;obtain⟨j,hj⟩:=List.getElem?_of_mem hu;rw[D3 _ _ _ _ (by omega)]at hj;split at hj
  ·exact hds.one _ (g9 hj)
  exact h1 _ (g9 hj)
 have hX:∀b,Xf base Xa w M st.ob b->Xf base Xa w' M ((id,some {o with xs:=o.xs.set i (Ab.spl (o.xs.getD i []) off ds)})::st.ob) b:=fun b hx =>
  ⟨hx.1.imp (fun x=>x) fun h=>⟨h.1,by have:=hgr.size;omega⟩,fun i' o1 ho1 hf1=>by
   simp only[lookO]at ho1;split at ho1
   ·rename_i e;subst e;exact hx.2 _ o ho hf
   exact hx.2 i' o1 ho1 hf1⟩
 have hw:∀b,Xf base Xa w M st.ob b->w'.heap[b]? =w.heap[b]? :=fun b hx=>hgr'.block b (hx.lt h.xa h.hbase) (fun e=>hx.2 id o ho hf e.symm);have hcs:Cs M w (Xf base Xa w M st.ob) (if o.box then st.nx else 0) o.xs.flatten vals:=⟨by rw[hfl,hvl],h1,hr⟩;have:=(hcs.spl hds (i*o.sz+off) (by omega)).mono (g8 _) (fun _ _=>rfl) hX hw;have e:(o.xs.set i (Ab.spl (o.xs.getD i []) off ds)).flatten=Ab.spl o.xs.flatten (i*o.sz+off) ds:=by
  rw[P7 o.xs i _ hok.len (by rw[C6];exact hlen) hi];exact fF _ _ _ _ _ (by omega) (fun j hj=>(flat_get _ _ _ hok.len (by omega)).symm) (by omega)
 intro j u hu;simp only at hu;rw[e]at hu;exact this.rel j u hu
theorem Mk(off:Nat):∀(l:List Value)(k:Nat)(arr:Array Value),((l.zipIdx k).foldl (fun cs (x:Value×Nat)=>cs.setIfInBounds (off+x.2) x.1) arr).toList=Ab.spl arr.toList (off+k) l
 | [],k,arr=>rfl
 | v::l,k,arr=>by
  simp only[List.zipIdx_cons,List.foldl_cons];rw[Mk off l (k+1),spl,Array.toList_setIfInBounds];rfl
def EO[Glo](st:St)(place:Nat->Option (Nat×Nat)):List V->List (Nat×Operand)->Option (List V)
 | cs,[]=>some cs
 | cs,(i,x)::r=>match place i with
  | none=>none
  | some (off,m)=>match Ez (ev st x)with
   | some ds=>if ds.length=m/\off+m<=cs.length then EO st place (spl cs off ds) r else none
   | none=>none
theorem TX[Glo]{X:Nat->Prop}{N:Nat}(h:RelX base st a w M X N)(place:Nat->Option (Nat×Nat)):∀(parts:List (Nat×Operand))(cs:List V)(arr:Array Value)(cs':List V),EO st place cs parts=some cs' ->
  Cs M w X N cs arr.toList->∃arr',Instr.fill place arr (parts.map fun x=>(x.1,a.eval x.2))=some arr'/\Cs M w X N cs' arr'.toList
 | [],cs,arr,cs',hf,hc=>by
  simp only[EO,gQ]at hf;subst hf;exact⟨arr,rfl,hc⟩
 | (i,x)::r,cs,arr,cs',hf,hc=>by
  simp only[EO]at hf;split at hf
  ·simp at hf
  rename_i off m hp;split at hf
  ·rename_i ds hds;split at hf
   ·rename_i hcond;have hd:=KF hds (CU h x);have e1:(a.eval x).cells.size=m:=by rw[<- hcond.1,hd.len];simp
    have e2:arr.size=cs.length:=by rw[hc.len];simp
    have hsp:=hc.spl hd off (by omega);have hfold:(Array.foldl (fun cs (x:Value×Nat)=>cs.setIfInBounds (off+x.2) x.1) arr (a.eval x).cells.zipIdx).toList=Ab.spl arr.toList off (a.eval x).cells.toList:=by
     rw[<- Array.foldl_toList,Array.toList_zipIdx];exact Mk off _ 0 arr
    obtain⟨arr',h1,h2⟩:=TX h place r _ (Array.foldl (fun cs (x:Value×Nat)=>cs.setIfInBounds (off+x.2) x.1) arr (a.eval x).cells.zipIdx) cs' hf (by rw[hfold];exact hsp);refine⟨arr',?_,h2⟩;simp only[iI,Instr.fill,hp,e1];rw[if_neg (by simp;omega)];exact h1
   simp at hf
  simp at hf
end
end Go.Ab
namespace Go.Ab
open Go.RowKit
def V.fcells:V->List V
 | .tup vs=>vs.flatMap V.cells
 | v=>v.cells
def Jk:Value->List Value
 | .tuple vs=>vs.toList.flatMap (·.cells.toList)
 | v=>v.cells.toList
def O5(n:Nat):V->V
 | .new _ _ _=>.own n
 | .newm _ _ _=>.omap n
 | v=>v
def UM:Nat->List V->List V
 | _,[]=>[]
 | n,c::r=>O5 n c::UM (n+1) r
def K8(n:Nat):V->V
 | .st cs=>.st (UM n cs)
 | v=>O5 n v
def O6:Nat->List V->List V
 | _,[]=>[]
 | n,v::r=>K8 n v::O6 (n+v.cells.length) r
def opn(n:Nat):V->V
 | .tup vs=>.tup (O6 n vs)
 | v=>K8 n v
def BY:Nat->List V->List (Nat×Option Ob)
 | _,[]=>[]
 | n,.new e s xs::r=>(n,some ⟨e,s,false,false,xs⟩)::BY (n+1) r
 | n,.newm e s xs::r=>(n,some ⟨e,s,false,false,xs⟩)::BY (n+1) r
 | n,_::r=>BY (n+1) r
theorem Gn:∀(cs:List V)(n id:Nat)(o:Ob),lookO (BY n cs) id=some o->∃j e s xs,id=n+j/\(cs[j]? =some (.new e s xs)\/cs[j]? =some (.newm e s xs))/\o=⟨e,s,false,false,xs⟩
 | [],n,id,o,h=>by simp[BY,lookO]at h
 | c::r,n,id,o,h=>by
  have rec_:lookO (BY (n+1) r) id=some o->∃j e s xs,id=n+j/\((c::r)[j]? =some (.new e s xs)\/(c::r)[j]? =some (.newm e s xs))/\o=⟨e,s,false,false,xs⟩:=fun h=>by
   obtain⟨j,e,s,xs,h1,h2,h3⟩:=Gn r (n+1) id o h;exact⟨j+1,e,s,xs,by omega,by simpa using h2,h3⟩
  cases c with
  | new e s xs =>
   simp only[BY,lookO]at h;split at h
   ·rename_i he;simp only[gQ]at h;exact⟨0,e,s,xs,by omega,.inl rfl,h.symm⟩
   exact rec_ h
  | newm e s xs =>
   simp only[BY,lookO]at h;split at h
   ·rename_i he;simp only[gQ]at h;exact⟨0,e,s,xs,by omega,.inr rfl,h.symm⟩
   exact rec_ h
  | _=>exact rec_ (by simpa only[BY]using h)
theorem Mv:∀(l r:List (Nat×Option Ob))(id:Nat),(∀x∈l,x.2.isSome=true)->lookO (l++r) id=match lookO l id with|some o=>some o|none=>lookO r id
 | [],r,id,_=>by simp[lookO]
 | (k,o)::l,r,id,h=>by
  simp only[iT,lookO];split
  ·have:=h (k,o) (g7 ..);simp only at this;cases o with
   | none=>simp at this
   | some o=>rfl
  exact Mv l r id (fun x hx=>h x (gW _ hx))
theorem Ek:∀(cs:List V)(n:Nat),∀x∈BY n cs,x.2.isSome=true
 | [],n,x,h=>by simp[BY]at h
 | c::r,n,x,h=>by
  cases c with
  | new e s xs =>
   simp only[BY,List.mem_cons]at h;rcases h with rfl|h
   ·rfl
   exact Ek r (n+1) x h
  | newm e s xs =>
   simp only[BY,List.mem_cons]at h;rcases h with rfl|h
   ·rfl
   exact Ek r (n+1) x h
  | _=>exact Ek r (n+1) x (by simpa only[BY]using h)
def wk1:V->V->Prop
 | .sl z t xs,.sl z' t' xs'=>xs=xs'/\(t'=true->t=true)/\(z'=z\/(xs=[]/\z'≠0))
 | v,v'=>v=v'
def wkL:List V->List V->Prop
 | [],[]=>True
 | a::r,b::s=>wk1 a b/\wkL r s
 | _,_=>False
def wkC:V->V->Prop
 | .st cs,.st cs'=>wkL cs cs'
 | v,v'=>wk1 v v'
def wkT:List V->List V->Prop
 | [],[]=>True
 | a::r,b::s=>wkC a b/\wkT r s
 | _,_=>False
def wkR:V->V->Prop
 | .tup vs,.tup vs'=>wkT vs vs'
 | v,v'=>wkC v v'
theorem Cu{v v':V}(h:wk1 v v'):v=v'\/∃z t xs z' t',v=.sl z t xs/\v'=.sl z' t' xs/\(t'=true->t=true)/\(z'=z\/(xs=[]/\z'≠0)):=by
 unfold wk1 at h;split at h
 ·obtain⟨rfl,h1,h2⟩:=h;exact .inr ⟨_,_,_,_,_,rfl,rfl,h1,h2⟩
 exact .inl h
@[simp] theorem Qk(v:V):wk1 v v:=by
 cases v<;>simp[wk1]
@[simp] theorem Qm[Glo]:∀cs:List V,wkL cs cs
 | []=>trivial
 | c::cs=>⟨Qk c,Qm cs⟩
@[simp] theorem Ql[Glo](v:V):wkC v v:=by
 unfold wkC;cases v<;>first|exact Qm _|exact Qk _
@[simp] theorem Qn[Glo]:∀cs:List V,wkT cs cs
 | []=>trivial
 | c::cs=>⟨Ql c,Qn cs⟩
@[simp] theorem wkR_refl[Glo](v:V):wkR v v:=by
 unfold wkR;cases v<;>first|exact Qn _|exact Ql _
theorem Lv:∀{cs cs':List V},wkL cs cs'->cs.length=cs'.length
 | [],[],_=>rfl
 | _::_,_::_,h=>by simp[Lv h.2]
 | [],_::_,h=>h.elim
 | _::_,[],h=>h.elim
theorem Ve:∀{cs cs':List V}(_:wkL cs cs')(j:Nat)(u':V),cs'[j]? =some u'->∃u,cs[j]? =some u/\wk1 u u'
 | [],[],_,j,u',hu=>by simp at hu
 | a::cs,b::cs',h,0,u',hu=>by simp at hu;subst hu;exact⟨a,rfl,h.1⟩
 | a::cs,b::cs',h,j+1,u',hu=>by simpa using Ve h.2 j u' (by simpa using hu)
 | [],_::_,h,_,_,_=>h.elim
 | _::_,[],h,_,_,_=>h.elim
theorem PH:∀{cs cs':List V},wkT cs cs'->cs.length=cs'.length
 | [],[],_=>rfl
 | _::_,_::_,h=>by simp[PH h.2]
 | [],_::_,h=>h.elim
 | _::_,[],h=>h.elim
theorem PG:∀{cs cs':List V}(_:wkT cs cs')(j:Nat)(u':V),cs'[j]? =some u'->∃u,cs[j]? =some u/\wkC u u'
 | [],[],_,j,u',hu=>by simp at hu
 | a::cs,b::cs',h,0,u',hu=>by simp at hu;subst hu;exact⟨a,rfl,h.1⟩
 | a::cs,b::cs',h,j+1,u',hu=>by simpa using PG h.2 j u' (by simpa using hu)
 | [],_::_,h,_,_,_=>h.elim
 | _::_,[],h,_,_,_=>h.elim
theorem wk1_R[Glo]{M:Mp}{w:World}{X:Nat->Prop}{n:Nat}{v v':V}{u:Value}(h:wk1 v v')(hr:R M w X n v u):R M w X n v' u:=by
 rcases Cu h with rfl|⟨z,t,xs,z',t',rfl,rfl,h1,h2⟩
 ·exact hr
 obtain⟨A,c,f,rfl,hc,hm,ht,hnil,hs,hA,hf⟩:=SH hr;rcases h2 with rfl|⟨rfl,hz⟩
 ·exact .sl _ _ _ _ _ _ _ f rfl hc hm (fun e=>ht (h1 e)) hnil hs hA hf
 exact .sl _ _ _ _ _ _ _ f rfl hc hm (fun e=>ht (h1 e)) (fun e=>absurd e hz) (by simp) (by simp) hf
theorem gA[Glo]{M:Mp}{w:World}{X:Nat->Prop}{n:Nat}{v v':V}{u:Value}(h:wkC v v')(hr:R M w X n v u):R M w X n v' u:=by
 unfold wkC at h;split at h
 ·cases hr with
  | st _ _ arr hl h1 hh =>
   refine .st _ _ _ (by rw[<- Lv h,hl]) h1 fun j u' hu=>?_;obtain⟨u,e,hw⟩:=Ve h j u' hu;exact wk1_R hw (hh j u e)
 exact wk1_R h hr
theorem f9[Glo]{v v':V}(h:wk1 v v')(n:Nat):wk1 (O5 n v) (O5 n v'):=by
 rcases Cu h with rfl|⟨z,t,xs,z',t',rfl,rfl,h1,h2⟩
 ·simp
 exact⟨rfl,h1,h2⟩
theorem Vf[Glo]:∀{cs cs':List V}(_:wkL cs cs')(n:Nat),wkL (UM n cs) (UM n cs')
 | [],[],_,_=>trivial
 | _::_,_::_,h,n=>⟨f9 h.1 n,Vf h.2 (n+1)⟩
 | [],_::_,h,_=>h.elim
 | _::_,[],h,_=>h.elim
theorem Va[Glo]{v v':V}(h:wkC v v'):(∃cs cs',v=.st cs/\v'=.st cs'/\wkL cs cs')\/(wk1 v v'/\((∃cs,v=.st cs)\/∃cs,v'=.st cs)->v=v')/\wk1 v v':=by
 unfold wkC at h;split at h
 ·exact .inl ⟨_,_,rfl,rfl,h⟩
 refine .inr ⟨fun⟨h1,h2⟩=>?_,h⟩;rcases Cu h1 with e|⟨z,t,xs,z',t',rfl,rfl,_⟩
 ·exact e
 rcases h2 with⟨_,h⟩|⟨_,h⟩<;>cases h
theorem Jm[Glo]{v v':V}(h:wkC v v'):wkL v.cells v'.cells:=by
 unfold wkC at h;split at h
 ·exact h
 rcases Cu h with rfl|⟨z,t,xs,z',t',rfl,rfl,h1,h2⟩
 ·simp
 exact⟨⟨rfl,h1,h2⟩,trivial⟩
theorem Vb[Glo]{v v':V}(h:wkC v v')(n:Nat):wkC (K8 n v) (K8 n v'):=by
 unfold wkC at h;split at h
 ·exact Vf h n
 rcases Cu h with rfl|⟨z,t,xs,z',t',rfl,rfl,h1,h2⟩
 ·simp
 exact⟨rfl,h1,h2⟩
theorem Vd:∀{a b c d:List V},wkL a b->wkL c d->wkL (a++c) (b++d)
 | [],[],_,_,_,h=>h
 | _::_,_::_,_,_,h,h'=>⟨h.1,Vd h.2 h'⟩
 | [],_::_,_,_,h,_=>h.elim
 | _::_,[],_,_,h,_=>h.elim
theorem Nf[Glo]:∀{vs vs':List V},wkT vs vs'->wkL (vs.flatMap V.cells) (vs'.flatMap V.cells)
 | [],[],_=>trivial
 | _::_,_::_,h=>by simp only[List.flatMap_cons];exact Vd (Jm h.1) (Nf h.2)
 | [],_::_,h=>h.elim
 | _::_,[],h=>h.elim
theorem Vg[Glo]:∀{vs vs':List V}(_:wkT vs vs')(n:Nat),wkT (O6 n vs) (O6 n vs')
 | [],[],_,_=>trivial
 | _::_,_::_,h,n=>⟨Vb h.1 n,by rw[Lv (Jm h.1)];exact Vg h.2 _⟩
 | [],_::_,h,_=>h.elim
 | _::_,[],h,_=>h.elim
theorem wkR_R[Glo]{M:Mp}{w:World}{X:Nat->Prop}{n:Nat}{v v':V}{u:Value}(h:wkR v v')(hr:R M w X n v u):R M w X n v' u:=by
 unfold wkR at h;split at h
 ·cases hr with
  | tup _ _ arr hl hh =>
   refine .tup _ _ _ (by rw[<- PH h,hl]) fun j u' hu=>?_;obtain⟨u,e,hw⟩:=PG h j u' hu;exact gA hw (hh j u e)
 exact gA h hr
theorem gB[Glo]{v v':V}(h:wkR v v')(n:Nat):wkR (opn n v) (opn n v'):=by
 unfold wkR at h;split at h
 ·exact Vg h n
 rename_i hno;have key:wkC (K8 n v) (K8 n v'):=Vb h n;have h1:(∀vs,v≠.tup vs)\/v=v':=by
  cases v<;>try (left;intro vs e;cases e;done)
  right;rename_i vs;rcases Cu (show wk1 (.tup vs) v' from(by unfold wkC at h;exact h))with e|⟨_,_,_,_,_,e,_⟩
  ·exact e
  cases e
 rcases h1 with h1|rfl
 ·have h2:∀vs,v'≠.tup vs:=by
   intro vs e;subst e;have:wk1 v (.tup vs):=by cases v<;>exact h
   rcases Cu this with e|⟨_,_,_,_,_,_,e,_⟩
   ·exact h1 vs e
   cases e
  have e1:∀v:V,(∀vs,v≠.tup vs)->opn n v=K8 n v:=fun v hv=>by cases v<;>first|rfl|exact absurd rfl (hv _)
  rw[e1 v h1,e1 v' h2];unfold wkR;split
  ·rename_i e _;exfalso;revert e;cases v<;>simp[K8,O5];exact fun _=>h1 _ rfl
  exact key
 simp
theorem SD[Glo]{v v':V}(h:wkR v v'):wkL v.fcells v'.fcells:=by
 unfold wkR at h;split at h
 ·exact Nf h
 have:=Jm h;rcases Va h with⟨_,_,rfl,rfl,h'⟩|⟨_,h'⟩
 ·exact h'
 rcases Cu h' with rfl|⟨z,t,xs,z',t',rfl,rfl,h1,h2⟩
 ·simp
 exact this
theorem PE[Glo]:∀{cs cs':List V}(_:wkL cs cs')(n:Nat),BY n cs=BY n cs'
 | [],[],_,_=>rfl
 | a::_,b::_,h,n=>by
  have ih:=PE h.2 (n+1);rcases Cu h.1 with rfl|⟨z,t,xs,z',t',rfl,rfl,h1,h2⟩
  ·cases a<;>simp[BY,ih]
  simp[BY,ih]
 | [],_::_,h,_=>h.elim
 | _::_,[],h,_=>h.elim
def C9:V->Bool
 | .sl _ _ xs=>xs.isEmpty
 | .iptr _=>false
 | .clo _ _=>false
 | .st _=>false
 | .tup _=>false
 | .gd _ _=>false
 | .mp _ _=>false
 | _=>true
def Cx:V->Prop
 | .new _ _ xs=>∀x∈xs,∀c∈x,C9 c=true
 | .newm _ _ xs=>∀x∈xs,∀c∈x,C9 c=true
 | c=>C9 c=true
def noX(v:V):Prop:=∀c∈v.fcells,Cx c
def Res(base:Nat)(Xa:Nat->Prop)(w:World)(r:V)(val:Value):Prop :=
 ∀(M:Mp)(n:Nat),(∀j,j<r.fcells.length->M (n+j)=(Jk val).getD j undef) ->
  R M w (Xf base Xa w M (BY n r.fcells)) (n+r.fcells.length) (opn n r) val /\
  (∀id o,lookO (BY n r.fcells) id=some o->ObOk base M (n+r.fcells.length) w (Xf base Xa w M (BY n r.fcells)) (M id) o) /\
  ∀id id' o o' g,lookO (BY n r.fcells) id=some o->lookO (BY n r.fcells) id'=some o'->id≠id'->(M id).ownB=some g->(M id').ownB≠some g
def D7(P:Program)(f:FuncId):Bool :=
 match P.funcs[f]? with
 | some fn=>!(fn.name== "runtime.NumGoroutine")&&fn.body.isSome
 | none=>false
def AC[Glo](P:Program)(f:FuncId)(args:List V)(r:V):Prop :=
 D7 P f=true/\∀(w:World)(Xa:Nat->Prop)(vals:Array Value)(M:Mp),XaOk w.heap.size Xa w->vals.size=args.length ->
  (∀(j:Nat)(u:V),args[j]? =some u->R M w Xa 0 u (vals.getD j undef)) ->
  Calls P f vals w fun e w'=>∃val,e=.returned val/\Below w.heap.size w w'/\Res w.heap.size Xa w' r val
theorem Res.wk[Glo]{base:Nat}{Xa:Nat->Prop}{w:World}{r r':V}{val:Value}(h:Res base Xa w r val)(hw:wkR r r'):Res base Xa w r' val:=fun M n hM=>by
 have hf:=SD hw;have hl:=Lv hf;obtain⟨h1,h2,h3⟩:=h M n (fun j hj=>hM j (by omega));rw[PE hf n,hl]at h1 h2;rw[PE hf n]at h3;exact⟨wkR_R (gB hw n) h1,h2,h3⟩
theorem AC.wk[Glo]{P:Program}{f:FuncId}{args args':List V}{r:V}(h:AC P f args' r)(hw:wkT args args'):AC P f args r :=
 ⟨h.1,fun w Xa vals M hXa hs hr=>h.2 w Xa vals M hXa (by rw[hs,PH hw]) fun j u' hu=>by
  obtain⟨u,e,hw'⟩:=PG hw j u' hu;exact gA hw' (hr j u e)⟩
section
variable {P:Program} {base:Nat} {Xa:Nat->Prop} {w0:W0} {w w':World} {st:St} {a:Act} {M M':Mp} {X X':Nat->Prop} {n n':Nat}
theorem UH{v:V}{u:Value}(h:R M w X n v u)(hv:C9 v=true):R M w X' n v u:=by
 cases h with
 | poi=>exact .poi _ _
 | nilp=>exact .nilp _
 | yld=>exact .yld _ _
 | bool=>exact .bool _ _
 | int=>exact .int _ _ _
 | str=>exact .str _ _
 | st=>simp[C9]at hv
 | sl _ sz t xs A len c f hlen hc hm ht hnil hs hA h =>
  have:xs=[]:=by simpa[C9]using hv
  subst this;simp at hlen;subst hlen;exact .sl _ _ _ _ _ _ _ f rfl hc hm ht hnil hs (fun h=>absurd h (by omega)) (fun j u hu=>by simp at hu)
 | own _ _ _ _ _ hid hv'=>exact .own _ _ _ _ _ hid hv'
 | ptr _ _ _ _ _ _ _ hid hg hk=>exact .ptr _ _ _ _ _ _ _ hid hg hk
 | clo=>simp[C9]at hv
 | cap _ f fs cs fa ca hf hc h1 h2=>exact .cap _ f fs cs fa ca hf hc h1 h2
 | part _ _ _ _ _ _ _ _ _ hid hv' hl=>exact .part _ _ _ _ _ _ _ _ _ hid hv' hl
 | iptr=>simp[C9]at hv
 | omap _ _ _ hid hv'=>exact .omap _ _ _ hid hv'
 | itr _ _ _ hid hv'=>exact .itr _ _ _ hid hv'
 | mp=>simp[C9]at hv
 | tup=>simp[C9]at hv
 | fn=>exact .fn _ _
 | gd=>simp[C9]at hv
theorem ObOk.lower{base':Nat}{v:Value}{o:Ob}(h:ObOk base' M n w X v o)(hb:base<=base'):ObOk base M n w X v o:=by
 obtain⟨vals,hrow,h1,hr⟩:=h.row;refine⟨h.pos,h.off,h.len,vals,⟨hrow.1,?_⟩,h1,hr⟩;rcases hrow.2 with h2|⟨g,O,cap,cur,e,hg,rest⟩|hodd
 ·exact .inl h2
 ·exact .inr (.inl ⟨g,O,cap,cur,e,by omega,rest⟩)
 exact .inr (.inr (hodd.congr (fun _ _=>rfl) fun _ _ h=>by omega))
theorem L6:∀(cs:List V)(n j:Nat),(UM n cs)[j]? =(cs[j]?).map (O5 (n+j))
 | [],n,j=>by simp[UM]
 | c::r,n,0=>by simp[UM]
 | c::r,n,j+1=>by simp only[UM,List.getElem?_cons_succ];rw[L6 r (n+1) j,show n+1+j=n+(j+1) by omega]
theorem Pu{c:V}{k:Nat}(h:Cx c):C9 (O5 k c)=true:=by
 cases c<;>first|rfl|exact h
theorem Pv[Glo]{v:V}{k:Nat}{u:Value}(h:R M w X n (K8 k v) u)(hv:∀c∈v.cells,Cx c):R M w X' n (K8 k v) u:=by
 cases v with
 | st cs =>
  simp only[K8]at h ⊢;cases h with
  | st _ _ arr hl h1 hr =>
   refine .st _ _ _ hl h1 fun j u hu=>?_;have:=hr j u hu;rw[L6]at hu;obtain⟨c,hc,rfl⟩:=Option.map_eq_some_iff.1 hu;exact UH this (Pu (hv c (g9 hc)))
 | _=>exact UH h (by simp only[K8];exact Pu (hv _ (List.mem_singleton.2 rfl)))
theorem Pw:∀(vs:List V)(n j:Nat)(u:V),(O6 n vs)[j]? =some u->∃v k,vs[j]? =some v/\u=K8 k v
 | [],n,j,u,h=>by simp[O6]at h
 | v::r,n,0,u,h=>by simp only[O6,iS,gQ]at h;exact⟨v,n,rfl,h.symm⟩
 | v::r,n,j+1,u,h=>by
  simp only[O6,List.getElem?_cons_succ]at h;obtain⟨v',k,h1,h2⟩:=Pw r _ j u h;exact⟨v',k,by simpa using h1,h2⟩
theorem cV[Glo]{r:V}{k:Nat}{u:Value}(h:R M w X n (opn k r) u)(hv:noX r):R M w X' n (opn k r) u:=by
 cases r with
 | tup vs =>
  simp only[opn]at h ⊢;cases h with
  | tup _ _ arr hl hr =>
   refine .tup _ _ _ hl fun j u hu=>?_;have:=hr j u hu;obtain⟨v,k',hv',rfl⟩:=Pw _ _ _ _ hu;exact Pv this (fun c hc=>hv c (List.mem_flatMap.2 ⟨v,g9 hv',hc⟩))
 | _=>simp only[opn]at h ⊢;exact Pv h (fun c hc=>hv c (by simpa only[V.fcells]using hc))
theorem Pr[Glo]{v:Value}{o:Ob}(h:ObOk base M n w X v o)(hv:∀x∈o.xs,∀c∈x,C9 c=true):ObOk base M n w X' v o:=by
 obtain⟨vals,hrow,h1,hr⟩:=h.row;refine⟨h.pos,h.off,h.len,vals,hrow,h1,fun j u hu=>UH (hr j u hu) ?_⟩;obtain⟨x,hx,hc⟩:=List.mem_flatten.1 (g9 hu);exact hv x hx u hc
theorem RelM.result[Glo](h:RelM base Xa w0 st a w M)(hb:Below w.heap.size w w'){Xc:Nat->Prop}{r:V}{val:Value}(hres:Res w.heap.size Xc w' r val)
  (hXc:(∀b,Xc b->Xf base Xa w M st.ob b)\/noX r) :
  ∃M',(∀i,i<st.nx->M' i=M i)/\RelM base Xa w0 {st with nx:=st.nx+r.fcells.length,ob:=BY st.nx r.fcells++st.ob} a w' M' /\
   R M' w' (Xf base Xa w' M' (BY st.nx r.fcells++st.ob)) (st.nx+r.fcells.length) (opn st.nx r) val:=by
 let M':Mp:=fun i=>if i<st.nx then M i else(Jk val).getD (i-st.nx) undef
 have hM:∀i,i<st.nx->M' i=M i:=fun i hi=>by simp only[M',if_pos hi]
 obtain⟨hr,hobs,hdist⟩:=hres M' st.nx (fun j _=>by simp only[M'];rw[nG,Nat.add_sub_cancel_left]);have happ:∀id,lookO (BY st.nx r.fcells++st.ob) id=match lookO (BY st.nx r.fcells) id with|some o=>some o|none=>lookO st.ob id:=fun id=>Mv _ _ _ (Ek _ _)
 have hnew:∀id o,lookO (BY st.nx r.fcells) id=some o->st.nx<=id/\id<st.nx+r.fcells.length/\o.fz=false/\∀g,(M' id).ownB=some g->w.heap.size<=g/\g<w'.heap.size:=fun id o ho=>by
  obtain⟨j,e,s,xs,rfl,hj,rfl⟩:=Gn _ _ _ _ ho;refine⟨by omega,by rcases hj with hj|hj<;>(have:=(List.getElem?_eq_some_iff.1 hj).1;omega),rfl,fun g hg=>?_⟩;obtain⟨vals,hrow,_⟩:=(hobs _ _ ho).row;exact hrow.lt g hg
 have hcase:∀id o,lookO (BY st.nx r.fcells++st.ob) id=some o->lookO (BY st.nx r.fcells) id=some o\/(id<st.nx/\lookO st.ob id=some o):=fun id o ho=>by
  rw[happ]at ho;split at ho
  ·rename_i h';simp only[gQ]at ho;subst ho;exact .inl h'
  exact .inr ⟨(h.obs id o ho).1,ho⟩
 have hblk:∀i o',lookO st.ob i=some o'->∀g,(M i).ownB=some g->g<w.heap.size:=fun i o' ho' g hg=>by
  obtain⟨vals,hrow,_⟩:=(h.obs i o' ho').2.row;exact(hrow.lt g hg).2
 have hX:∀b,Xf base Xa w M st.ob b->Xf base Xa w' M' (BY st.nx r.fcells++st.ob) b:=fun b hx=>by
  have hlt:=hx.lt h.xa h.hbase;refine⟨hx.1.imp (fun x=>x) fun h=>⟨h.1,by have:=hb.size;omega⟩,fun id o ho hf=>?_⟩;rcases hcase id o ho with h'|⟨h1,h2⟩
  ·intro e;have:=((hnew id o h').2.2.2 b e).1;omega
  rw[hM id h1];exact hx.2 id o h2 hf
 have hw:∀b,Xf base Xa w M st.ob b->w'.heap[b]? =w.heap[b]? :=fun b hx=>hb.block b (hx.lt h.xa h.hbase);have hXr:(∀b,Xc b->Xf base Xa w M st.ob b)->∀b,Xf w.heap.size Xc w' M' (BY st.nx r.fcells) b->Xf base Xa w' M' (BY st.nx r.fcells++st.ob) b:=fun hXc b hx=>by
  have hbase:=h.hbase;refine⟨?_,fun id o ho hf=>?_⟩
  ·rcases hx.1 with h1|h1
   ·exact(hX b (hXc b h1)).1
   exact .inr ⟨by omega,h1.2⟩
  rcases hcase id o ho with h'|⟨h1,h2⟩
  ·exact hx.2 id o h' hf
  rcases hx.1 with h3|h3
  ·rw[hM id h1];exact(hXc b h3).2 id o h2 hf
  rw[hM id h1];intro e;have:=hblk id o h2 b e;omega
 refine⟨M',hM,⟨h.below.trans (hb.mono h.hbase),iY h.hbase hb.size,h.xa,fun m k v u hv=>(h.gh m k v u hv).mono (g8 _) (fun _ _=>rfl) hX hw,⟨⟨h.pin.1.1,iY h.pin.1.2 (by simp)⟩,fun i hi=>(hM i (Nat.lt_of_lt_of_le hi h.pin.1.2)).trans (h.pin.2 i hi)⟩,h.defers.mono hX hw,h.size,fun t=>(h.tmps t).mono (by simp) hM hX hw,fun id o ho=>?_,?_⟩,?_⟩
 ·rcases hcase id o ho with h'|⟨h1,h2⟩
  ·refine⟨(hnew id o h').2.1,?_⟩;have:=(hobs id o h').lower h.hbase;rcases hXc with hXc|hno
   ·exact this.mono (g8 _) (fun _ _=>rfl) (hXr hXc) (fun _ _=>rfl) (fun _ _=>rfl)
   obtain⟨j,e,s,xs,rfl,hj,rfl⟩:=Gn _ _ _ _ h';rcases hj with hj|hj
   ·exact Pr this (hno _ (g9 hj))
   exact Pr this (hno _ (g9 hj))
  obtain⟨_,h3⟩:=h.obs id o h2;refine⟨by simp only;omega,?_⟩;rw[hM id h1];exact h3.mono (by simp) hM hX hw fun g hg=>hb.block g (hblk id o h2 g hg)
 ·intro id id' o o' g h1 h2 hne hg;rcases hcase id o h1 with h1'|⟨h1',h1''⟩<;>rcases hcase id' o' h2 with h2'|⟨h2',h2''⟩
  ·exact hdist id id' o o' g h1' h2' hne hg
  ·rw[hM id' h2'];intro e;have:=hblk id' o' h2'' g e;have:=((hnew id o h1').2.2.2 g hg).1;omega
  ·rw[hM id h1']at hg;intro e;have:=hblk id o h1'' g hg;have:=((hnew id' o' h2').2.2.2 g e).1;omega
  rw[hM id h1']at hg;rw[hM id' h2'];exact h.dist id id' o o' g h1'' h2'' hne hg
 rcases hXc with hXc|hno
 ·exact hr.mono (g8 _) (fun _ _=>rfl) (hXr hXc) (fun _ _=>rfl)
 exact cV hr hno
end
def Bt[Glo](P:Program)(f:FuncId)(args:List V)(nx:Nat)(ob:List (Nat×Option Ob))(Post:V->Nat->List (Nat×Option Ob)->Prop):Prop :=
 D7 P f=true/\∀(base:Nat)(Xa:Nat->Prop)(w0:W0)(w:World)(M:Mp)(vals:Array Value),RelM base Xa w0 ⟨0,[],nx,ob,nx⟩ ⟨#[],[]⟩ w M->vals.size=args.length ->
  (∀(j:Nat)(u:V),args[j]? =some u->R M w (Xf base Xa w M ob) nx u (vals.getD j undef)) ->
  Calls P f vals w fun e w'=>∃val r nx' ob' M',e=.returned val/\Post r nx' ob'/\RelM base Xa w0 ⟨0,[],nx',ob',nx⟩ ⟨#[],[]⟩ w' M'/\R M' w' (Xf base Xa w' M' ob') nx' r val
theorem RelM.aside[Glo]{base:Nat}{Xa:Nat->Prop}{w0:W0}{st:St}{a:Act}{w:World}{M:Mp}(h:RelM base Xa w0 st a w M):
  RelM base Xa ⟨w0.w,M,fun m n v u=>w0.gh m n v u\/(m=M/\n=st.nx/\∃t,v=lkT st.tmp t/\u=a.tmps.getD t undef),G1 a.defers++w0.mks⟩ ⟨0,[],st.nx,st.ob,st.nx⟩ ⟨#[],[]⟩ w M :=
 ⟨h.below,h.hbase,⟨h.xa.o,Glo.wokA h.xa.k (fun i hi=>h.pin.2 i (Nat.lt_of_lt_of_le hi h.pin.1.1)) (fun _ _ _ _ h=>.inl h)⟩,fun m n v u hv=>by
  rcases hv with hv|⟨rfl,rfl,t,rfl,rfl⟩
  ·exact h.gh m n v u hv
  exact h.tmps t,⟨⟨iY h.pin.1.1 h.pin.1.2,g8 _⟩,fun _ _=>rfl⟩,⟨by simp,by simpa[G1]using h.defers.2⟩,rfl,fun t=>by simp only[lkT];exact .poi _ _,h.obs,h.dist⟩
theorem RelM.again[Glo]{base:Nat}{Xa:Nat->Prop}{w0:W0}{st:St}{a:Act}{w w':World}{M M':Mp}{nx':Nat}{ob':List (Nat×Option Ob)}(h:RelM base Xa w0 st a w M)
  (h':RelM base Xa ⟨w0.w,M,fun m n v u=>w0.gh m n v u\/(m=M/\n=st.nx/\∃t,v=lkT st.tmp t/\u=a.tmps.getD t undef),G1 a.defers++w0.mks⟩ ⟨0,[],nx',ob',st.nx⟩ ⟨#[],[]⟩ w' M') :
  RelM base Xa w0 {st with nx:=nx',ob:=ob'} a w' M' :=
 ⟨h'.below,h'.hbase,h.xa,fun m n v u hv=>h'.gh m n v u (.inl hv),⟨⟨h.pin.1.1,iY h.pin.1.2 h'.pin.1.2⟩,fun i hi=>(h'.pin.2 i (Nat.lt_of_lt_of_le hi h.pin.1.2)).trans (h.pin.2 i hi)⟩,⟨h.defers.1,by simpa[G1]using h'.defers.2⟩,h.size,
  fun t=>(h'.gh M st.nx _ _ (.inr ⟨rfl,rfl,t,rfl,rfl⟩)).mono h'.pin.1.2 (fun i hi=>h'.pin.2 i hi) (fun _ h=>h) (fun _ _=>rfl),h'.obs,h'.dist⟩
end Go.Ab
namespace Go.Ab
open Go.RowKit
def plE(P:Program)(t:TypeId)(i:Nat):Option (Nat×Nat) :=
 match P.underlying t with
 | some (.struct fs)=>match fs[i]? with
  | some fd=>match P.info? fd.type with
   | some inf=>some (fd.offset,inf.size)
   | none=>none
  | none=>none
 | some (.array _ e)=>match P.info? e with
  | some inf=>some (i*inf.size,inf.size)
  | none=>none
 | _=>none
def Be(P:Program)(t:TypeId):Bool :=
 match P.underlying t with
 | some (.struct fs)=>fs.all fun f=>(P.info? f.type).isSome
 | some (.array _ e)=>(P.info? e).isSome
 | _=>false
def HS(s:Nat):Nat->List V->List (List V)
 | 0,_=>[]
 | k+1,l=>l.take s::HS s k (l.drop s)
theorem KO(s:Nat):∀(k:Nat)(l:List V),l.length=k*s->(HS s k l).flatten=l/\(∀x∈HS s k l,x.length=s)/\(HS s k l).length=k
 | 0,l,h=>by simp at h;subst h;simp[HS]
 | k+1,l,h=>by
  rw[Nat.add_mul,Nat.one_mul]at h;obtain⟨h1,h2,h3⟩:=KO s k (l.drop s) (by rw[iE];omega);refine⟨by simp[HS,h1],fun x hx=>?_,by simp[HS,h3]⟩;simp only[HS,List.mem_cons]at hx;rcases hx with rfl|hx
  ·rw[iD];omega
  exact h2 x hx
def YR(st:St)(s:Nat)(x:V):Option (Prop×List (List V)) :=
 match x with
 | .sl sz _ ys=>some (s=sz\/ys=[],ys)
 | .own id=>match lookO st.ob id with
  | some o=>bif o.box then none else some (s=o.sz,o.xs)
  | none=>none
 | .part id sz lo len=>match lookO st.ob id with
  | some o=>bif o.box then none else some (s=o.sz/\s=sz,(o.xs.drop lo).take len)
  | none=>none
 | _=>none
def UI(x:V)(id:Nat):Prop:=match x with|.own id'=>id'≠id|_=>True
def appV(P:Program)(dst:Option Tmp)(t:TypeId)(s x:V)(K:St->Prop)(st:St):Prop :=
 match slE P t with
 | some (e,sz,by_)=>match YR st sz x with
  | some (p,ys)=>p/\(match s with
   | .own id=>match lookO st.ob id with
    | some o=>o.box=false/\o.fz=false/\o.ety=e/\o.sz=sz/\UI x id/\(o.xs.length+ys.length)*by_<=140737488355328/\o.xs.length+ys.length<=maxLen /\
     K ({st with nx:=st.nx+1,ob:=(st.nx,some ⟨e,sz,false,false,o.xs++ys⟩)::(id,none)::st.ob}.put dst (.own st.nx))
    | none=>False
   | .sl sz' tt xs=>(sz'=0\/(sz'=sz/\tt=true/\ys≠[]))/\(xs.length+ys.length)*by_<=140737488355328/\xs.length+ys.length<=maxLen /\
     K ({st with nx:=st.nx+1,ob:=(st.nx,some ⟨e,sz,false,false,xs++ys⟩)::st.ob}.put dst (.own st.nx))
   | .part id sq lo k=>match lookO st.ob id with
    | some o=>o.box=false/\o.fz=false/\o.ety=e/\o.sz=sz/\sq=sz/\lo=0/\k+ys.length<=o.xs.length /\
     K ({st with ob:=(id,some {o with xs:=spl o.xs k ys})::st.ob}.put dst (.part id sz 0 (k+ys.length)))
    | none=>False
   | _=>False)
  | none=>False
 | none=>False
def dstV(st:St)(x:V):Option (Nat×Nat×Nat) :=
 match x with
 | .own id=>match lookO st.ob id with
  | some o=>some (id,0,o.xs.length)
  | none=>none
 | .part id _ lo len=>some (id,lo,len)
 | _=>none
def szOk(x:V)(n:Nat):Prop:=match x with|.part _ sz _ _=>sz=n|_=>True
def copyV(P:Program)(dst:Option Tmp)(t:TypeId)(s x:V)(K:St->Prop)(st:St):Prop :=
 match slE P t with
 | some (_,sz,_)=>match YR st sz x,dstV st s with
  | some (p,ys),some (id,lo,len)=>match lookO st.ob id with
   | some o=>p/\o.box=false/\o.fz=false/\o.sz=sz/\szOk s o.sz/\lo+len<=o.xs.length /\
     K ({st with ob:=(id,some {o with xs:=spl o.xs lo (ys.take len)})::st.ob}.put dst (.int .i64 (min ys.length len:Nat)))
   | none=>False
  | _,_=>False
 | none=>False
def clrV(P:Program)(dst:Option Tmp)(t:TypeId)(s:V)(K:St->Prop)(st:St):Prop :=
 match slE P t with
 | some (e,sz,_)=>match zeroE P e,dstV st s with
  | some z,some (id,lo,len)=>match lookO st.ob id with
   | some o=>o.box=false/\o.fz=false/\o.sz=sz/\szOk s o.sz/\lo+len<=o.xs.length /\
     K ({st with ob:=(id,some {o with xs:=spl o.xs lo (List.replicate len z)})::st.ob}.put dst (.tup []))
   | none=>False
  | _,_=>False
 | none=>False
def byE(P:Program)(e:TypeId):Bool :=
 match P.info? e with
 | some i=>match i.zero with
  | some (.int .u8 0)=>i.size==1&&i.bytes==1
  | _=>false
 | none=>false
def AM(b:List UInt8):List (List V):=b.map fun(c:UInt8)=>[V.int .u8 (c.toNat:Int)]
def appS(P:Program)(dst:Option Tmp)(t t':TypeId)(s x:V)(K:St->Prop)(st:St):Prop :=
 match slE P t,s,x with
 | some (e,sz,_),.own id,.str b=>match lookO st.ob id with
  | some o=>sz=1/\byE P e=true/\Dv P t'=true/\o.box=false/\o.fz=false/\o.ety=e/\o.sz=1/\o.xs.length+b.length<=140737488355328/\o.xs.length+b.length<=maxLen /\
    K ({st with nx:=st.nx+1,ob:=(st.nx,some ⟨e,1,false,false,o.xs++AM b⟩)::(id,none)::st.ob}.put dst (.own st.nx))
  | none=>False
 | _,_,_=>False
def ND:List V->Prop
 | []=>True
 | v::r=>okG v/\ND r
theorem I5:∀{l:List V},ND l->∀v∈l,okG v
 | [],_,v,h=>by simp at h
 | x::l,h,v,hv=>by
  rcases List.mem_cons.1 hv with rfl|hv
  ·exact h.1
  exact I5 h.2 v hv
def C0(nf:Nat)(dst:Option Tmp)(args:List V)(K:St->Prop)(st:St)(r:V):Prop :=
 match nf with
 | _+1=>noX r/\K ({st with nx:=st.nx+r.fcells.length,ob:=BY st.nx r.fcells++st.ob}.put dst (opn st.nx r))
 | 0=>K ({st with nx:=st.nx+r.fcells.length,ob:=BY st.nx r.fcells++fzs (args.flatMap fun v:V=>BJ v.cells) st.ob}.put dst (opn st.nx r))
def BX(dst:Option Tmp)(K:St->Prop)(st:St):V->Nat->List (Nat×Option Ob)->Prop:=fun r nx ob=>K ({st with nx:=nx,ob:=ob}.put dst r)
def Yp:Option (Nat×Nat)->V
 | none=>.nilp
 | some q=>.ptr q.1 q.2 0 0
def Qw[Glo](P:Program)(dst:Option Tmp)(f:V)(args:List V)(K:St->Prop)(st:St):Prop :=
 match f with
 | .fn f=>ND args/\((∃nf r,AC P f ((args.map unG).map (pur st.ob)) r/\C0 nf dst (args.map unG) K st r)\/Bt P f (args.map unG) st.nx st.ob (BX dst K st))
 | .clo f cs=>ND args/\∃nf r,AC P f ((args.map unG).map (pur st.ob)++cs) r/\C0 nf dst (args.map unG) K st r
 | .cap f fs cs=>ND args/\Bt P f (fs.map Yp++(args.map unG++cs.map Yp)) st.nx st.ob (BX dst K st)
 | _=>False
def Vo[Glo](st:St):List Operand->Option (List (Option (Nat×Nat)))
 | []=>some []
 | x::r=>match ev st x,Vo st r with
  | .ptr id sz 0 0,some l=>some (some (id,sz)::l)
  | .nilp,some l=>some (none::l)
  | _,_=>none
def KL[Glo](st:St):List Operand->Option (List Nat×List V)
 | []=>some ([],[])
 | x::r=>match ev st x,KL st r with
  | .ptr id _ 0 0,some (ids,cs)=>match lookO st.ob id with
   | some b=>match b.xs with
    | [row]=>bif b.box&&decide (BJ row=[])then some (id::ids,.iptr (row.map (DT st.ob))::cs)else none
    | _=>none
   | none=>none
  | _,_=>none
def zAg(P:Program)(t:TypeId):Option Bool :=
 match P.info? t with
 | some i=>match i.zero with
  | some (.agg _)=>some true
  | some _=>some false
  | none=>none
 | none=>none
def mpE(P:Program)(t:TypeId):Option (Nat×Bool×List V) :=
 match P.underlying t with
 | some (.map k e)=>match P.underlying k,tyE P e,zeroE P e with
  | some .string,some (n,ag),some z=>bif (bif ag then decide (2<=n)else n==1)&&z.length==n&&zAg P e==some ag then some (n+1,ag,z)else none
  | _,_,_=>none
 | _=>none
def encS(n:Int):List UInt8:=if 0<=n/\n<128 then [UInt8.ofNat n.toNat]else(Utf8.encode n).data.toList
def Ew:List V->Option (List UInt8)
 | .str s::_=>some s
 | _=>none
def II(s:List UInt8):List (List V)->Option Nat
 | []=>none
 | x::r=>if Ew x=some s then some 0 else(II s r).map (·+1)
def mkeys(xs:List (List V)):Prop:=∀x∈xs,(Ew x).isSome=true
def JW(s:List UInt8)(cs:List V)(xs:List (List V)):List (List V) :=
 match II s xs with
 | some i=>xs.set i (.str s::cs)
 | none=>xs++[.str s::cs]
def mget(s:List UInt8)(xs:List (List V)):Option (List V) :=
 match II s xs with
 | some i=>(xs[i]?).map List.tail
 | none=>none
def lkV(ag ok:Bool)(z:List V)(r:Option (List V)):V :=
 match r with
 | some cs=>bif ok then .tup [mkV ag cs,.bool true]else mkV ag cs
 | none=>bif ok then .tup [mkV ag z,.bool false]else mkV ag z
def isSt:V->Bool
 | .st _=>true
 | _=>false
def Z6(s:List UInt8)(pos:Nat):Nat×Nat:=Utf8.decode ⟨s.toArray⟩ pos
def nxV(s:List UInt8)(pos:Nat):V:=if pos<s.length then .tup [.bool true,.int .i64 pos,.int .i32 (Z6 s pos).1]else .tup [.bool false]
def nxP(s:List UInt8)(pos:Nat):Nat:=if pos<s.length then pos+(Z6 s pos).2 else pos
def zc:Operand->Bool
 | .const (.int _ z)=>z==0
 | _=>false
def dG(N k:Nat)(l h m:Option Int):Prop:=0<=l.getD 0/\l.getD 0<=h.getD k/\h.getD k<=N/\k<=N/\∀z,m=some z->h.isSome=true/\h.getD k<=z/\z<=N
def Vq(P:Program)(dst:Option Tmp)(t:TypeId)(id lo0 k:Nat)(b:Ob)(lo hi mx:Option (Option Int))(K:St->Prop)(st:St):Prop :=
 match slE P t,lo,hi,mx with
 | some (_,sz,_),some l,some h,some m=>b.box=false/\b.sz=sz/\lo0=0/\dG b.xs.length k l h m /\
   K (st.put dst (bif m.isSome||b.xs.isEmpty then .poi else .part id sz (l.getD 0).toNat (h.getD k-l.getD 0).toNat))
 | _,_,_,_=>False
def updV(dst:Option Tmp)(id:Nat)(s:List UInt8)(v:V)(cs:List V)(b:Ob)(K:St->Prop)(st:St):Prop :=
 bif b.box then(match v with
  | .part id2 sz2 lo len=>match lookO st.ob id2 with
   | some o2=>id≠id2/\o2.box=false/\o2.fz=false/\lo+len=o2.xs.length/\lo<o2.xs.length/\sz2=o2.sz/\o2.ety≠5 /\
     K ({st with nx:=st.nx+1,ob:=(id,some {b with xs:=JW s [.own st.nx] b.xs})::(st.nx,some ⟨o2.ety,o2.sz,false,false,o2.xs.drop lo⟩)::(id2,none)::st.ob}.put dst .poi)
   | none=>False
  | _=>K ({st with ob:=(id,some {b with xs:=JW s cs b.xs})::st.ob}.put dst .poi))
 else BJ cs=[]/\K ({st with ob:=(id,some {b with xs:=JW s (cs.map (DT st.ob)) b.xs})::st.ob}.put dst .poi)
def Po(s:List UInt8)(xs:List (List V)):List (List V) :=
 match II s xs with
 | some i=>xs.eraseIdx i
 | none=>xs
def delV(P:Program)(dst:Option Tmp)(t:TypeId)(m k:V)(K:St->Prop)(st:St):Prop :=
 match mpE P t,m,k with
 | some (sz,_,_),.omap id,.str s=>match lookO st.ob id with
  | some b=>b.fz=false/\b.sz=sz/\mkeys b.xs/\K ({st with ob:=(id,some {b with xs:=Po s b.xs})::st.ob}.put dst (.tup []))
  | none=>False
 | _,_,_=>False
def opV[Glo](P:Program)(o:Oper)(K:St->Prop)(st:St):Prop :=
 match pv P st o.op with
 | some (p,v)=>p/\K (st.put o.dst v)
 | none=>match o.op with
  | .alloc t=>match zeroE P t with
   | some cs=>K ({st with nx:=st.nx+1,ob:=(st.nx,some ⟨t,cs.length,true,false,[cs]⟩)::st.ob}.put o.dst (.ptr st.nx cs.length 0 0))
   | none=>False
  | .box t x=>match Ez (ev st x)with
   | some cs=>K ({st with nx:=st.nx+1,ob:=(st.nx,some ⟨t,cs.length,true,false,[cs]⟩)::st.ob}.put o.dst (.ptr st.nx cs.length 0 0))
   | none=>False
  | .store t x y=>match tyE P t,ev st x,Ez (ev st y)with
   | some (m,_),.ptr id sz i off,some ds=>match lookO st.ob id with
    | some b=>b.fz=false/\sz=b.sz/\i<b.xs.length/\off+m<=sz/\ds.length=m /\
      (if b.box=true then K ({st with ob:=(id,some {b with xs:=b.xs.set i (spl (b.xs.getD i []) off ds)})::st.ob}.put o.dst .poi)
       else id∉BJ ds/\K ({st with ob:=(id,some {b with xs:=b.xs.set i (spl (b.xs.getD i []) off (ds.map (DT st.ob)))})::fzs (BJ ds) st.ob}.put o.dst .poi))
    | none=>False
   | _,_,_=>False
  | .build t parts=>match zeroE P t with
   | some zs=>match EO st (plE P t) zs parts.toList with
    | some cs=>Be P t=true/\K (st.put o.dst (.st cs))
    | none=>False
   | none=>False
  | .buildSlice t len parts=>match slE P t with
   | some (e,sz,_)=>match zeroE P e with
    | some zs=>match EO st (fun i=>some (i*sz,sz)) (List.replicate len zs).flatten parts.toList with
     | some cs=>len*sz<=16777216/\K ({st with nx:=st.nx+1,ob:=(st.nx,some ⟨e,sz,false,false,HS sz len (cs.map (DT st.ob))⟩)::fzs (BJ cs) st.ob}.put o.dst (.own st.nx))
     | none=>False
    | none=>False
   | none=>False
  | .slice t x lo hi mx=>match ev st x with
   | .own id=>match lookO st.ob id with
    | some b=>if Glo.prt t=true then Vq P o.dst t id 0 b.xs.length b (Bn st lo) (Bn st hi) (Bn st mx) K st else match slcV P t (.sl b.sz false b.xs) (Bn st lo) (Bn st hi) (Bn st mx)with
     | some (p,v)=>p/\b.box=false/\K ({st with ob:=fz1 st.ob id}.put o.dst v)
     | none=>False
    | none=>False
   | .part id sq lo0 k=>match lookO st.ob id with
    | some b=>sq=b.sz/\Vq P o.dst t id lo0 k b (Bn st lo) (Bn st hi) (Bn st mx) K st
    | none=>False
   | .ptr id _ 0 0=>match lookO st.ob id,arE P t,Bn st lo,hi,mx with
    | some b,some (len,1,_),some l,none,none=>match b.xs with
     | [cs]=>b.box=true/\len<=maxLen/\0<=l.getD 0/\l.getD 0<=len/\cs.length=len/\BJ cs=[] /\
       K ({st with ob:=fz1 st.ob id}.put o.dst (.sl 1 false (((cs.map (DT st.ob)).drop (l.getD 0).toNat).map fun c=>[c])))
     | _=>False
    | _,_,_,_,_=>False
   | _=>False
  | .binOp op t x y _=>match op,ev st x,y with
   | .eql,.sl _ _ xs,.const (.slice none 0 0)=>(slE P t).isSome=true/\∀b:Bool,(b=true->xs=[])->K (st.put o.dst (.bool b))
   | _,_,_=>False
  | .convert s d x=>match ev st x,slE P d with
   | .str b,some (e,_,_)=>Dv P s=true/\bsE P d=true/\b.length<=maxLen /\
     K ({st with nx:=st.nx+1,ob:=(st.nx,some ⟨e,1,false,false,AM b⟩)::st.ob}.put o.dst (.own st.nx))
   | .int _ n,none=>Dv P d=true/\K (st.put o.dst (.str (encS n)))
   | _,_=>False
  | .makeFunc fn first caps=>match fn with
   | .func f=>if Glo.capt f=true then(match Vo st first.toList,Vo st caps.toList with
     | some fs,some cs=>K (st.put o.dst (.cap f fs cs))
     | _,_=>False)
    else(match KL st caps.toList with
     | some (ids,cs)=>first=#[]/\K ({st with ob:=fzs ids st.ob}.put o.dst (.clo f cs))
     | none=>False)
   | _=>False
  | .call c=>match c.callee with
   | .value f=>Qw P o.dst (ev st f) (c.args.toList.map (ev st)) K st
   | .builtin .append=>match c.args.toList,c.argTypes.toList with
    | [s,x],[t,t']=>if t=t' then appV P o.dst t (ev st s) (ev st x) K st else appS P o.dst t t' (ev st s) (ev st x) K st
    | _,_=>False
   | .builtin .copy=>match c.args.toList,c.argTypes.toList with
    | [s,x],[t,_]=>copyV P o.dst t (ev st s) (ev st x) K st
    | _,_=>False
   | .builtin .delete=>match c.args.toList,c.argTypes.toList with
    | [m,k],[t,_]=>delV P o.dst t (ev st m) (ev st k) K st
    | _,_=>False
   | .builtin .clear=>match c.args.toList,c.argTypes.toList with
    | [s],[t]=>clrV P o.dst t (ev st s) K st
    | _,_=>False
   | _=>False
  | .makeMap t none=>match mpE P t with
   | some (sz,_,_)=>K ({st with nx:=st.nx+1,ob:=(st.nx,some ⟨t,sz,Glo.mbx t,false,[]⟩)::st.ob}.put o.dst (.omap st.nx))
   | none=>False
  | .mapUpdate t m k x|.insert t m k x=>match mpE P t,ev st m,ev st k,Ez (ev st x)with
   | some (sz,ag,_),.omap id,.str s,some cs=>match lookO st.ob id with
    | some b=>b.fz=false/\b.sz=sz/\cs.length+1=sz/\isSt (ev st x)=ag/\mkeys b.xs/\updV o.dst id s (ev st x) cs b K st
    | none=>False
   | _,_,_,_=>False
  | .lookup t m k ok=>match mpE P t,ev st k with
   | some (sz,ag,z),.str s=>match ev st m with
    | .omap id=>match lookO st.ob id with
     | some b=>b.sz=sz/\mkeys b.xs/\K (st.put o.dst (lkV ag ok z (mget s b.xs)))
     | none=>False
    | .mp sz' xs=>sz'=sz/\mkeys xs/\K (st.put o.dst (lkV ag ok z (mget s xs)))
    | _=>False
   | _,_=>False
  | .range t x=>match ev st x with
   | .str s=>Dv P t=true/\K ({st with nx:=st.nx+1,ob:=(st.nx,some ⟨0,2,false,false,[[.str s,.int .i64 0]]⟩)::st.ob}.put o.dst (.itr st.nx))
   | _=>False
  | .next it true=>match ev st it with
   | .itr id=>match lookO st.ob id with
    | some b=>match b.xs with
     | [[.str s,.int .i64 pos]]=>b.box=false/\b.fz=false/\b.sz=2/\0<=pos /\
       K ({st with ob:=(id,some {b with xs:=[[.str s,.int .i64 (nxP s pos.toNat)]]})::st.ob}.put o.dst (nxV s pos.toNat))
     | _=>False
    | none=>False
   | _=>False
  | .makeSlice t l c=>match slE P t,ev st l,ev st c with
   | some (e,sz,by_),.int _ n,.int _ m=>match zeroE P e with
    | some z=>if zc l=true then n=0/\0<=m/\m<=maxLen/\by_*m.toNat<=281474976710656 /\
       K ({st with nx:=st.nx+1,ob:=(st.nx,some ⟨e,sz,false,false,[]⟩)::st.ob}.put o.dst (.own st.nx))
      else m=n/\0<=n/\n<=maxLen/\by_*n.toNat<=281474976710656/\n.toNat*sz<=16777216 /\
      K ({st with nx:=st.nx+1,ob:=(st.nx,some ⟨e,sz,false,false,List.replicate n.toNat z⟩)::st.ob}.put o.dst (.own st.nx))
    | none=>False
   | _,_,_=>False
  | _=>False
def okO(P:Program)(n:Nat)(o:Oper):Bool :=
 (match o.dst with|some d=>decide (d<n)|none=>true)&&(match o.op with|.convert s _ _=>(P.underlying s).isSome|_=>true)
def IX(st:St):List Operand->St
 | []=>st
 | .tmp t::r=>match lkT st.tmp t with
  | .gd _ v=>{IX st r with tmp:=(t,v)::(IX st r).tmp}
  | _=>IX st r
 | _::r=>IX st r
def Gp(st:St):List Operand->Prop
 | []=>True
 | .tmp t::r=>okG (lkT st.tmp t)/\Gp st r
 | _::r=>Gp st r
def uniV[Glo](P:Program)(o:Oper)(b want:Bool)(K:St->Prop)(st:St)(r:V):Prop :=
 match o.op with
 | .call c=>match c.callee with
  | .value f=>match ev st f with
   | .fn f=>(b=want->ND (c.args.toList.map (ev st))/\AC P f (((c.args.toList.map (ev st)).map unG).map (pur st.ob)) r)/\BY st.nx r.fcells=[] /\
     K ({st with nx:=st.nx+r.fcells.length,ob:=fzs (((c.args.toList.map (ev st)).map unG).flatMap fun v:V=>BJ v.cells) st.ob}.put o.dst (.gd (b==want) (opn st.nx r)))
   | _=>False
  | _=>False
 | _=>False
def K1[Glo](P:Program)(o:Oper)(b want:Bool)(K:St->Prop)(st:St):Prop :=
 ((b=want->opV P o K st)/\(b=!want->K (st.put o.dst .poi)))\/∃r,uniV P o b want K st r
def Gf(op:Op):List Operand:=match op with|.pick c _ _=>[c]|op=>op.operands.toList
def gdV(v:V)(want:Bool):Option (Bool×Bool) :=
 match v with
 | .bool b=>some (b,want)
 | .gd c (.bool b)=>some (c&&(b==want),true)
 | _=>none
def slotsOf(ops:List Oper):List (Option Tmp):=ops.map (·.dst)
theorem Jc(ops:List Oper)(j:Nat):((slotsOf ops)[j]?).join=(ops[j]?).bind (·.dst):=by
 simp only[slotsOf,iG];cases ops[j]? <;>rfl
def Ll[Glo](P:Program)(ops:List (Option Tmp))(o:Oper)(K:St->Prop)(st:St):Prop :=
 match o.guard with
 | none=>opV P o K st
 | some (j,want)=>match(ops[j]?).join with
  | some d=>match gdV (lkT st.tmp d) want with
   | some (b,want)=>match pv P (IX st (Gf o.op)) o.op with
    | some (p,v)=>(b=want->p/\Gp st (Gf o.op))/\K (st.put o.dst (.gd (b==want) v))
    | none=>match o.op with
     | .call _=>K1 P o b want K st
     | _=>(b=want->Gp st (Gf o.op)/\opV P o K (IX st (Gf o.op)))/\(b=!want->K (st.put o.dst .poi))
   | none=>False
  | none=>False
def Px[Glo](P:Program)(ops:List (Option Tmp)):List Oper->(St->Prop)->St->Prop
 | [],K,st=>K st
 | o::r,K,st=>Ll P ops o (Px P ops r K) st
end Go.Ab
namespace Go.Ab
open Go.RowKit
theorem JM(ob:List (Nat×Option Ob))(id i:Nat):lookO (fz1 ob id) i=if i=id then(lookO ob id).map (fun o=>{o with fz:=true})else lookO ob i:=by
 unfold fz1;split
 ·rename_i o h;simp only[lookO];split
  ·rw[h];rfl
  rfl
 rename_i h;split
 ·rename_i e;subst e;rw[h];rfl
 rfl
theorem Ce[Glo]:∀(ids:List Nat)(ob:List (Nat×Option Ob))(i:Nat),lookO (fzs ids ob) i=if i∈ids then(lookO ob i).map (fun o=>{o with fz:=true})else lookO ob i
 | [],ob,i=>by simp[fzs]
 | id::ids,ob,i=>by
  have:fzs (id::ids) ob=fzs ids (fz1 ob id):=rfl;rw[this,Ce ids,JM];by_cases h1:i=id
  ·subst h1;by_cases h2:i∈ids
   ·simp only[h2,if_true,List.mem_cons,or_true,Option.map_map];congr 1
   simp[h2]
  by_cases h2:i∈ids<;>simp[h1,h2]
theorem Fl:∀(cs:List V)(id:Nat),(V.own id∈cs\/V.omap id∈cs)->id∈BJ cs
 | [],id,h=>by simp at h
 | c::r,id,h=>by
  have h:(c=.own id\/c=.omap id)\/(V.own id∈r\/V.omap id∈r):=by
   rcases h with h|h<;>rcases List.mem_cons.1 h with h|h
   ·exact .inl (.inl h.symm)
   ·exact .inr (.inl h)
   ·exact .inl (.inr h.symm)
   exact .inr (.inr h)
  rcases h with h|h
  ·rcases h with h|h<;>(subst h;simp[BJ])
  have:=Fl r id h;cases c<;>simp only[BJ]<;>first|exact this|exact gW _ this
section
variable {P:Program} {base:Nat} {Xa:Nat->Prop} {w0:W0} {w w':World} {st:St} {a:Act} {M M':Mp} {X X':Nat->Prop} {n n':Nat}
theorem RelM.fz[Glo](h:RelM base Xa w0 st a w M)(ids:List Nat):RelM base Xa w0 {st with ob:=fzs ids st.ob} a w M:=by
 refine h.sub fun id o ho=>?_;rw[Ce]at ho;split at ho
 ·obtain⟨o',h1,h2⟩:=Option.map_eq_some_iff.1 ho;subst h2;exact⟨o'.fz,h1,fun h=>by cases h⟩
 exact⟨o.fz,ho,fun h=>h⟩
theorem Cs.pur[Glo]{cs:List V}{us:List Value}(h:RelM base Xa w0 st a w M)(hc:Cs M w (Xf base Xa w M st.ob) st.nx cs us):Cs M w (Xf base Xa w M (fzs (BJ cs) st.ob)) 0 (cs.map (DT st.ob)) us:=by
 have hX:∀b,Xf base Xa w M st.ob b->Xf base Xa w M (fzs (BJ cs) st.ob) b:=fun b hx=>⟨hx.1,fun id o ho hf=>by
  rw[Ce]at ho;split at ho
  ·obtain⟨o',h1,h2⟩:=Option.map_eq_some_iff.1 ho;subst h2;cases hf
  exact hx.2 id o ho hf⟩
 refine⟨by simpa using hc.len,hc.one,fun j c hj=>?_⟩;rw[iG]at hj;obtain⟨v,hv,rfl⟩:=Option.map_eq_some_iff.1 hj;refine NI (hc.rel j v hv) (fun id o ho=>(h.obs id o ho).2) hX fun id o g hown ho hg=>?_;have hmem:id∈BJ cs:=Fl cs id (by
  rcases hown with rfl|rfl
  ·exact .inl (g9 hv)
  exact .inr (g9 hv))
 obtain⟨vals,hrow,_⟩:=(h.obs id o ho).2.row;have hb:=hrow.lt g hg;refine⟨.inr hb,fun id' o' ho' hf' e=>?_⟩;rw[Ce]at ho';split at ho'
 ·obtain⟨o'',h1,h2⟩:=Option.map_eq_some_iff.1 ho';subst h2;cases hf'
 rename_i hni;exact h.dist id' id o' o g ho' ho (fun e=>hni (e▸hmem)) e hg
theorem Hj[Glo]{t:TypeId}{cs:List V}(h:zeroE P t=some cs):∃i z,P.info? t=some i/\i.zero=some z/\Cs M w X n cs z.cells.toList:=by
 unfold zeroE at h;split at h
 ·rename_i i hi;split at h
  ·rename_i z hz;cases hall:z.cells.all (·.oneCell')with
   | false=>simp[hall]at h
   | true =>
    simp only[hall,cond_true,gQ]at h;subst h;refine⟨i,z,hi,hz,by simp,fun u hu=>?_,fun j c hc=>?_⟩
    ·rw[Array.all_eq_true']at hall;exact hall u (by simpa using hu)
    rw[iG]at hc;obtain⟨v,hv,rfl⟩:=Option.map_eq_some_iff.1 hc;rw[gP,hv];exact cR v
  simp at h
 simp at h
theorem RelM.box[Glo](h:RelM base Xa w0 st a w M)(t:TypeId){cs:List V}{cur:Array Value}(hc:Cs M w (Xf base Xa w M st.ob) st.nx cs cur.toList){dst:Option Tmp}(hd:∀d,dst=some d->d<st.n):
  ∃M',RelM base Xa w0 ({st with nx:=st.nx+1,ob:=(st.nx,some ⟨t,cs.length,true,false,[cs]⟩)::st.ob}.put dst (.ptr st.nx cs.length 0 0)) (a.put dst (.pointer (some ⟨w.heap.size,0,none⟩))) (w.alloc (.cells cur t)) M':=by
 have hl:cur.size=cs.length:=by rw[hc.len];simp
 obtain⟨M',hM,hn,hR⟩:=h.alloc ⟨t,cs.length,true,false,[cs]⟩ cur 1 (fun h=>by cases h) (by simp) (by simp) (by simp[maxLen]) (by simp[hl]) (fun u hu=>hc.one u (by simpa using hu)) (fun j u hu=>by
  have:=hc.rel j u (by simpa using hu);simpa[gZ,gP]using this)
 exact⟨M',hR.put hd (.ptr _ _ _ _ _ w.heap.size _ (by simp) (by rw[hn];rfl) (by rw[hn];simp[Value.offB]))⟩
theorem Il{id sz lo len:Nat}{u:Value}{M:Mp}{w:World}{X:Nat->Prop}{n:Nat}(h:R M w X n (.part id sz lo len) u):∃g O N cap,M id=.slice (some ⟨g,O,none⟩) N cap/\lo+len<=N/\u=.slice (some ⟨g,if cap=lo then O else O+lo*sz,none⟩) len (cap-lo):=by
 cases h with
 | part _ _ _ _ _ g O N cap hid hv hl=>exact⟨g,O,N,cap,hv,hl,rfl⟩
theorem FI{s:Nat}:∀(xs:List (List V))(_:∀x∈xs,x.length=s){lo len:Nat},((xs.drop lo).take len).flatten=(xs.flatten.drop (lo*s)).take (len*s)
 | [],_,lo,len=>by simp
 | x::xs,h,lo,len=>by
  have hx:=h x (g7 ..);have ih:=fun lo len=>FI xs (fun y hy=>h y (gW _ hy)) (lo:=lo) (len:=len);cases lo with
  | succ lo =>
   rw[List.drop_succ_cons,ih,List.flatten_cons,Nat.add_mul,Nat.one_mul,Nat.add_comm (lo*s) s,<- List.drop_drop,List.drop_append_of_le_length (by omega),List.drop_of_length_le (l:=x) (by omega),jA]
  | zero =>
   cases len with
   | zero=>simp
   | succ len =>
    have:=ih 0 len;simp only[List.drop_zero,Nat.zero_mul]at this ⊢;rw[List.take_succ_cons,List.flatten_cons,List.flatten_cons,this,Nat.add_mul,Nat.one_mul,Nat.add_comm (len*s) s,<- hx,List.take_length_add_append]
theorem src_R[Glo](h:RelM base Xa w0 st a w M){s:Nat}{x:V}{u:Value}{p:Prop}{ys:List (List V)}(hs:YR st s x=some (p,ys))(hp:p)(hx:R M w (Xf base Xa w M st.ob) st.nx x u):
  ∃(A:Option Addr)(c:Nat)(news:List Value),u=.slice A ys.length c/\news.length=ys.length*s/\(∀x∈news,x.oneCell'=true)/\(ys≠[]->∀y∈ys,y.length=s) /\
   (0<ys.length->∃ad,A=some ad/\∀j v,news[j]? =some v->w.cell? (ad.add j)=some v)/\(A=none->ys=[]) /\
   ∀(j:Nat)(v:V),ys.flatten[j]? =some v->R M w (Xf base Xa w M st.ob) 0 v (news.getD j undef):=by
 unfold YR at hs;split at hs
 ·rename_i sz tt ys';simp only[gQ,Prod.mk.injEq]at hs;obtain⟨rfl,rfl⟩:=hs;obtain⟨A,c,f,hu,hlc,hm,ht,hnil,hl,hA,hr⟩:=SH hx;rcases Nat.eq_zero_or_pos ys'.length with h0|h0
  ·have:ys'=[]:=iF h0;subst this;exact⟨A,c,[],hu,by simp,by simp,fun h=>absurd rfl h,fun h=>absurd h (by simp),fun _=>rfl,fun j v hv=>by simp at hv⟩
  have hsz:s=sz:=by
   rcases hp with h|h
   ·exact h
   subst h;simp at h0
  subst hsz;obtain⟨ad,rfl,hX,hc⟩:=hA h0;refine⟨some ad,c,(List.range (ys'.length*s)).map f,hu,by simp,?_,fun _=>hl,fun _=>⟨ad,rfl,fun j v hv=>?_⟩,(fun h=>by cases h),fun j v hv=>?_⟩
  ·intro x hx';simp only[List.mem_map,List.mem_range]at hx';obtain⟨j,hj,rfl⟩:=hx';exact(hc j hj).2
  ·rw[iG]at hv;obtain⟨k,hk,rfl⟩:=Option.map_eq_some_iff.1 hv;obtain⟨hk1,hk2⟩:=List.getElem?_eq_some_iff.1 hk;simp at hk1 hk2;subst hk2;exact(hc j hk1).1
  have:=hr j v hv;have hj:j<ys'.length*s:=by
   have:=(List.getElem?_eq_some_iff.1 hv).1;rwa[Bu _ hl]at this
  simpa[gP,hj]using this
 ·rename_i id;split at hs
  ·rename_i o ho;cases hb:o.box with
   | true=>simp[hb]at hs
   | false =>
    simp only[hb,cond_false,gQ,Prod.mk.injEq]at hs;obtain⟨rfl,rfl⟩:=hs;subst hp;obtain⟨_,hok⟩:=h.obs id o ho;obtain⟨vals,hrow,h1,hr⟩:=hok.row;obtain⟨_,hv⟩:=Ik hx;simp only[hb,iR,if_false]at hr;rcases hrow.sl (EJ hx)with⟨hnil,h2⟩|⟨g,O,cap,cur,hval,_⟩
    ·have:o.xs=[]:=iF h2;refine⟨none,0,vals,by rw[<- hv,hnil,h2],hrow.1,h1,fun _=>hok.len,fun h=>by omega,fun _=>this,hr⟩
    refine⟨some ⟨g,O,none⟩,cap,vals,by rw[<- hv,hval],hrow.1,h1,fun _=>hok.len,fun _=>⟨_,rfl,by have:=hrow.cells (g:=g) (by rw[hval];rfl);rwa[show(M id).offB=O by rw[hval];rfl]at this⟩,(fun h=>by cases h),hr⟩
  simp at hs
 ·rename_i id sz lo len;split at hs
  ·rename_i o ho;cases hb:o.box with
   | true=>simp[hb]at hs
   | false =>
    simp only[hb,cond_false,gQ,Prod.mk.injEq]at hs;obtain⟨rfl,rfl⟩:=hs;obtain⟨rfl,hsz'⟩:=hp;obtain⟨_,hok⟩:=h.obs id o ho;obtain⟨vals,hrow,h1,hr⟩:=hok.row;simp only[hb,iR,if_false]at hr;obtain⟨g,O,N,cap,hv,hl,rfl⟩:=Il hx;have hN:N=o.xs.length/\N<=cap:=by
     rcases hrow.sl ⟨_,_,_,hv⟩with⟨hnil,h2⟩|⟨g',O',cap',cur,hval,_,_,hnc,_⟩
     ·rw[hv]at hnil;simp at hnil
     rw[hv]at hval;simp only[Value.slice.injEq]at hval;exact⟨hval.2.1,by rw[hval.2.1,hval.2.2];exact hnc⟩
    obtain⟨rfl,hNc⟩:=hN;have hyl:((o.xs.drop lo).take len).length=len:=by rw[iD,iE];omega
    have hmul:lo*o.sz+len*o.sz<=vals.length:=by rw[hrow.1,<- Nat.add_mul];exact iW _ hl
    refine⟨some ⟨g,if cap=lo then O else O+lo*sz,none⟩,cap-lo,(vals.drop (lo*o.sz)).take (len*o.sz),by rw[hyl],by rw[hyl,iD,iE];omega,
     fun u hu=>h1 u (List.mem_of_mem_drop (i5 hu)),fun _ y hy=>hok.len y (List.mem_of_mem_drop (i5 hy)),fun h0=>⟨_,rfl,fun j v hj=>?_⟩,(fun h=>by cases h),fun j v hj=>?_⟩
    ·rw[hyl]at h0;rw[nG,<- hsz'];rw[iL]at hj;split at hj
     ·rw[iP]at hj;have:=hrow.cells (g:=g) (by rw[hv];rfl) _ _ hj;rw[show(M id).offB=O by rw[hv];rfl]at this;have e1:(⟨g,O,none⟩:Addr).add (lo*o.sz+j)=⟨g,O+(lo*o.sz+j),none⟩:=Addr.add_lit _ _ _;have e2:(⟨g,O+lo*o.sz,none⟩:Addr).add j=⟨g,O+(lo*o.sz+j),none⟩:=by rw[Addr.add_lit,Nat.add_assoc]
      rw[e1]at this;rw[e2];exact this
     cases hj
    rw[FI o.xs hok.len,iL]at hj;split at hj
    ·rename_i hjl;rw[iP]at hj;have:=hr _ _ hj;rw[gP,iL,if_pos hjl,iP,<- gP];exact this
    cases hj
  simp at hs
 simp at hs
theorem run_append_nil{t ty e:TypeId}{i:TypeInfo}{size:Nat}(ht:P.underlying t=some (.slice e))(hi:P.info? e=some i)
  {v:Value} {len:Nat} {xs:List Value} (hown:w.ownsG base e size v len xs) (hslv:∃A l c,v=.slice A l c) (c:Nat):(Builtin.append_ #[t,t] ty #[v,.slice none 0 c]).run P w=.ok v w:=by
 rcases hown.sl hslv with⟨rfl,rfl⟩|⟨g,O,cap,cur,rfl,_,_,hnc,_⟩
 ·simp[Builtin.append_,run_underlying ht,sizeOf,typeInfo,hi,Builtin.lenOf,Builtin.firstCells]
 simp[Builtin.append_,run_underlying ht,sizeOf,typeInfo,hi,Builtin.lenOf,Builtin.firstCells,hnc,storeCells]
theorem EL[Glo]{t ty e:TypeId}{i:TypeInfo}{z:Value}{size bytes:Nat}(ht:P.underlying t=some (.slice e))(hi:P.info? e=some i)(hz:i.zero=some z)
  (hsize:i.size=size) (hby:i.bytes=bytes) (hzs:z.cells.size=size) (hsz:0<size) {v:Value} {len:Nat} {xs:List Value} (hown:w.ownsG base e size v len xs) (hslv:∃A l c,v=.slice A l c)
  {A:Option Addr} {m c:Nat} {news:List Value} (hl:news.length=m*size) (hA:0<m->∃ad,A=some ad/\∀j v,news[j]? =some v->w.cell? (ad.add j)=some v) (hAn:A=none->m=0)
  (h1:∀u∈news,u.oneCell'=true) (h63:len+m<=maxLen) (hbytes:(len+m)*bytes<=140737488355328) (hbase:base<=w.heap.size) :
  ∃v' w',(Builtin.append_ #[t,t] ty #[v,.slice A m c]).run P w=.ok v' w'/\w'.ownsG base e size v' (len+m) (xs++news)/\w.grownBy w' v.ownBlock/\(v'.ownBlock=v.ownBlock\/v'.ownBlock=some w.heap.size)/\(v'.offB=0\/v'.offB=v.offB)/\∃A l c,v'=.slice A l c:=by
 cases A with
 | none =>
  have hm:=hAn rfl;subst hm;have hn:news=[]:=iF (by simpa using hl);subst hn;exact⟨v,w,run_append_nil ht hi hown hslv c,by simpa using hown,World.grownBy.refl w _,.inl rfl,.inr rfl,hslv⟩
 | some ad =>
  obtain⟨v',w',hrun,h2,h3,h5⟩:=NX (P:=P) w base t ty e i z size bytes ht hi hz hsize hby hzs hsz v len xs hown hslv ad m c news hl (fun j u hu=>by
   have hm:0<m:=by
    have:=(List.getElem?_eq_some_iff.1 hu).1;rw[hl]at this;exact Nat.pos_of_ne_zero (fun h=>by subst h;simp at this)
   obtain⟨ad',he,hc⟩:=hA hm;simp only[gQ]at he;subst he;exact hc j u hu) h1 h63 hbytes hbase
  exact⟨v',w',hrun,h2,h3,h5⟩
end
end Go.Ab
namespace Go.Ab
open Go.RowKit
section
variable {P:Program} {base:Nat} {Xa:Nat->Prop} {w0:W0} {w w':World} {st:St} {a:Act} {M M':Mp} {X X':Nat->Prop} {n n':Nat} {K:St->Prop} {Q:Exit->Act->World->Prop}
def Nx[Glo](base:Nat)(Xa:Nat->Prop)(w0:W0)(m:Nat)(K:St->Prop)(a:Act)(w:World):Prop:=∃st,st.n=m/\K st/\Rel base Xa w0 st a w
theorem dI(st:St)(d:Option Tmp)(v:V):(st.put d v).n=st.n:=by cases d<;>rfl
theorem Nx.of[Glo]{s:St}{d:Option Tmp}{v:V}(hK:K (s.put d v))(h:RelM base Xa w0 (s.put d v) a w M)(hn:s.n=n):Nx base Xa w0 n K a w:=⟨_,by rw[dI];exact hn,hK,M,h⟩
theorem AU{o:Oper}{u:Value}(h:(execOp a.eval o).run P w=.ok (.value u) w'){N:Act->World->Prop}(hN:N (a.put o.dst u) w'):o.wp P a w N Q:=by
 unfold Oper.wp;rw[h];exact hN
theorem E9{o:Oper}(h:(execOp a.eval o).run P w=.ok .skip w'){N:Act->World->Prop}(hN:N (a.put o.dst undef) w'):o.wp P a w N Q:=by
 unfold Oper.wp;rw[h];exact hN
theorem Np[Glo]{o:Oper}{t:TypeId}(ho:o.op=.alloc t){cs:List V}(hz:zeroE P t=some cs)(hd:∀d,o.dst=some d->d<st.n)(hR:RelM base Xa w0 st a w M)
  (hK:K ({st with nx:=st.nx+1,ob:=(st.nx,some ⟨t,cs.length,true,false,[cs]⟩)::st.ob}.put o.dst (.ptr st.nx cs.length 0 0))):o.wp P a w (Nx base Xa w0 st.n K) Q:=by
 obtain⟨i,z,hi,hiz,hcs⟩:=Hj (P:=P) (M:=M) (w:=w) (X:=Xf base Xa w M st.ob) (n:=st.nx) hz;obtain⟨M',hM'⟩:=hR.box t hcs hd;refine AU (u:=.pointer (some ⟨w.heap.size,0,none⟩)) (w':=w.alloc (.cells z.cells t)) ?_ (Nx.of hK hM' rfl);unfold execOp;simp[ho,Instr.alloc,zeroValue,typeInfo,hi,hiz,newVar,newRow,newObj,Sem.run]
theorem Sj[Glo]{o:Oper}{t:TypeId}{x:Operand}(ho:o.op=.box t x){cs:List V}(hc:Ez (ev st x)=some cs)(hd:∀d,o.dst=some d->d<st.n)(hR:RelM base Xa w0 st a w M)
  (hK:K ({st with nx:=st.nx+1,ob:=(st.nx,some ⟨t,cs.length,true,false,[cs]⟩)::st.ob}.put o.dst (.ptr st.nx cs.length 0 0))):o.wp P a w (Nx base Xa w0 st.n K) Q:=by
 have hcs:=KF hc (CU hR.rx x);obtain⟨M',hM'⟩:=hR.box t hcs hd;refine AU (u:=.pointer (some ⟨w.heap.size,0,none⟩)) (w':=w.alloc (.cells (a.eval x).cells t)) ?_ (Nx.of hK hM' rfl);unfold execOp;simp[ho,Instr.box,newVar,newRow,newObj,Sem.run]
theorem VU[Glo]{t:TypeId}{m:Nat}{ag:Bool}(ht:tyE P t=some (m,ag)){ad:Addr}{u:Value}(hu:u.cells.size=m)(hs:(storeCells ad u.cells.toList 0).run P w=.ok () w'):
  (Instr.storeAt t (.pointer (some ad)) u).run P w=.ok () w':=by
 obtain⟨i,hi,hsz⟩:=Hh ht;simp[Instr.storeAt,Instr.sureAddr,storeVar,run_sizeOf hi,hsz,hu,hs]
theorem Ow[Glo]{o:Oper}{t:TypeId}{x y:Operand}(ho:o.op=.store t x y)(h:opV P o K st)(hd:∀d,o.dst=some d->d<st.n)(hR:RelM base Xa w0 st a w M):o.wp P a w (Nx base Xa w0 st.n K) Q:=by
 have hx:=CU hR.rx x;have hy:=CU hR.rx y;unfold opV at h;rw[ho]at h;simp only[pv]at h;split at h
 ·rename_i m ag id sz i off ds ht hex hds;rw[hex]at hx;obtain⟨g,hid,hg,hu⟩:=Qo hx;have hcs:=KF hds hy;split at h
  ·rename_i b hb;obtain⟨hfz,rfl,hi,hoff,hlen,hK⟩:=h;have hus:(a.eval y).cells.size=m:=by rw[<- hlen,hcs.len];simp
   have hrun:∀w',(storeCells ⟨g,(M id).offB+(i*b.sz+off),none⟩ (a.eval y).cells.toList 0).run P w=.ok () w'->(execOp a.eval o).run P w=.ok .skip w':=fun w' h=>by
    have:=VU ht hus h;unfold execOp;simp[ho,hu,this]
   cases hbox:b.box with
   | true =>
    simp only[hbox,if_true]at hK;obtain⟨w',h1,h2⟩:=hR.store (P:=P) hb hfz hg hi (ds:=ds) (us:=(a.eval y).cells.toList) (off:=off) (by omega) (by simpa only[hbox,if_true]using hcs);simp only[hbox]at h2;exact E9 (hrun w' h1) (Nx.of hK (h2.put hd (.poi _ _)) rfl)
   | false =>
    simp only[hbox,iR,if_false]at hK;obtain⟨hni,hK⟩:=hK;have hR':=hR.fz (BJ ds);have hb':lookO (fzs (BJ ds) st.ob) id=some b:=by rw[Ce,if_neg hni];exact hb
    have hp:=Cs.pur hR hcs;obtain⟨w',h1,h2⟩:=hR'.store (P:=P) hb' hfz hg hi (ds:=ds.map (DT st.ob)) (us:=(a.eval y).cells.toList) (off:=off) (by simp;omega) (by simpa only[hbox,iR,if_false]using hp);simp only[hbox]at h2;exact E9 (hrun w' h1) (Nx.of hK (h2.put hd (.poi _ _)) rfl)
  exact h.elim
 exact h.elim
theorem Sem.bind_assoc'{α β γ:Type}(x:Sem α)(f:α->Sem β)(g:β->Sem γ):(x.bind f).bind g=x.bind fun a=>(f a).bind g:=by
 induction x with
 | pure a=>rfl
 | load m a k ih=>simp only[Sem.bind];congr 1;funext v;exact ih v
 | store m a v k ih=>simp only[Sem.bind];congr 1
 | new o k ih=>simp only[Sem.bind];congr 1;funext v;exact ih v
 | shape r k ih=>simp only[Sem.bind];congr 1;funext v;exact ih v
 | freeze a n k ih=>simp only[Sem.bind];congr 1
 | frozen a k ih=>simp only[Sem.bind];congr 1;funext v;exact ih v
 | getObj r k ih=>simp only[Sem.bind];congr 1;funext v;exact ih v
 | setObj r o k ih=>simp only[Sem.bind];congr 1
 | choose q k ih=>simp only[Sem.bind];congr 1;funext v;exact ih v
 | sys c k ih=>simp only[Sem.bind];congr 1;funext v;exact ih v
 | program k ih=>simp only[Sem.bind];congr 1;funext v;exact ih v
 | mark m k ih=>simp only[Sem.bind];congr 1
 | halt h=>rfl
theorem Sem.bind_pure'{α:Type}(x:Sem α):x.bind Sem.pure=x:=by
 induction x with
 | pure a=>rfl
 | load m a k ih=>simp only[Sem.bind];congr 1;funext v;exact ih v
 | store m a v k ih=>simp only[Sem.bind];congr 1
 | new o k ih=>simp only[Sem.bind];congr 1;funext v;exact ih v
 | shape r k ih=>simp only[Sem.bind];congr 1;funext v;exact ih v
 | freeze a n k ih=>simp only[Sem.bind];congr 1
 | frozen a k ih=>simp only[Sem.bind];congr 1;funext v;exact ih v
 | getObj r k ih=>simp only[Sem.bind];congr 1;funext v;exact ih v
 | setObj r o k ih=>simp only[Sem.bind];congr 1
 | choose q k ih=>simp only[Sem.bind];congr 1;funext v;exact ih v
 | sys c k ih=>simp only[Sem.bind];congr 1;funext v;exact ih v
 | program k ih=>simp only[Sem.bind];congr 1;funext v;exact ih v
 | mark m k ih=>simp only[Sem.bind];congr 1
 | halt h=>rfl
theorem Pe[Glo]:LawfulMonad Sem:=LawfulMonad.mk' Sem (fun x=>Sem.bind_pure' x) (fun _ _=>rfl) (fun x f g=>Sem.bind_assoc' x f g)
theorem Gz[Glo]{α β:Type}(f:α->Sem β)(g:α->β):∀(l:List α),(∀x∈l,(f x).run P w=.ok (g x) w)->(l.mapM f).run P w=.ok (l.map g) w
 | [],_=>by simp
 | x::l,h=>by
  have:=Pe;rw[List.mapM_cons];simp[h x (g7 ..),Gz f g l (fun y hy=>h y (gW _ hy))]
theorem YL[Glo]{α β:Type}(f:α->Sem β)(g:α->β)(l:Array α)(h:∀x∈l,(f x).run P w=.ok (g x) w):(l.mapM f).run P w=.ok (l.map g) w:=by
 have:=Pe;rw[<- Array.toArray_toList (xs:=l),List.mapM_toArray];have h1:=Gz f g l.toList (fun x hx=>h x (by simpa using hx));rw[map_eq_pure_bind,Sem.run_bind,h1];simp;apply Array.ext';simp
end
end Go.Ab
namespace Go.Ab
open Go.RowKit
section
variable {P:Program} {base:Nat} {Xa:Nat->Prop} {w0:W0} {w w':World} {st:St} {a:Act} {M M':Mp} {X X':Nat->Prop} {n n':Nat} {K:St->Prop} {Q:Exit->Act->World->Prop}
theorem MN[Glo]{t:TypeId}{zs cs:List V}{parts:Array (Nat×Operand)}(hz:zeroE P t=some zs)(hf:EO st (plE P t) zs parts.toList=some cs)(hall:Be P t=true){N:Nat}(hR:RelX base st a w M X N):
  ∃arr,(Instr.build t (parts.map fun x=>(x.1,a.eval x.2))).run P w=.ok (.agg arr) w/\Cs M w X N cs arr.toList:=by
 obtain⟨i,z,hi,hiz,hcs⟩:=Hj (P:=P) (M:=M) (w:=w) (X:=X) (n:=N) hz;obtain⟨arr,h1,h2⟩:=TX hR (plE P t) parts.toList zs z.cells cs hf hcs;refine⟨arr,?_,h2⟩;unfold Be at hall;split at hall
 ·rename_i fs hu;have hm:(fs.mapM fun f=>do pure (f.offset,<- sizeOf f.type):Sem (Array (Nat×Nat))).run P w=.ok (fs.map fun f=>(f.offset,((P.info? f.type).map (·.size)).getD 0)) w:=by
   refine YL _ _ fs fun f hfm=>?_;have:(P.info? f.type).isSome=true:=by rw[Array.all_eq_true']at hall;exact hall f hfm
   obtain⟨inf,hinf⟩:=Option.isSome_iff_exists.1 this;simp[run_sizeOf hinf,hinf]
  have hpl:(fun i=>(fs.map fun f=>(f.offset,((P.info? f.type).map (·.size)).getD 0))[i]?)=plE P t:=by
   funext i;simp only[plE,hu,Array.getElem?_map];cases hf:fs[i]? with
   | none=>rfl
   | some fd =>
    have hmem:fd∈fs:=Array.mem_of_getElem? hf;have:(P.info? fd.type).isSome=true:=by rw[Array.all_eq_true']at hall;exact hall fd hmem
    obtain⟨inf,hinf⟩:=Option.isSome_iff_exists.1 this;simp[hinf]
  simp only[Instr.build,zeroValue,typeInfo,program,Sem.run_bind,Sem.run,hi,hiz,Sem.run_pure,Result.andThen_ok,run_underlying hu,hm];rw[hpl];simp[h1]
 ·rename_i k e hu;obtain⟨inf,hinf⟩:=Option.isSome_iff_exists.1 hall;have hpl:(fun i=>some (i*inf.size,inf.size))=plE P t:=by
   funext i;simp only[plE,hu,hinf]
  simp only[Instr.build,zeroValue,typeInfo,program,Sem.run_bind,Sem.run,hi,hiz,Sem.run_pure,Result.andThen_ok,run_underlying hu,run_sizeOf hinf];rw[hpl];simp[h1]
 simp at hall
theorem Ic(zs:List Value):∀len:Nat,(List.range (len*zs.length)).map (fun i=>zs.getD (i%zs.length) undef)=(List.replicate len zs).flatten
 | 0=>by simp
 | len+1=>by
  rw[List.replicate_succ,List.flatten_cons,<- Ic zs len,Nat.add_mul,Nat.one_mul,Nat.add_comm,List.range_add,List.map_append,List.map_map];congr 1
  ·apply List.ext_getElem?;intro j;by_cases hj:j<zs.length
   ·simp[hj,Nat.mod_eq_of_lt hj]
   simp[hj]
  apply List.map_congr_left;intro i _;simp
theorem Cs.app{cs ds:List V}{us vs:List Value}(h:Cs M w X n cs us)(h':Cs M w X n ds vs):Cs M w X n (cs++ds) (us++vs):=by
 have:=h.len;refine⟨by simp[h.len,h'.len],fun u hu=>(List.mem_append.1 hu).elim (h.one u) (h'.one u),fun j c hc=>?_⟩;by_cases hj:j<cs.length
 ·rw[iQ hj]at hc;rw[gP,iQ (by omega),<- gP];exact h.rel j c hc
 rw[iN (by omega)]at hc;rw[gP,iN (by omega),<- gP,<- this];exact h'.rel _ c hc
theorem Cs.nil:Cs M w X n [] []:=⟨rfl,by simp,fun j c hc=>by simp at hc⟩
theorem Cs.rep[Glo]{cs:List V}{us:List Value}(h:Cs M w X n cs us):∀len:Nat,Cs M w X n (List.replicate len cs).flatten (List.replicate len us).flatten
 | 0=>by simpa using Cs.nil
 | len+1=>by simp only[List.replicate_succ,List.flatten_cons];exact h.app (h.rep len)
theorem IE[Glo]{o:Oper}{t:TypeId}{len:Nat}{parts:Array (Nat×Operand)}(ho:o.op=.buildSlice t len parts){e sz by_:Nat}(hs:slE P t=some (e,sz,by_)){zs cs:List V}(hz:zeroE P e=some zs)
  (hf:EO st (fun i=>some (i*sz,sz)) (List.replicate len zs).flatten parts.toList=some cs) (hlim:len*sz<=16777216) (hd:∀d,o.dst=some d->d<st.n) (hR:RelM base Xa w0 st a w M)
  (hK:K ({st with nx:=st.nx+1,ob:=(st.nx,some ⟨e,sz,false,false,HS sz len (cs.map (DT st.ob))⟩)::fzs (BJ cs) st.ob}.put o.dst (.own st.nx))):o.wp P a w (Nx base Xa w0 st.n K) Q:=by
 obtain⟨i,z,hu,hi,hiz,hzsz,hisz,hby,hpos⟩:=Bd hs;obtain⟨i',z',hi',hiz',hcs⟩:=Hj (P:=P) (M:=M) (w:=w) (X:=Xf base Xa w M st.ob) (n:=st.nx) hz;rw[hi]at hi';simp only[gQ]at hi';subst hi';rw[hiz]at hiz';simp only[gQ]at hiz';subst hiz';have hzl:z.cells.toList.length=sz:=by simpa using hzsz
 have hz0:(Array.range (len*sz)).map (fun i=>z.cells[i%z.cells.size]!)=(List.replicate len z.cells.toList).flatten.toArray:=by
  have e1:=Ic z.cells.toList len;rw[<- e1,hzl];apply Array.ext';simp only[Array.toList_map,Array.toList_range];apply List.map_congr_left;intro j hj;have:j%sz<z.cells.size:=by rw[hzsz];exact Nat.mod_lt _ hpos
  rw[hzsz,gP,Array.getElem?_toList,i9 this,getElem!_pos z.cells (j%sz) this];rfl
 obtain⟨arr,h1,h2⟩:=TX hR.rx (fun i=>some (i*sz,sz)) parts.toList _ ((List.replicate len z.cells.toList).flatten.toArray) cs hf (by simpa using hcs.rep len);have hlen:cs.length=len*sz:=by
  have e1:=h2.len;have:∀(ps:List (Nat×Operand))(l l':List V),EO st (fun i=>some (i*sz,sz)) l ps=some l'->l'.length=l.length:=by
   intro ps;induction ps with
   | nil=>intro l l' h;simp only[EO,gQ]at h;rw[h]
   | cons q ps ih =>
    intro l l' h;simp only[EO]at h;split at h
    ·split at h
     ·rw[ih _ _ h,C6]
     simp at h
    simp at h
  rw[this _ _ _ hf];have:zs.length=sz:=by rw[hcs.len];exact hzl
  simp[this]
 obtain⟨c1,c2,c3⟩:=KO sz len (cs.map (DT st.ob)) (by simpa using hlen);have hp:=Cs.pur hR h2;have hasz:arr.size=len*sz:=by rw[<- hlen,h2.len];simp
 have hle:len<=len*sz:=Nat.le_mul_of_pos_right _ hpos;obtain⟨M',hM,hn,hR'⟩:=(hR.fz (BJ cs)).alloc ⟨e,sz,false,false,HS sz len (cs.map (DT st.ob))⟩ arr len (fun _=>hpos) c2 (by rw[c3];exact g8 _) (by simp only[maxLen];omega) hasz (fun u hu=>h2.one u (by simpa using hu)) (fun j u hu=>by
  simp only at hu;rw[c1]at hu;have:=hp.rel j u hu;simpa[gZ,gP]using this)
 simp only[c3]at hn;refine AU (u:=.slice (some ⟨w.heap.size,0,none⟩) len len) (w':=w.alloc (.cells arr e)) ?_ (Nx.of hK (hR'.put hd (.own _ _ _ _ _ (by simp) hn)) rfl);have hfill:Instr.fill (fun i=>some (i*sz,sz)) ((List.replicate len z.cells.toList).flatten.toArray) (parts.map fun x=>(x.1,a.eval x.2)).toList=some arr:=by simpa using h1
 have hcond:¬(len*sz > 2^24):=by omega
 unfold execOp;simp only[ho,Instr.buildSlice,Sem.run_bind,run_underlying hu,Result.andThen_ok,run_sizeOf hi,hisz,if_neg hcond,Sem.run_pure];by_cases h0:len*sz=0
 ·have hl0:len=0:=by
   rcases Nat.mul_eq_zero.1 h0 with h|h
   ·exact h
   omega
  subst hl0;simp only[List.replicate_zero,List.flatten_nil]at hfill;have hr0:Array.range (0*sz)=#[]:=by simp
  rw[if_pos h0,hr0];simp only[Array.map_empty];rw[hfill];simp[newRow,newObj,Sem.run]
 rw[if_neg h0];simp only[zeroValue,typeInfo,program,Sem.run_bind,Sem.run,hi,hiz,Sem.run_pure,Result.andThen_ok];rw[hz0,hfill];simp[newRow,newObj,Sem.run]
end
end Go.Ab
namespace Go.Ab
open Go.RowKit
def D4(e:MapEntry):List Value:=e.key::e.val.cells.toList
theorem Hp(e:MapEntry)(es:List MapEntry):mapVals (e::es)=D4 e++mapVals es:=by simp[mapVals,D4]
theorem Hq(es:List MapEntry):mapVals es=(es.map D4).flatten:=by
 induction es with
 | nil=>rfl
 | cons e es ih=>rw[Hp,ih];rfl
theorem Mw{sz:Nat}{e:MapEntry}(h:mapOk sz e):(D4 e).length=sz:=by simp[D4,h.1]
theorem JG{α:Type}{n:Nat}:∀(l:List (List α))(i j:Nat),(∀x∈l,x.length=n)->j<n->l.flatten[i*n+j]? =(l.getD i [])[j]?
 | [],i,j,_,_=>by simp
 | x::l,0,j,h,hj=>by
  have hx:=h x (g7 ..);simp only[List.flatten_cons,Nat.zero_mul,i6,iC];rw[iQ (by omega)]
 | x::l,i+1,j,h,hj=>by
  have hx:=h x (g7 ..);have ih:=JG l i j (fun y hy=>h y (gW _ hy)) hj;simp only[List.flatten_cons,iK];rw[iN (by rw[hx,Nat.add_mul];omega),hx,show(i+1)*n+j-n=i*n+j by rw[Nat.add_mul];omega];exact ih
section
variable {P:Program} {base:Nat} {Xa:Nat->Prop} {w0:W0} {w w':World} {st:St} {a:Act} {M M':Mp} {X X':Nat->Prop} {n n':Nat} {K:St->Prop} {Q:Exit->Act->World->Prop}
def SG(M:Mp)(w:World)(X:Nat->Prop)(n:Nat)(xs:List (List V))(es:List MapEntry):Prop :=
 xs.length=es.length/\∀(i:Nat)(x:List V)(e:MapEntry),xs[i]? =some x->es[i]? =some e->Cs M w X n x (D4 e)
theorem TI[Glo]{sz:Nat}{xs:List (List V)}{es:List MapEntry}(hn:xs.length=es.length)(hs:∀x∈xs,x.length=sz)(hok:∀e∈es,mapOk sz e)(h1:∀u∈mapVals es,u.oneCell'=true)
  (h:∀(j:Nat)(u:V),xs.flatten[j]? =some u->R M w X n u ((mapVals es).getD j undef)):SG M w X n xs es:=by
 refine⟨hn,fun i x e hx he=>?_⟩;have hxl:=hs x (g9 hx);have hel:=Mw (hok e (g9 he));refine⟨by omega,fun u hu=>h1 u ?_,fun j c hc=>?_⟩
 ·rw[Hq];exact List.mem_flatten.2 ⟨_,List.mem_map.2 ⟨e,g9 he,rfl⟩,hu⟩
 have hj:j<sz:=by have:=(List.getElem?_eq_some_iff.1 hc).1;omega
 have e1:xs.getD i []=x:=by rw[gP,hx];rfl
 have e2:(es.map D4).getD i []=D4 e:=by rw[gP,iG,he];rfl
 have:=h (i*sz+j) c (by rw[JG xs i j hs hj,e1];exact hc);rw[Hq,gP,JG (es.map D4) i j (fun y hy=>by
  obtain⟨e',he',rfl⟩:=List.mem_map.1 hy;exact Mw (hok e' he')) hj,e2,<- gP]at this
 exact this
theorem M8[Glo]:∀{xs:List (List V)}{es:List MapEntry}(_:SG M w X n xs es),Cs M w X n xs.flatten (mapVals es)
 | [],[],_=>Cs.nil
 | x::xs,e::es,h=>by
  rw[List.flatten_cons,Hp];refine Cs.app (h.2 0 x e rfl rfl) (M8 ⟨by simpa using h.1,fun i y f hy hf=>h.2 (i+1) y f (by simpa using hy) (by simpa using hf)⟩)
 | [],_::_,h=>by simp[SG]at h
 | _::_,[],h=>by simp[SG]at h
theorem IU[Glo]{xs:List (List V)}{es:List MapEntry}(h:SG M w X n xs es)(hk:mkeys xs):∀(i:Nat)(x:List V)(e:MapEntry),xs[i]? =some x->es[i]? =some e->∃s,Ew x=some s/\e.key=.string ⟨s.toArray⟩:=by
 intro i x e hx he;have hc:=h.2 i x e hx he;have:=hk x (g9 hx);unfold Ew at this ⊢;split
 ·rename_i s r;exact⟨s,rfl,Ea (by simpa[D4]using hc.rel 0 (.str s) rfl)⟩
 rename_i hno;split at this
 ·rename_i s r;exact absurd rfl (hno s r)
 cases this
theorem D9(s:List UInt8):∀(xs:List (List V))(es:List MapEntry)(i:Nat),xs.length=es.length->(∀(j:Nat)(x:List V)(e:MapEntry),xs[j]? =some x->es[j]? =some e->∃k,Ew x=some k/\e.key=.string ⟨k.toArray⟩) ->
  Instr.findNow .string (.string ⟨s.toArray⟩) es i=some (match II s xs with|none=>none|some j=>(es[j]?).map fun e=>(i+j,e.val))
 | [],[],i,_,_=>rfl
 | x::xs,e::es,i,hl,h=>by
  obtain⟨k,hk,hek⟩:=h 0 x e rfl rfl;have ih:=D9 s xs es (i+1) (by simpa using hl) (fun j y f hy hf=>h (j+1) y f (by simpa using hy) (by simpa using hf));obtain⟨r,hs,hiff⟩:=MapKept.sameNow_of_keys (d:=.string) (a:=.string ⟨s.toArray⟩) (b:=.string ⟨k.toArray⟩) trivial trivial;rw[<- hek]at hs;by_cases hks:k=s
  ·subst hks;have:r=true:=hiff.2 rfl;subst this;simp only[Instr.findNow,hs,II,hk,if_true,iS,Option.map_some,Nat.add_zero]
  have:r=false:=by
   cases r with
   | false=>rfl
   | true =>
    have:=hiff.1 rfl;simp only[Value.string.injEq]at this;have:=congrArg (fun b:ByteArray=>b.data.toList) this;exact absurd (by simpa using this.symm) hks
  subst this;simp only[Instr.findNow,hs,II,hk,gQ,hks,if_false,ih];cases II s xs with
  | none=>rfl
  | some j=>simp only[Option.map_some,List.getElem?_cons_succ];congr 2;funext f;congr 1;omega
 | [],_::_,_,h,_=>by simp at h
 | _::_,[],_,h,_=>by simp at h
theorem JS(s:List UInt8):∀(xs:List (List V))(i:Nat),II s xs=some i->i<xs.length/\∃x,xs[i]? =some x/\Ew x=some s
 | [],i,h=>by simp[II]at h
 | x::xs,i,h=>by
  simp only[II]at h;split at h
  ·rename_i hx;simp only[gQ]at h;subst h;exact⟨by simp,x,rfl,hx⟩
  obtain⟨j,hj,rfl⟩:=Option.map_eq_some_iff.1 h;obtain⟨h1,h2⟩:=JS s xs j hj;exact⟨by simp only[iO];omega,by simpa using h2⟩
theorem Gl{t:TypeId}{sz:Nat}{ag:Bool}{z:List V}(h:mpE P t=some (sz,ag,z)):
  ∃k e m,P.underlying t=some (.map k e)/\P.underlying k=some .string/\tyE P e=some (m,ag)/\zeroE P e=some z/\zAg P e=some ag/\sz=m+1/\z.length=m/\(ag=true->2<=m)/\(ag=false->m=1):=by
 unfold mpE at h;split at h
 ·rename_i k e hu;split at h
  ·rename_i m ag' z' hk ht hz;cases hc:(bif ag' then decide (2<=m)else m==1)&&z'.length==m&&zAg P e==some ag' with
   | false=>simp[hc]at h
   | true =>
    simp only[hc,cond_true,gQ,Prod.mk.injEq]at h;obtain⟨rfl,rfl,rfl⟩:=h;simp only[gX,beq_iff_eq]at hc;refine⟨k,e,m,hu,hk,ht,hz,hc.2,rfl,hc.1.2,fun h=>?_,fun h=>?_⟩
    ·subst h;simpa using hc.1.1
    subst h;simpa using hc.1.1
  simp at h
 simp at h
theorem val_R[Glo]{sz m:Nat}{ag:Bool}{cs:List V}{v:Value}(hok:(sz=2/\v.cells=#[v])\/(2<sz/\∃arr,v=.agg arr))(hsz:sz=m+1)(h2:ag=true->2<=m)(h3:ag=false->m=1)(hc:Cs M w X n cs v.cells.toList):
  R M w X n (mkV ag cs) v:=by
 cases ag with
 | true =>
  have:=h2 rfl;rcases hok with⟨h,_⟩|⟨_,arr,rfl⟩
  ·omega
  refine .st _ _ _ (by simpa[Value.cells]using hc.len) (fun u hu=>hc.one u (by simpa[Value.cells]using hu)) fun j c hj=>?_;have:=hc.rel j c hj;simpa[Value.cells,gZ,gP]using this
 | false =>
  have:=h3 rfl;rcases hok with⟨_,h⟩|⟨h,_⟩
  ·rw[h]at hc
   match cs,hc with
   | [c],hc=>simpa[mkV]using hc.rel 0 c rfl
   | [],hc=>simpa using hc.len
   | _::_::_,hc=>simpa using hc.len
  omega
theorem zero_R[Glo]{e:TypeId}{m:Nat}{ag:Bool}{z:List V}(hz:zeroE P e=some z)(ha:zAg P e=some ag)(hl:z.length=m)(h3:ag=false->m=1):∃u,(zeroValue e).run P w=.ok u w/\R M w X n (mkV ag z) u:=by
 obtain⟨i,u,hi,hiz,hc⟩:=Hj (P:=P) (M:=M) (w:=w) (X:=X) (n:=n) hz;refine⟨u,by simp[zeroValue,typeInfo,hi,hiz],?_⟩;unfold zAg at ha;simp only[hi,hiz]at ha;cases ag with
 | true =>
  cases u with
  | agg arr =>
   refine .st _ _ _ (by simpa[Value.cells]using hc.len) (fun u hu=>hc.one u (by simpa[Value.cells]using hu)) fun j c hj=>?_;have:=hc.rel j c hj;simpa[Value.cells,gZ,gP]using this
  | _=>simp at ha
 | false =>
  have hm:=h3 rfl;have hcl:u.cells=#[u]:=by cases u<;>first|rfl|simp at ha
  rw[hcl]at hc
  match z,hl,hc with
  | [c],_,hc=>simpa[mkV]using hc.rel 0 c rfl
  | [],hl,_=>simp at hl;omega
  | _::_::_,hl,_=>simp at hl;omega
theorem LU[Glo]{t:TypeId}{sz:Nat}{ag:Bool}{z:List V}(hm:mpE P t=some (sz,ag,z)){xs:List (List V)}{es:Array MapEntry}{clk g:Nat}(hg:w.heap[g]? =some (.map es clk))(hE:SG M w X n xs es.toList)(hok:∀e∈es.toList,mapOk sz e)
  (hk:mkeys xs) (s:List UInt8) (ok:Bool):∃u,(Instr.lookup t (.map (some g)) (.string ⟨s.toArray⟩) ok).run P w=.ok u w/\R M w X n (lkV ag ok z (mget s xs)) u:=by
 obtain⟨k,e,m,hu,hks,ht,hz,ha,hsz,hl,h2,h3⟩:=Gl hm;obtain⟨zu,hzr,hzR⟩:=zero_R (M:=M) (w:=w) (X:=X) (n:=n) hz ha hl h3;have hfind:=D9 s xs es.toList 0 hE.1 (IU hE hk);cases hi:II s xs with
 | none =>
  rw[hi]at hfind;have hget:mget s xs=none:=by unfold mget;rw[hi]
  refine⟨if ok then .tuple #[zu,.bool false]else zu,?_,?_⟩
  ·simp[Instr.lookup,run_underlying hu,MapKept.run_getObj_map hg,MapKept.run_checkKey hks (k:=.string ⟨s.toArray⟩) trivial,MapKept.run_findKey hks hfind,hzr,Result.andThen]
  rw[hget];cases ok with
  | true =>
   refine .tup _ _ _ rfl fun j u hu=>?_
   match j,hu with
   | 0,hu=>simp at hu;subst hu;simpa using hzR
   | 1,hu=>simp at hu;subst hu;exact .bool _ _
  | false=>simpa[lkV]using hzR
 | some j =>
  rw[hi]at hfind;obtain⟨hj,x,hx,hkx⟩:=JS s xs j hi;obtain⟨e0,he0⟩:∃e0,es.toList[j]? =some e0:=⟨es.toList[j]'(by rw[<- hE.1];exact hj),gR _⟩;simp only[he0,Option.map_some,i6]at hfind;have hget:mget s xs=some x.tail:=by unfold mget;rw[hi];simp only[hx,Option.map_some]
  have hc:=hE.2 j x e0 hx he0;have hct:Cs M w X n x.tail e0.val.cells.toList:=by
   cases x with
   | nil=>have:=hc.len;simp[D4]at this
   | cons c cs =>
    refine⟨by simpa[D4]using hc.len,fun u hu=>hc.one u (by simp only[D4,List.mem_cons];exact .inr hu),fun i c' hc'=>?_⟩;have:=hc.rel (i+1) c' (by simpa using hc');simpa[D4]using this
  have hv:=val_R (hok e0 (g9 he0)).2 hsz h2 h3 hct;refine⟨if ok then .tuple #[e0.val,.bool true]else e0.val,?_,?_⟩
  ·simp[Instr.lookup,run_underlying hu,MapKept.run_getObj_map hg,MapKept.run_checkKey hks (k:=.string ⟨s.toArray⟩) trivial,MapKept.run_findKey hks hfind,Result.andThen]
  rw[hget];cases ok with
  | true =>
   refine .tup _ _ _ rfl fun j u hu=>?_
   match j,hu with
   | 0,hu=>simp at hu;subst hu;simpa using hv
   | 1,hu=>simp at hu;subst hu;exact .bool _ _
  | false=>simpa[lkV]using hv
theorem LW[Glo]{o:Oper}{t:TypeId}(ho:o.op=.makeMap t none){sz:Nat}{ag:Bool}{z:List V}(hm:mpE P t=some (sz,ag,z))(hd:∀d,o.dst=some d->d<st.n)(hR:RelM base Xa w0 st a w M)
  (hK:K ({st with nx:=st.nx+1,ob:=(st.nx,some ⟨t,sz,Glo.mbx t,false,[]⟩)::st.ob}.put o.dst (.omap st.nx))):o.wp P a w (Nx base Xa w0 st.n K) Q:=by
 obtain⟨k,e,m,hu,hks,ht,hz,ha,hsz,hl,h2,h3⟩:=Gl hm;have hsz2:2<=sz:=by
  cases ag with
  | true=>have:=h2 rfl;omega
  | false=>have:=h3 rfl;omega
 have hnew:(w.alloc (.map #[] 0)).heap[w.heap.size]? =some (.map #[] 0):=heap_alloc_new w _;obtain⟨M',hM,hn,hR'⟩:=hR.grow (ob1:=st.ob) (fun i o' ho'=>ho') none (fun b hx' e=>by cases e) (fun i o' ho' g hg e=>by cases e) (fun g hg=>by cases hg) (World.grownBy_alloc w (.map #[] 0) none) (.map (some w.heap.size)) (fun g hg=>by
   simp only[Value.ownB,gQ]at hg;exact .inr (by omega)) ⟨t,sz,Glo.mbx t,false,[]⟩ (fun _=>by simp only;omega) (by simp) []
   ⟨by simp,.inr (.inr (.inl ⟨w.heap.size,#[],0,rfl,hR.hbase,hnew,rfl,hsz2,by simp,rfl⟩))⟩ (by simp) (fun j u hu=>by simp at hu)
 refine AU (u:=.map (some w.heap.size)) (w':=w.alloc (.map #[] 0)) ?_ (Nx.of hK (hR'.put hd (v:=.omap st.nx) (.omap _ _ _ (by simp) hn)) rfl);unfold execOp;simp[ho,Instr.makeMap,newObj,Sem.run]
theorem K7[Glo]{N:Nat}(hR:RelX base st a w M X N){id:Nat}{b:Ob}(hb:lookO st.ob id=some b){u:Value}(hu:R M w X N (.omap id) u):
  ∃g es clk,u=.map (some g)/\M id=.map (some g)/\base<=g/\w.heap[g]? =some (.map es clk)/\2<=b.sz/\(∀e∈es.toList,mapOk b.sz e)/\SG M w X (if b.box=true then N else 0) b.xs es.toList/\∀x∈b.xs,x.length=b.sz:=by
 cases hu with
 | omap _ _ g hid hv =>
  obtain⟨_,hok⟩:=hR.obs id b hb;obtain⟨vals,hrow,h1,hr⟩:=hok.row;rw[hv]at hrow;rcases hrow.2 with⟨h2,_⟩|⟨_,_,_,_,h2,_⟩|⟨g',es,clk,h2,hbg,hg,hn,hsz,hmo,rfl⟩|⟨_,_,_,h2,_⟩
  ·cases h2
  ·cases h2
  ·simp only[Value.map.injEq,gQ]at h2;subst h2;exact⟨g,es,clk,rfl,hv,hbg,hg,hsz,hmo,TI (by simpa using hn) hok.len hmo h1 hr,hok.len⟩
  cases h2
theorem JY[Glo](hR:RelM base Xa w0 st a w M){id:Nat}{b:Ob}(hb:lookO st.ob id=some b){u:Value}(hu:R M w (Xf base Xa w M st.ob) st.nx (.omap id) u):
  ∃g es clk,u=.map (some g)/\M id=.map (some g)/\base<=g/\w.heap[g]? =some (.map es clk)/\2<=b.sz/\(∀e∈es.toList,mapOk b.sz e)/\SG M w (Xf base Xa w M st.ob) (if b.box=true then st.nx else 0) b.xs es.toList/\∀x∈b.xs,x.length=b.sz :=
 K7 hR.rx hb hu
theorem Ho[Glo]{o:Oper}{t:TypeId}{m k:Operand}{ok:Bool}(ho:o.op=.lookup t m k ok){sz:Nat}{ag:Bool}{z:List V}(hm:mpE P t=some (sz,ag,z)){s:List UInt8}(hk:ev st k=.str s){xs:List (List V)}
  (hcase:(∃id b,ev st m=.omap id/\lookO st.ob id=some b/\b.sz=sz/\b.xs=xs)\/ev st m=.mp sz xs) (hks:mkeys xs) (hd:∀d,o.dst=some d->d<st.n) (hR:RelM base Xa w0 st a w M)
  (hK:K (st.put o.dst (lkV ag ok z (mget s xs)))):o.wp P a w (Nx base Xa w0 st.n K) Q:=by
 have hkv:=CU hR.rx k;rw[hk]at hkv;have hke:=Ea hkv;have hmv:=CU hR.rx m;have key:∃u,(Instr.lookup t (a.eval m) (.string ⟨s.toArray⟩) ok).run P w=.ok u w/\R M w (Xf base Xa w M st.ob) st.nx (lkV ag ok z (mget s xs)) u:=by
  rcases hcase with⟨id,b,he,hb,rfl,rfl⟩|he
  ·rw[he]at hmv;obtain⟨g,es,clk,hue,_,_,hg,_,hmo,hE,_⟩:=JY hR hb hmv;rw[hue];obtain⟨u,h1,h2⟩:=LU hm hg hE hmo hks s ok;exact⟨u,h1,h2.mono (by split<;>omega) (fun _ _=>rfl) (fun _ h=>h) (fun _ _=>rfl)⟩
  rw[he]at hmv;revert hmv;generalize a.eval m=u;intro hmv;cases hmv with
  | mp _ _ _ g es clk hX hg hn hsz hok hs h1 h =>
   obtain⟨u,q1,q2⟩:=LU hm hg (TI (by simpa using hn) hs hok h1 h) hok hks s ok;exact⟨u,q1,q2.up⟩
 obtain⟨u,h1,h2⟩:=key;refine AU (u:=u) (w':=w) ?_ (Nx.of hK (hR.put hd h2) rfl);unfold execOp;simp[ho,hke,h1]
theorem Od[Glo]{o:Oper}{t:TypeId}{x:Operand}(ho:o.op=.range t x){s:List UInt8}(hx:ev st x=.str s)(ht:Dv P t=true)(hd:∀d,o.dst=some d->d<st.n)(hR:RelM base Xa w0 st a w M)
  (hK:K ({st with nx:=st.nx+1,ob:=(st.nx,some ⟨0,2,false,false,[[.str s,.int .i64 0]]⟩)::st.ob}.put o.dst (.itr st.nx))):o.wp P a w (Nx base Xa w0 st.n K) Q:=by
 have hxv:=CU hR.rx x;rw[hx]at hxv;have hxe:=Ea hxv;have hnew:(w.alloc (.stringIter ⟨s.toArray⟩ 0)).heap[w.heap.size]? =some (.stringIter ⟨s.toArray⟩ 0):=heap_alloc_new w _;obtain⟨M',hM,hn,hR'⟩:=hR.grow (ob1:=st.ob) (fun i o' ho'=>ho') none (fun b hx' e=>by cases e) (fun i o' ho' g hg e=>by cases e) (fun g hg=>by cases hg) (World.grownBy_alloc w (.stringIter ⟨s.toArray⟩ 0) none) (.pointer (some ⟨w.heap.size,0,none⟩)) (fun g hg=>by
   simp only[Value.ownB,gQ]at hg;exact .inr (by omega)) ⟨0,2,false,false,[[.str s,.int .i64 0]]⟩ (fun _=>by simp) (by simp) [.string ⟨s.toArray⟩,.int .i64 0]
   ⟨by simp,.inr (.inr (.inr ⟨w.heap.size,_,0,rfl,hR.hbase,hnew,rfl,rfl,rfl⟩))⟩ (by simp[Value.oneCell']) (fun j u hu=>by
    match j,hu with
    | 0,hu=>simp at hu;subst hu;exact .str _ _
    | 1,hu=>simp at hu;subst hu;exact .int _ _ _)
 refine AU (u:=.pointer (some ⟨w.heap.size,0,none⟩)) (w':=w.alloc (.stringIter ⟨s.toArray⟩ 0)) ?_ (Nx.of hK (hR'.put hd (v:=.itr st.nx) (.itr _ _ _ (by simp) hn)) rfl);have hr:=run_range_string (P:=P) w t ⟨s.toArray⟩ (Fi ht);unfold execOp;simp[ho,hxe,hr,World.iter]
theorem Wc[Glo]{xs:List (List V)}{es:Array MapEntry}(hE:SG M w X n xs es.toList){s:List UInt8}{cs:List V}{v:Value}{clk:Nat}(hc:Cs M w X n cs v.cells.toList):
  ∃es' clk',es'=(match II s xs with|some j=>es.modify j (fun e=>{e with key:=.string ⟨s.toArray⟩,val:=v})|none=>es.push ⟨.string ⟨s.toArray⟩,v,clk⟩)/\clk'=(match II s xs with|some _=>clk|none=>clk+1) /\
   SG M w X n (JW s cs xs) es'.toList/\(∀e∈es'.toList,e∈es.toList\/e.val=v)/\∀x∈JW s cs xs,x∈xs\/x=.str s::cs:=by
 refine⟨_,_,rfl,rfl,?_⟩;have hnew:∀b,Cs M w X n (.str s::cs) (D4 ⟨.string ⟨s.toArray⟩,v,b⟩):=fun b=>by
  have:Cs M w X n ([.str s]++cs) ([.string ⟨s.toArray⟩]++v.cells.toList):=Cs.app (.one_ rfl (.str _ _)) hc;simpa[D4]using this
 unfold JW;cases hi:II s xs with
 | none =>
  simp only;refine⟨⟨by simp[hE.1],fun i x e hx he=>?_⟩,fun e he=>?_,fun x hx=>?_⟩
  ·simp only[Array.toList_push]at he;by_cases hlt:i<xs.length
   ·rw[iQ hlt]at hx;rw[iQ (by rw[<- hE.1];exact hlt)]at he;exact hE.2 i x e hx he
   rw[iN (by omega)]at hx;rw[iN (by rw[<- hE.1];omega),<- hE.1]at he;have h0:i-xs.length=0:=by
    have:=(List.getElem?_eq_some_iff.1 hx).1;simp at this;omega
   rw[h0]at hx he;simp at hx he;subst hx;subst he;exact hnew _
  ·simp only[Array.toList_push,List.mem_append,List.mem_singleton]at he;rcases he with he|rfl
   ·exact .inl he
   exact .inr rfl
  simp only[List.mem_append,List.mem_singleton]at hx;exact hx
 | some j =>
  simp only;obtain⟨hj,_⟩:=JS s xs j hi;refine⟨⟨by simp[hE.1],fun i x e hx he=>?_⟩,fun e he=>?_,fun x hx=>?_⟩
  ·rw[Array.toList_modify,List.getElem?_modify]at he;by_cases hij:j=i
   ·subst hij;rw[List.getElem?_set_self hj]at hx;simp only[if_pos,gQ]at hx;obtain⟨e0,he0,rfl⟩:=Option.map_eq_some_iff.1 he;subst hx;simp only[if_true];exact hnew _
   rw[List.getElem?_set_ne hij]at hx;obtain⟨e0,he0,rfl⟩:=Option.map_eq_some_iff.1 he;simp only[hij,if_false];exact hE.2 i x e0 hx he0
  ·rw[Array.toList_modify]at he;obtain⟨i,hi'⟩:=List.getElem?_of_mem he;rw[List.getElem?_modify]at hi';obtain⟨e0,he0,rfl⟩:=Option.map_eq_some_iff.1 hi';by_cases hij:j=i
   ·right;simp[hij]
   left;simp only[hij,if_false];exact g9 he0
  rcases List.mem_or_eq_of_mem_set hx with h|h
  ·exact .inl h
  exact .inr h
theorem RelM.remap[Glo](hR:RelM base Xa w0 st a w M){id:Nat}{b:Ob}(hb:lookO st.ob id=some b)(hfz:b.fz=false){g:Nat}(hMg:M id=.map (some g))(hbg:base<=g)(hlt:g<w.heap.size){es':Array MapEntry}{clk':Nat}{xs':List (List V)}
  (hE':SG M w (Xf base Xa w M st.ob) (if b.box=true then st.nx else 0) xs' es'.toList) (hok':∀e∈es'.toList,mapOk b.sz e) (hlen':∀y∈xs',y.length=b.sz) (hsz2:2<=b.sz) :
  RelM base Xa w0 {st with ob:=(id,some {b with xs:=xs'})::st.ob} a {w with heap:=w.heap.setIfInBounds g (.map es' clk')} M:=by
 have hgr:w.grownBy {w with heap:=w.heap.setIfInBounds g (.map es' clk')} (M id).ownB:=⟨rfl,rfl,rfl,by simp,fun k _ hk=>by
  rw[hMg]at hk;have:g≠k:=fun e=>hk (by rw[e];rfl);simp[this]⟩
 have hX:∀q,Xf base Xa w M st.ob q->Xf base Xa {w with heap:=w.heap.setIfInBounds g (.map es' clk')} M ((id,some {b with xs:=xs'})::st.ob) q:=fun q hx =>
  ⟨hx.1.imp (fun x=>x) fun h=>⟨h.1,by simpa using h.2⟩,fun i o1 ho1 hf1=>by
   simp only[lookO]at ho1;split at ho1
   ·rename_i e;subst e;exact hx.2 _ b hb hfz
   exact hx.2 i o1 ho1 hf1⟩
 have hw:∀q,Xf base Xa w M st.ob q->({w with heap:=w.heap.setIfInBounds g (.map es' clk')}:World).heap[q]? =w.heap[q]? :=fun q hx=>hgr.block q (hx.lt hR.xa hR.hbase) (fun e=>hx.2 id b hb hfz e.symm);have hall:=M8 hE';exact hR.modify (o':={b with xs:=xs'}) hb hfz hgr ⟨fun _=>by simp only;omega,fun _=>by rw[hMg];rfl,hlen',mapVals es'.toList,⟨by
  rw[<- hall.len];exact Bu _ hlen',.inr (.inr (.inl ⟨g,es',clk',hMg,hbg,by simp[hlt],by
   have:=hE'.1;simpa using this,hsz2,hok',rfl⟩))⟩,hall.one,fun j u hu=>(hall.rel j u hu).mono (g8 _) (fun _ _=>rfl) hX hw⟩
theorem OU[Glo]{t:TypeId}{sz:Nat}{ag:Bool}{z:List V}(hm:mpE P t=some (sz,ag,z))(hR:RelM base Xa w0 st a w M){id:Nat}{b:Ob}(hb:lookO st.ob id=some b)(hfz:b.fz=false)(hbs:b.sz=sz)(hks:mkeys b.xs)(s:List UInt8){um:Value}(hmv:R M w (Xf base Xa w M st.ob) st.nx (.omap id) um)
  {cs:List V} {u:Value} (hc:Cs M w (Xf base Xa w M st.ob) (if b.box=true then st.nx else 0) cs u.cells.toList) (hcl:cs.length+1=sz) (hval:mapOk sz ⟨.string ⟨s.toArray⟩,u,0⟩) :
  ∃w',(Instr.mapUpdate t um (.string ⟨s.toArray⟩) u).run P w=.ok () w'/\RelM base Xa w0 {st with ob:=(id,some {b with xs:=JW s cs b.xs})::st.ob} a w' M:=by
 obtain⟨kt,e,mm,hu,hkt,ht,hz,ha,hsz,hl,h2,h3⟩:=Gl hm;obtain⟨g,es,clk,rfl,hMg,hbg,hg,hsz2,hmo,hE,hxl⟩:=JY hR hb hmv;obtain⟨es',clk',hes',hclk',hE',hev,hxv'⟩:=Wc (s:=s) (clk:=clk) hE hc;have hlt:g<w.heap.size:=(Array.getElem?_eq_some_iff.1 hg).1;have hfind:=D9 s b.xs es.toList 0 hE.1 (IU hE hks);have hrun:(Instr.mapUpdate t (.map (some g)) (.string ⟨s.toArray⟩) u).run P w=.ok () {w with heap:=w.heap.setIfInBounds g (.map es' clk')}:=by
  cases hi:II s b.xs with
  | none =>
   rw[hi]at hfind hes' hclk';subst hes' hclk';simp[Instr.mapUpdate,run_underlying hu,MapKept.run_getObj_map hg,MapKept.run_checkKey hkt (k:=.string ⟨s.toArray⟩) trivial,MapKept.run_findKey hkt hfind,MapKept.run_setObj_map _ hg,Result.andThen]
  | some j =>
   rw[hi]at hfind hes' hclk';subst hes' hclk';obtain⟨hj,x0,hx0,hkx⟩:=JS s b.xs j hi;obtain⟨e0,he0⟩:∃e0,es.toList[j]? =some e0:=⟨es.toList[j]'(by rw[<- hE.1];exact hj),gR _⟩;simp only[he0,Option.map_some,i6]at hfind;have he0':es[j]? =some e0:=by simpa using he0
   obtain⟨s',hs',hek⟩:=IU hE hks j x0 e0 hx0 he0;rw[hkx]at hs';simp only[gQ]at hs';subst hs';simp[Instr.mapUpdate,run_underlying hu,MapKept.run_getObj_map hg,MapKept.run_checkKey hkt (k:=.string ⟨s.toArray⟩) trivial,MapKept.run_findKey hkt hfind,he0',hek,MapKept.run_keyThatStays (d:=.string) (k:=.string ⟨s.toArray⟩) trivial,MapKept.run_setObj_map _ hg,Result.andThen]
 refine⟨_,hrun,?_⟩;refine RelM.remap hR hb hfz hMg hbg hlt hE' (fun e he=>?_) (fun y hy=>?_) hsz2
 ·rcases hev e he with h|h
  ·exact hmo e h
  have:=hval;unfold mapOk at this ⊢;rw[h,hbs];exact this
 rcases hxv' y hy with h|rfl
 ·exact hxl y h
 simp;omega
theorem fB[Glo]{sz:Nat}{ag:Bool}{t:TypeId}{z:List V}(hm:mpE P t=some (sz,ag,z)){v:V}{u:Value}{cs:List V}(hcs:Ez v=some cs)(hcl:cs.length+1=sz)(hag:isSt v=ag)(hxv:R M w X n v u)(hc:Cs M w X n cs u.cells.toList)(key:Value):mapOk sz ⟨key,u,0⟩:=by
 obtain⟨kt,e,mm,hu,hkt,ht,hz,ha,hsz,hl,h2,h3⟩:=Gl hm;have hcsz:u.cells.size=cs.length:=by rw[hc.len];simp
 refine⟨by simp only;omega,?_⟩;simp only;cases ag with
 | true =>
  right;have:=h2 rfl;refine⟨by omega,?_⟩;cases hxv<;>simp[isSt]at hag;exact⟨_,rfl⟩
 | false =>
  left;have:=h3 rfl;refine⟨by omega,?_⟩;cases hxv<;>first|rfl|(simp[Ez]at hcs;done)|(simp[isSt]at hag;done)
theorem RelM.tail[Glo](hR:RelM base Xa w0 st a w M){id sz lo k:Nat}{o:Ob}{u:Value}(hu:R M w (Xf base Xa w M st.ob) st.nx (.part id sz lo k) u)(ho:lookO st.ob id=some o)(hbox:o.box=false)(hf:o.fz=false)(hk:lo+k=o.xs.length)(hlo:lo<o.xs.length)(hsz:sz=o.sz)(h5:o.ety≠5):
  ∃M',(∀i,i<st.nx->M' i=M i)/\M' st.nx=u/\RelM base Xa w0 {st with nx:=st.nx+1,ob:=(st.nx,some ⟨o.ety,o.sz,false,false,o.xs.drop lo⟩)::(id,none)::st.ob} a w M':=by
 subst hsz;obtain⟨g,O,N,cap,hMv,hl,rfl⟩:=Il hu;obtain⟨_,hok⟩:=hR.obs id o ho;obtain⟨vals,hrow,hv1,hvr⟩:=hok.row;simp only[hbox,iR,if_false]at hvr;rw[hMv]at hrow;have hN:N=o.xs.length:=by
  rcases hrow.sl ⟨_,_,_,rfl⟩with⟨hnil,_⟩|⟨g',O',cap',cur,hval,_⟩
  ·simp at hnil
  simp only[Value.slice.injEq]at hval;exact hval.2.1
 subst hN;have hlen:=hok.len;obtain⟨cur,hbg,hg,hnc,hcm,hcs,htake⟩:=hrow.row;have hvl:=hrow.1;have hmul:lo*o.sz+k*o.sz=o.xs.length*o.sz:=by rw[<- Nat.add_mul,hk]
 have hmc:lo*o.sz+(cap-lo)*o.sz=cap*o.sz:=by rw[<- Nat.add_mul];congr 1;omega
 rw[nG];have hfl:=FI o.xs hlen (lo:=lo) (len:=k);rw[iZ (by rw[iE];omega)]at hfl;have hown':w.ownsG base o.ety o.sz (.slice (some ⟨g,O+lo*o.sz,none⟩) k (cap-lo)) k ((vals.drop (lo*o.sz)).take (k*o.sz)):=by
  refine⟨by rw[iD,iE];omega,.inr (.inl ⟨g,O+lo*o.sz,cap-lo,cur,rfl,hbg,hg,by omega,by omega,by rw[hcs];omega,?_⟩)⟩;rw[<- htake,<- List.drop_drop,List.drop_take,List.take_take];congr 1;omega
 obtain⟨M',hM',hn,hR'⟩:=hR.grow (ob1:=(id,none)::st.ob) (fun i o' ho'=>by simp only[lookO]at ho';split at ho'<;>simp_all) (some g)
  (fun b hx' e=>hx'.2 id o ho hf (by rw[hMv];simpa[Value.ownB]using e.symm)) (fun i o' ho' g' hg' e=>by
   simp only[lookO]at ho';split at ho'
   ·simp at ho'
   ·rename_i hne;exact hR.dist i id o' o g' ho' ho hne hg' (by rw[hMv,e];rfl)) (fun g' hg'=>by simp at hg';omega) (World.grownBy.refl w _) (.slice (some ⟨g,O+lo*o.sz,none⟩) k (cap-lo)) (fun g' hg'=>by
   simp only[Value.ownB,gQ]at hg';exact .inl (by rw[hg'])) ⟨o.ety,o.sz,false,false,o.xs.drop lo⟩ (fun _=>hok.pos hbox) (fun y hy=>hlen y (List.mem_of_mem_drop hy)) ((vals.drop (lo*o.sz)).take (k*o.sz)) (by
    have e:(o.xs.drop lo).length=k:=by rw[iE];omega
    simpa[e]using hown') (fun u hu=>hv1 u (List.mem_of_mem_drop (i5 hu))) (fun j u hj=>by
   simp only at hj ⊢;rw[hfl,iL]at hj;split at hj
   ·rename_i hjl;rw[iP]at hj;have:=hvr _ _ hj;rw[gP,iL,if_pos hjl,iP,<- gP];simpa using this
   cases hj) (fun h=>absurd (h.resolve_left (by simp)) h5)
 exact⟨M',hM',hn,hR'⟩
theorem IB[Glo]{o:Oper}{t:TypeId}{m k x:Operand}(ho:o.op=.mapUpdate t m k x\/o.op=.insert t m k x){sz:Nat}{ag:Bool}{z:List V}(hm:mpE P t=some (sz,ag,z)){id:Nat}(hem:ev st m=.omap id){s:List UInt8}(hk:ev st k=.str s)
  {cs:List V} (hcs:Ez (ev st x)=some cs) {b:Ob} (hb:lookO st.ob id=some b) (hfz:b.fz=false) (hbs:b.sz=sz) (hcl:cs.length+1=sz) (hag:isSt (ev st x)=ag) (hks:mkeys b.xs)
  (hd:∀d,o.dst=some d->d<st.n) (hR:RelM base Xa w0 st a w M) (hK:updV o.dst id s (ev st x) cs b K st):o.wp P a w (Nx base Xa w0 st.n K) Q:=by
 have hkv:=CU hR.rx k;rw[hk]at hkv;have hke:=Ea hkv;have hmv:=CU hR.rx m;rw[hem]at hmv;have hxv:=CU hR.rx x;have hc:=KF hcs hxv;have hval:=fB hm hcs hcl hag hxv hc (.string ⟨s.toArray⟩);have fin:∀{w':World},(Instr.mapUpdate t (a.eval m) (.string ⟨s.toArray⟩) (a.eval x)).run P w=.ok () w'->(execOp a.eval o).run P w=.ok .skip w':=fun h=>by
  unfold execOp;rcases ho with ho|ho<;>simp[ho,hke,h]
 unfold updV at hK;cases hbox:b.box with
 | false =>
  simp only[hbox,cond_false]at hK;obtain⟨hno,hK⟩:=hK;have hp:=Cs.pur hR hc;rw[hno]at hp;have hp':Cs M w (Xf base Xa w M st.ob) 0 (cs.map (DT st.ob)) (a.eval x).cells.toList:=hp;obtain⟨w',h1,h2⟩:=OU hm hR hb hfz hbs hks s hmv (cs:=cs.map (DT st.ob)) (u:=a.eval x) (by rw[hbox];exact hp') (by simpa using hcl) hval;simp only[hbox]at h2;exact E9 (fin h1) (Nx.of hK (h2.put hd (.poi _ _)) rfl)
 | true =>
  simp only[hbox,cond_true]at hK;split at hK
  ·rename_i id2 sz2 lo len hx;split at hK
   ·rename_i o2 ho2;obtain⟨hne,q1,q2,q3,q4,q5,q6,hK⟩:=hK;rw[hx]at hxv hcs;obtain⟨M',hM',hn,hR'⟩:=hR.tail hxv ho2 q1 q2 q3 q4 q5 q6;have hid:=(hR.obs id b hb).1;have hmv':R M' w (Xf base Xa w M' ((st.nx,some ⟨o2.ety,o2.sz,false,false,o2.xs.drop lo⟩)::(id2,none)::st.ob)) (st.nx+1) (.omap id) (a.eval m):=by
     revert hmv;generalize a.eval m=q;intro hmv;cases hmv with|omap _ _ g hi hv=>exact .omap _ _ g (by omega) (by rw[hM' id hid];exact hv)
    have hsl:∃A l c,a.eval x=.slice A l c:=by obtain⟨g,O,N,cap,_,_,hu⟩:=Il hxv;exact⟨_,_,_,hu⟩
    obtain⟨A,l,c,he⟩:=hsl;have hb':lookO ((st.nx,some ⟨o2.ety,o2.sz,false,false,o2.xs.drop lo⟩)::(id2,none)::st.ob) id=some b:=by
     simp only[lookO];rw[nG,if_neg hne];exact hb
    obtain⟨w',h1,h2⟩:=OU hm hR' hb' hfz hbs hks s hmv' (cs:=[.own st.nx]) (u:=a.eval x) (by
     rw[hbox,if_pos rfl,he];exact .one_ (u:=.slice A l c) rfl (.own _ _ A l c (by simp) (by rw[hn,he]))) (by
      simp only[Ez,gQ]at hcs;subst hcs;simpa using hcl) hval
    simp only[hbox]at h2;exact E9 (fin h1) (Nx.of hK (h2.put hd (.poi _ _)) rfl)
   exact hK.elim
  obtain⟨w',h1,h2⟩:=OU hm hR hb hfz hbs hks s hmv (cs:=cs) (u:=a.eval x) (by rw[hbox];exact hc) hcl hval;simp only[hbox]at h2;exact E9 (fin h1) (Nx.of hK (h2.put hd (.poi _ _)) rfl)
theorem MY[Glo]{o:Oper}{args:Array Operand}{tys:Array TypeId}{m k:Operand}{t t':TypeId}(ho:o.op=.call {callee:=.builtin .delete,args:=args,argTypes:=tys})(hargs:args.toList=[m,k])(htys:tys.toList=[t,t'])
  (h:delV P o.dst t (ev st m) (ev st k) K st) (hd:∀d,o.dst=some d->d<st.n) (hR:RelM base Xa w0 st a w M):o.wp P a w (Nx base Xa w0 st.n K) Q:=by
 unfold delV at h;split at h
 ·rename_i sz ag z id s hm hem hk;split at h
  ·rename_i b hb;obtain⟨hfz,hbs,hks,hK⟩:=h;obtain⟨kt,e,mm,hu,hkt,ht,hz,ha,hsz,hl,h2,h3⟩:=Gl hm;have hkv:=CU hR.rx k;rw[hk]at hkv;have hke:=Ea hkv;have hmv:=CU hR.rx m;rw[hem]at hmv;obtain⟨g,es,clk,hme,hMg,hbg,hg,hsz2,hmo,hE,hxl⟩:=JY hR hb hmv;have hlt:g<w.heap.size:=(Array.getElem?_eq_some_iff.1 hg).1;have hfind:=D9 s b.xs es.toList 0 hE.1 (IU hE hks);have hargs':args=#[m,k]:=by apply Array.ext';simpa using hargs
   have htys':tys=#[t,t']:=by apply Array.ext';simpa using htys
   have key:∃es',(Builtin.delete_ #[t,t'] o.type #[.map (some g),.string ⟨s.toArray⟩]).run P w=.ok (.tuple #[]) {w with heap:=w.heap.setIfInBounds g (.map es' clk)} /\
     SG M w (Xf base Xa w M st.ob) (if b.box=true then st.nx else 0) (Po s b.xs) es'.toList/\∀e∈es'.toList,e∈es.toList:=by
    unfold Po;cases hi:II s b.xs with
    | none =>
     rw[hi]at hfind;exact⟨es,by simp[Builtin.delete_,run_underlying hu,MapKept.run_getObj_map hg,MapKept.run_checkKey hkt (k:=.string ⟨s.toArray⟩) trivial,MapKept.run_findKey hkt hfind,MapKept.run_setObj_map _ hg,Result.andThen],hE,fun _ h=>h⟩
    | some j =>
     rw[hi]at hfind;obtain⟨hj,x0,hx0,hkx⟩:=JS s b.xs j hi;obtain⟨e0,he0⟩:∃e0,es.toList[j]? =some e0:=⟨es.toList[j]'(by rw[<- hE.1];exact hj),gR _⟩;simp only[he0,Option.map_some,i6]at hfind;refine⟨es.eraseIdxIfInBounds j,by simp[Builtin.delete_,run_underlying hu,MapKept.run_getObj_map hg,MapKept.run_checkKey hkt (k:=.string ⟨s.toArray⟩) trivial,MapKept.run_findKey hkt hfind,MapKept.run_setObj_map _ hg,Result.andThen],?_,?_⟩
     ·have he:(es.eraseIdxIfInBounds j).toList=es.toList.eraseIdx j:=by
       unfold Array.eraseIdxIfInBounds;have hj':j<es.size:=by have:=hE.1;simp at this;omega
       rw[dif_pos hj',Array.toList_eraseIdx]
      rw[he];simp only;refine⟨by rw[List.length_eraseIdx,List.length_eraseIdx,hE.1],fun i x e hx hee=>?_⟩;rw[List.getElem?_eraseIdx]at hx hee;split at hx
      ·rename_i hlt';rw[if_pos hlt']at hee;exact hE.2 i x e hx hee
      rename_i hlt';rw[if_neg hlt']at hee;exact hE.2 (i+1) x e hx hee
     intro e he;have he':(es.eraseIdxIfInBounds j).toList=es.toList.eraseIdx j:=by
      unfold Array.eraseIdxIfInBounds;have hj':j<es.size:=by have:=hE.1;simp at this;omega
      rw[dif_pos hj',Array.toList_eraseIdx]
     rw[he']at he;exact List.mem_of_mem_eraseIdx he
   obtain⟨es',hrun,hE',hev⟩:=key;have hR':=RelM.remap (clk':=clk) hR hb hfz hMg hbg hlt hE' (fun e he=>hmo e (hev e he)) (fun y hy=>hxl y (by
    unfold Po at hy;split at hy
    ·exact List.mem_of_mem_eraseIdx hy
    exact hy)) hsz2
   refine AU (u:=.tuple #[]) ?_ (Nx.of hK (hR'.put hd (v:=.tup []) (.tup _ _ _ rfl fun j u hu=>by simp at hu)) rfl);subst hargs' htys';obtain⟨cs,hcs⟩:=Bl (P:=P) (w:=w) (a:=a) .delete #[m,k] #[t,t'] o ho;rw[hcs];simp[invoke,builtin,hme,hke,hrun]
  exact h.elim
 exact h.elim
theorem R2[Glo]{o:Oper}{it:Operand}(ho:o.op=.next it true){id:Nat}(he:ev st it=.itr id){b:Ob}(hb:lookO st.ob id=some b){s:List UInt8}{pos:Int}(hx:b.xs=[[.str s,.int .i64 pos]])(hbox:b.box=false)(hfz:b.fz=false)(hbs:b.sz=2)(hpos:0<=pos)
  (hd:∀d,o.dst=some d->d<st.n) (hR:RelM base Xa w0 st a w M) (hK:K ({st with ob:=(id,some {b with xs:=[[.str s,.int .i64 (nxP s pos.toNat)]]})::st.ob}.put o.dst (nxV s pos.toNat))):o.wp P a w (Nx base Xa w0 st.n K) Q:=by
 have hiv:=CU hR.rx it;rw[he]at hiv;obtain⟨_,hok⟩:=hR.obs id b hb;obtain⟨vals,hrow,h1,hr⟩:=hok.row;revert hiv;generalize hue:a.eval it=u;intro hiv;cases hiv with
 | itr _ _ g hid hv =>
  rw[hv]at hrow;rcases hrow.2 with⟨h2,_⟩|⟨_,_,_,_,h2,_⟩|⟨_,_,_,h2,_⟩|⟨g',s',pos',h2,hbg,hg,hn,_,rfl⟩
  ·cases h2
  ·cases h2
  ·cases h2
  simp only[Value.pointer.injEq,gQ,Addr.mk.injEq,and_true]at h2;subst h2;have e1:=hr 0 (.str s) (by rw[hx];rfl);have e2:=hr 1 (.int .i64 pos) (by rw[hx];rfl);have e1:=Ea e1;have e2:=DK e2;simp only[iC,Value.string.injEq]at e1;simp only[iK,iC,Value.int.injEq,true_and]at e2;subst e1;have hp:pos.toNat=pos':=by omega
  rw[hp]at hK;have hlt:g<w.heap.size:=(Array.getElem?_eq_some_iff.1 hg).1;have hss:(⟨s.toArray⟩:ByteArray).size=s.length:=by simp[ByteArray.size]
  have fin:∀w',w.grownBy w' (M id).ownB->w'.heap[g]? =some (.stringIter ⟨s.toArray⟩ (nxP s pos'))->RelM base Xa w0 {st with ob:=(id,some {b with xs:=[[.str s,.int .i64 (nxP s pos')]]})::st.ob} a w' M:=fun w' hgr hg'=>by
   refine hR.modify (o':={b with xs:=[[.str s,.int .i64 (nxP s pos')]]}) hb hfz hgr ⟨fun _=>by simp only;omega,(hR.obs id b hb).2.off,by simp[hbs],[.string ⟨s.toArray⟩,.int .i64 (nxP s pos')],⟨by simp[hbs],.inr (.inr (.inr ⟨g,_,_,hv,hbg,hg',rfl,hbs,rfl⟩))⟩,by simp[Value.oneCell'],fun j u hu=>?_⟩
   match j,hu with
   | 0,hu=>simp at hu;subst hu;exact .str _ _
   | 1,hu=>simp at hu;subst hu;exact .int _ _ _
  by_cases hlt':pos'<s.length
  ·have hrn:=Lib.run_next_any_at (P:=P) w g ⟨s.toArray⟩ pos' o.type hg (by rw[hss];exact hlt');have hP:nxP s pos'=pos'+(Utf8.decode ⟨s.toArray⟩ pos').2:=by unfold nxP;rw[if_pos hlt'];rfl
   have hV:nxV s pos'=.tup [.bool true,.int .i64 pos',.int .i32 (Utf8.decode ⟨s.toArray⟩ pos').1]:=by unfold nxV;rw[if_pos hlt'];rfl
   have hM:=fin (w.iterAt g ⟨s.toArray⟩ (pos'+(Utf8.decode ⟨s.toArray⟩ pos').2)) ⟨rfl,rfl,rfl,by simp[World.iterAt],fun k _ hk=>by
    rw[hv]at hk;have:g≠k:=fun e=>hk (by rw[e];rfl);simp[World.iterAt,this]⟩ (by rw[hP];exact Lib.iterAt_heap w g _ pos' _ hg)
   refine AU (u:=.tuple #[.bool true,.int .i64 pos',.int .i32 (Utf8.decode ⟨s.toArray⟩ pos').1]) (w':=w.iterAt g ⟨s.toArray⟩ (pos'+(Utf8.decode ⟨s.toArray⟩ pos').2)) ?_ (Nx.of hK (hM.put hd ?_) rfl)
   ·unfold execOp;simp[ho,hue,hrn]
   rw[hV];refine .tup _ _ _ rfl fun j u hu=>?_
   match j,hu with
   | 0,hu=>simp at hu;subst hu;exact .bool _ _
   | 1,hu=>simp at hu;subst hu;exact .int _ _ _
   | 2,hu=>simp at hu;subst hu;exact .int _ _ _
  have hrn:=Lib.run_next_end_at (P:=P) w g ⟨s.toArray⟩ pos' o.type hg (by rw[hss];exact hlt');have hP:nxP s pos'=pos':=by unfold nxP;rw[if_neg hlt']
  have hV:nxV s pos'=.tup [.bool false]:=by unfold nxV;rw[if_neg hlt']
  have hM:=fin w (World.grownBy.refl w _) (by rw[hP];exact hg);refine AU (u:=.tuple #[.bool false]) (w':=w) ?_ (Nx.of hK (hM.put hd ?_) rfl)
  ·unfold execOp;simp[ho,hue,hrn]
  rw[hV];refine .tup _ _ _ rfl fun j u hu=>?_
  match j,hu with
  | 0,hu=>simp at hu;subst hu;exact .bool _ _
theorem JP[Glo]{o:Oper}{t:TypeId}{l c:Operand}(ho:o.op=.makeSlice t l c){e sz by_:Nat}(hs:slE P t=some (e,sz,by_)){kl kc:IntKind}{N:Int}(hl:ev st l=.int kl N)(hc:ev st c=.int kc N){z:List V}(hz:zeroE P e=some z)
  (h0:0<=N) (h1:N<=maxLen) (h2:by_*N.toNat<=281474976710656) (h3:N.toNat*sz<=16777216) (hd:∀d,o.dst=some d->d<st.n) (hR:RelM base Xa w0 st a w M)
  (hK:K ({st with nx:=st.nx+1,ob:=(st.nx,some ⟨e,sz,false,false,List.replicate N.toNat z⟩)::st.ob}.put o.dst (.own st.nx))):o.wp P a w (Nx base Xa w0 st.n K) Q:=by
 obtain⟨i,zv,hu,hi,hiz,hzsz,hisz,hby,hpos⟩:=Bd hs;obtain⟨i',zv',hi',hiz',hcs⟩:=Hj (P:=P) (M:=M) (w:=w) (X:=Xf base Xa w M st.ob) (n:=0) hz;rw[hi]at hi';simp only[gQ]at hi';subst hi';rw[hiz]at hiz';simp only[gQ]at hiz';subst hiz';have hle:=DK (hl▸CU hR.rx l);have hce:=DK (hc▸CU hR.rx c);obtain⟨n,rfl⟩:∃n:Nat,N=n:=⟨N.toNat,by omega⟩;simp only[Int.toNat_natCast]at h2 h3 hK;obtain⟨w',hrun,hown,hgr⟩:=run_makeSlice_full (P:=P) (w:=w) base t e i zv sz hu hi hiz hisz kl kc n h3 (by rw[hby];exact h2) (by omega) hR.hbase;have hzl:zv.cells.toList.length=sz:=by simpa using hzsz
 have hmc:(madeCells zv.cells (n*sz)).toList=(List.replicate n zv.cells.toList).flatten:=by
  have e1:=Ic zv.cells.toList n;rw[<- e1,hzl];simp only[madeCells,Array.toList_map,Array.toList_range];apply List.map_congr_left;intro j hj;have:j%sz<zv.cells.size:=by rw[hzsz];exact Nat.mod_lt _ hpos
  rw[hzsz,gP,Array.getElem?_toList,i9 this,getElem!_pos zv.cells (j%sz) this];rfl
 have hrep:=hcs.rep n;have hzlen:z.length=sz:=by rw[hcs.len];exact hzl
 obtain⟨M',hM,hn,hR'⟩:=hR.grow (ob1:=st.ob) (fun i o' ho'=>ho') none (fun b hx' e=>by cases e) (fun i o' ho' g hg e=>by cases e) (fun g hg=>by cases hg) hgr (.slice (some ⟨w.heap.size,0,none⟩) n n) (fun g hg=>by
   simp only[Value.ownB,gQ]at hg;exact .inr (by omega)) ⟨e,sz,false,false,List.replicate n z⟩ (fun _=>hpos) (fun x hx=>by rw[List.eq_of_mem_replicate hx];exact hzlen) (madeCells zv.cells (n*sz)).toList
   (by simpa using World.ownsG.of hown) (by rw[hmc];exact hrep.one) (fun j u hu=>by
    rw[hmc];exact hrep.rel j u hu)
 refine AU (u:=.slice (some ⟨w.heap.size,0,none⟩) n n) (w':=w') ?_ (Nx.of hK (hR'.put hd (v:=.own st.nx) (.own _ _ _ _ _ (by simp) hn)) rfl);unfold execOp;simp[ho,hle,hce,hrun]
theorem LV[Glo]{o:Oper}{t:TypeId}{l c:Operand}(ho:o.op=.makeSlice t l c){e sz by_:Nat}(hs:slE P t=some (e,sz,by_)){kl kc:IntKind}{N:Int}(hl:ev st l=.int kl 0)(hc:ev st c=.int kc N){z:List V}(hz:zeroE P e=some z)
  (h0:0<=N) (h1:N<=maxLen) (h2:by_*N.toNat<=281474976710656) (hd:∀d,o.dst=some d->d<st.n) (hR:RelM base Xa w0 st a w M)
  (hK:K ({st with nx:=st.nx+1,ob:=(st.nx,some ⟨e,sz,false,false,[]⟩)::st.ob}.put o.dst (.own st.nx))):o.wp P a w (Nx base Xa w0 st.n K) Q:=by
 obtain⟨i,zv,hu,hi,hiz,hzsz,hisz,hby,hpos⟩:=Bd hs;have hle:=DK (hl▸CU hR.rx l);have hce:=DK (hc▸CU hR.rx c);obtain⟨n,rfl⟩:∃n:Nat,N=n:=⟨N.toNat,by omega⟩;simp only[Int.toNat_natCast]at h2;obtain⟨w',hrun,hown,hgr⟩:=run_make_own (P:=P) (w:=w) base t e i zv sz hu hi hiz hisz kl kc n (by rw[hby];exact h2) (by omega) hR.hbase;obtain⟨M',hM,hn,hR'⟩:=hR.grow (ob1:=st.ob) (fun i o' ho'=>ho') none (fun b hx' e=>by cases e) (fun i o' ho' g hg e=>by cases e) (fun g hg=>by cases hg) hgr (.slice (some ⟨w.heap.size,0,none⟩) 0 n) (fun g hg=>by
   simp only[Value.ownB,gQ]at hg;exact .inr (by omega)) ⟨e,sz,false,false,[]⟩ (fun _=>hpos) (fun x hx=>by simp at hx) []
   (by simpa using World.ownsG.of hown) (by simp) (fun j u hu=>by simp at hu)
 refine AU (u:=.slice (some ⟨w.heap.size,0,none⟩) 0 n) (w':=w') ?_ (Nx.of hK (hR'.put hd (v:=.own st.nx) (.own _ _ _ _ _ (by simp) hn)) rfl);unfold execOp;simp[ho,hle,hce,hrun]
end
end Go.Ab
namespace Go.Ab
open Go.RowKit
theorem VQ{α:Type}:∀(us vs:List α)(xs:List α)(k:Nat),spl xs k (us++vs)=spl (spl xs k us) (k+us.length) vs
 | [],vs,xs,k=>by simp[spl]
 | u::us,vs,xs,k=>by
  simp only[iT,spl,iO];rw[VQ us vs];congr 1;omega
theorem Q5[Glo]{m:Nat}:∀(zs xs:List (List V))(k:Nat),(∀y∈xs,y.length=m)->(∀y∈zs,y.length=m)->k+zs.length<=xs.length ->
  (spl xs k zs).flatten=spl xs.flatten (k*m) zs.flatten/\∀y∈spl xs k zs,y.length=m
 | [],xs,k,hx,_,_=>by simpa[spl]using hx
 | z::zs,xs,k,hx,hz,hl=>by
  simp only[iO]at hl;have hzm:=hz z (g7 ..);have hx':∀y∈xs.set k z,y.length=m:=fun y hy=>by
   rcases List.mem_or_eq_of_mem_set hy with h|h
   ·exact hx y h
   subst h;exact hzm
  obtain⟨h1,h2⟩:=Q5 zs (xs.set k z) (k+1) hx' (fun y hy=>hz y (gW _ hy)) (by simp;omega);refine⟨?_,by simpa[spl]using h2⟩;simp only[spl,List.flatten_cons];rw[h1,P7 xs k z hx hzm (by omega),VQ,hzm,Nat.add_mul,Nat.one_mul]
section
variable {P:Program} {base:Nat} {Xa:Nat->Prop} {w0:W0} {w w':World} {st:St} {a:Act} {M M':Mp} {K:St->Prop} {Q:Exit->Act->World->Prop}
theorem RelM.storeN[Glo](h:RelM base Xa w0 st a w M){id:Nat}{o:Ob}(ho:lookO st.ob id=some o)(hf:o.fz=false)(hbox:o.box=false){g lo:Nat}(hg:(M id).ownBlock=some g){zs:List (List V)}(hz:∀y∈zs,y.length=o.sz)
  (hl:lo+zs.length<=o.xs.length) {us:List Value} (hds:Cs M w (Xf base Xa w M st.ob) 0 zs.flatten us) :
  ∃w',(storeCells ⟨g,(M id).offB+lo*o.sz,none⟩ us 0).run P w=.ok () w'/\RelM base Xa w0 {st with ob:=(id,some {o with xs:=Ab.spl o.xs lo zs})::st.ob} a w' M:=by
 obtain⟨hid,hok⟩:=h.obs id o ho;obtain⟨vals,hrow,h1,hr⟩:=hok.row;have hfl:=Bu o.xs hok.len;have hzl:=Bu zs hz;have hvl:=hrow.1;have hdl:=hds.len;have hle:lo*o.sz+zs.length*o.sz<=o.xs.length*o.sz:=by rw[<- Nat.add_mul];exact iW _ hl
 obtain⟨e,hlen'⟩:=Q5 zs o.xs lo hok.len hz hl;rcases hrow.sl (Jb hg)with⟨h2,h3⟩|⟨g',O,cap,cur,h2,rest⟩
 ·rw[h2]at hg;simp[Value.ownBlock]at hg
 rw[h2]at hg hrow;simp only[Value.ownBlock,gQ]at hg;subst hg;obtain⟨w',hrun,hown,hgr⟩:=Je (P:=P) (o:=lo*o.sz) us 0 vals w hrow (by omega) hds.one;have hgr':w.grownBy w' (M id).ownB:=by rw[h2];exact hgr
 refine⟨w',by rw[h2];exact hrun,?_⟩;refine h.modify (o':={o with xs:=Ab.spl o.xs lo zs}) ho hf hgr' ⟨hok.pos,hok.off,hlen',Ab.spl vals (lo*o.sz) us,?_,?_,?_⟩
 ·rw[h2];simpa[C6]using hown
 ·intro u hu;obtain⟨j,hj⟩:=List.getElem?_of_mem hu;rw[D3 _ _ _ _ (by omega)]at hj;split at hj
  ·exact hds.one _ (g9 hj)
  exact h1 _ (g9 hj)
 have hX:∀b,Xf base Xa w M st.ob b->Xf base Xa w' M ((id,some {o with xs:=Ab.spl o.xs lo zs})::st.ob) b:=fun b hx =>
  ⟨hx.1.imp (fun x=>x) fun h=>⟨h.1,by have:=hgr.size;omega⟩,fun i' o1 ho1 hf1=>by
   simp only[lookO]at ho1;split at ho1
   ·rename_i e;subst e;exact hx.2 _ o ho hf
   exact hx.2 i' o1 ho1 hf1⟩
 have hw:∀b,Xf base Xa w M st.ob b->w'.heap[b]? =w.heap[b]? :=fun b hx=>hgr'.block b (hx.lt h.xa h.hbase) (fun e=>hx.2 id o ho hf e.symm);simp only[hbox,iR,if_false]at hr;have hcs:Cs M w (Xf base Xa w M st.ob) 0 o.xs.flatten vals:=⟨by rw[hfl,hvl],h1,hr⟩;have:=(hcs.spl hds (lo*o.sz) (by omega)).mono (g8 _) (fun _ _=>rfl) hX hw;intro j u hu;rw[if_neg (by simp[hbox])];rw[e]at hu;exact this.rel j u hu
theorem dst_R[Glo](hR:RelM base Xa w0 st a w M){x:V}{u:Value}{id lo len:Nat}{o:Ob}(hd:dstV st x=some (id,lo,len))(hx:R M w (Xf base Xa w M st.ob) st.nx x u)(ho:lookO st.ob id=some o)(hbox:o.box=false)(hsz:szOk x o.sz)(hle:lo+len<=o.xs.length):
  ∃A c,u=.slice A len c/\(0<len->∃g,(M id).ownBlock=some g/\A=some ⟨g,(M id).offB+lo*o.sz,none⟩)/\(∀ad,A=some ad->∃g,(M id).ownBlock=some g):=by
 obtain⟨_,hok⟩:=hR.obs id o ho;obtain⟨vals,hrow,h1,hr⟩:=hok.row;unfold dstV at hd;split at hd
 ·rename_i i;split at hd
  ·rename_i o' ho';simp only[gQ,Prod.mk.injEq]at hd;obtain⟨rfl,rfl,rfl⟩:=hd;rw[ho']at ho;simp only[gQ]at ho;subst ho;obtain⟨_,rfl⟩:=Ik hx;rcases hrow.sl (EJ hx)with⟨h2,h3⟩|⟨g,O,cap,cur,h2,_⟩
   ·exact⟨none,0,by rw[h2,h3],fun h=>by omega,fun ad h=>by cases h⟩
   exact⟨_,_,h2,fun _=>⟨g,by rw[h2];rfl,by rw[h2];simp[Value.offB]⟩,fun _ _=>⟨g,by rw[h2];rfl⟩⟩
  cases hd
 ·rename_i i sz lo' len';simp only[gQ,Prod.mk.injEq]at hd;obtain⟨rfl,rfl,rfl⟩:=hd;obtain⟨g,O,N,cap,hv,hN,rfl⟩:=Il hx;have hszE:sz=o.sz:=hsz;subst hszE;refine⟨_,_,rfl,fun h0=>⟨g,by rw[hv];rfl,?_⟩,fun _ _=>⟨g,by rw[hv];rfl⟩⟩;rw[hv]at hrow;have hN':N=o.xs.length/\N<=cap:=by
   rcases hrow.sl ⟨_,_,_,rfl⟩with⟨h2,_⟩|⟨g',O',cap',cur,h2,_,_,h3,_⟩
   ·cases h2
   simp only[Value.slice.injEq]at h2;omega
  rw[nG,hv];rfl
 cases hd
theorem Qy[Glo]{o:Oper}{args:Array Operand}{tys:Array TypeId}{s x:Operand}{t t':TypeId}(ho:o.op=.call {callee:=.builtin .copy,args:=args,argTypes:=tys})(hargs:args.toList=[s,x])(htys:tys.toList=[t,t'])
  (h:copyV P o.dst t (ev st s) (ev st x) K st) (hd:∀d,o.dst=some d->d<st.n) (hR:RelM base Xa w0 st a w M):o.wp P a w (Nx base Xa w0 st.n K) Q:=by
 have e1:args=#[s,x]:=by cases args;simp at hargs;simp[hargs]
 have e2:tys=#[t,t']:=by cases tys;simp at htys;simp[htys]
 subst e1 e2;have hsv:=CU hR.rx s;have hxv:=CU hR.rx x;unfold copyV at h;split at h
 ·rename_i e sz by_ hs;obtain⟨i,z,hu,hi,hiz,hzsz,hisz,hby,hpos⟩:=Bd hs;split at h
  ·rename_i p ys id lo len hsrc hdst;split at h
   ·rename_i b hb;obtain⟨hp,hbox,hfz,hsz,hok,hle,hK⟩:=h;subst hsz;obtain⟨A,c,news,hxe,hnl,hn1,hyl,hA,hAn,hnr⟩:=src_R hR hsrc hp hxv;obtain⟨B,c',hse,hB,hB'⟩:=dst_R hR hdst hsv hb hbox hok hle;have hrun:∀v' w',(Builtin.copy_ #[t,t'] o.type #[a.eval s,a.eval x]).run P w=.ok v' w'->(execOp a.eval o).run P w=.ok (.value v') w':=fun v' w' h=>by
     obtain⟨cs,hcs⟩:=Bl (P:=P) (w:=w) (a:=a) .copy #[s,x] #[t,t'] o ho;rw[hcs];simp[invoke,builtin,h]
    have hmin:Nat.min ys.length len=min ys.length len:=rfl;by_cases h0:min ys.length len=0
    ·have hz:ys.take len=[]:=by
      apply iF;rw[iD];omega
     have e:{b with xs:=Ab.spl b.xs lo (ys.take len)}=b:=by rw[hz];rfl
     rw[e]at hK;have hR':RelM base Xa w0 {st with ob:=(id,some b)::st.ob} a w M:=hR.sub fun i o1 ho1=>by
      simp only[lookO]at ho1;split at ho1
      ·rename_i e;subst e;simp only[gQ]at ho1;subst ho1;exact⟨b.fz,hb,fun h=>h⟩
      exact⟨o1.fz,ho1,fun h=>h⟩
     refine AU (hrun (.int .i64 ((min ys.length len:Nat):Int)) w ?_) (Nx.of hK (hR'.put hd (.int _ _ _)) rfl);rw[hse,hxe];have hfc:∀A' c',(Builtin.firstCells b.sz 0 (.slice A' ys.length c')).run P w=.ok #[] w:=fun A' c'=>by
      cases A' with
      | none=>exact run_firstCells_none w _ _ _ _
      | some ad=>simpa using run_firstCells_some (P:=P) w b.sz 0 ad ys.length c' [] (by simp) (fun j v h=>by simp at h)
     cases B with
     | none=>simp[Builtin.copy_,run_underlying hu,Builtin.lenOf,hmin,h0,sizeOf,typeInfo,hi,hisz,hfc,Sem.run_bind,goInt]
     | some ad=>simp[Builtin.copy_,run_underlying hu,Builtin.lenOf,hmin,h0,sizeOf,typeInfo,hi,hisz,hfc,Sem.run_bind,goInt,storeCells]
    obtain⟨g,hg,rfl⟩:=hB (by omega);obtain⟨ad,rfl,hcell⟩:=hA (by omega);have hys:ys≠[]:=fun h=>by subst h;simp at h0
    have hyl':=hyl hys;have htl:(ys.take len).length=min ys.length len:=by rw[iD];omega
    have hzl:∀y∈ys.take len,y.length=b.sz:=fun y hy=>hyl' y (i5 hy);have hfl:=Bu (ys.take len) hzl;have htf:(ys.take len).flatten=ys.flatten.take (min ys.length len*b.sz):=by
     have:=FI ys hyl' (lo:=0) (len:=min ys.length len);simp only[List.drop_zero,Nat.zero_mul]at this;rw[<- this];congr 1;rw[List.take_eq_take_iff];omega
    have hmul:min ys.length len*b.sz<=ys.length*b.sz:=iW _ (Nat.min_le_left _ _);have hcs:Cs M w (Xf base Xa w M st.ob) 0 (ys.take len).flatten (news.take (min ys.length len*b.sz)):=⟨by rw[hfl,htl,iD];omega,fun u hu=>hn1 u (i5 hu),fun j u hu=>by
     rw[htf,iL]at hu;split at hu
     ·rename_i hj;have:=hnr j u hu;rwa[gP,iL,if_pos hj,<- gP]
     cases hu⟩
    obtain⟨w',hst,hR'⟩:=hR.storeN (P:=P) hb hfz hbox (lo:=lo) hg hzl (by omega) hcs;have hfc:=run_firstCells_some (P:=P) w b.sz (min ys.length len) ad ys.length c (news.take (min ys.length len*b.sz)) (by rw[iD];omega) (fun j v hv=>by
     rw[iL]at hv;split at hv
     ·exact hcell j v hv
     cases hv)
    refine AU (hrun (.int .i64 ((min ys.length len:Nat):Int)) w' ?_) (Nx.of hK (hR'.put hd (.int _ _ _)) rfl);rw[hse,hxe];simp[Builtin.copy_,run_underlying hu,Builtin.lenOf,hmin,sizeOf,typeInfo,hi,hisz,hfc,Sem.run_bind,hst,goInt]
   exact h.elim
  exact h.elim
 exact h.elim
theorem Nv[Glo]{o:Oper}{args:Array Operand}{tys:Array TypeId}{s:Operand}{t:TypeId}(ho:o.op=.call {callee:=.builtin .clear,args:=args,argTypes:=tys})(hargs:args.toList=[s])(htys:tys.toList=[t])
  (h:clrV P o.dst t (ev st s) K st) (hd:∀d,o.dst=some d->d<st.n) (hR:RelM base Xa w0 st a w M):o.wp P a w (Nx base Xa w0 st.n K) Q:=by
 have e1:args=#[s]:=by cases args;simp at hargs;simp[hargs]
 have e2:tys=#[t]:=by cases tys;simp at htys;simp[htys]
 subst e1 e2;have hsv:=CU hR.rx s;unfold clrV at h;split at h
 ·rename_i e sz by_ hs;obtain⟨i,z,hu,hi,hiz,hzsz,hisz,hby,hpos⟩:=Bd hs;split at h
  ·rename_i zc id lo len hz hdst;split at h
   ·rename_i b hb;obtain⟨hbox,hfz,hsz,hok,hle,hK⟩:=h;subst hsz;obtain⟨i',zv',hi',hiz',hcs⟩:=Hj (P:=P) (M:=M) (w:=w) (X:=Xf base Xa w M st.ob) (n:=0) hz;rw[hi]at hi';simp only[gQ]at hi';subst hi';rw[hiz]at hiz';simp only[gQ]at hiz';subst hiz';obtain⟨B,c',hse,hB,hB'⟩:=dst_R hR hdst hsv hb hbox hok hle;have hrun:∀v' w',(Builtin.clear_ #[t] o.type #[a.eval s]).run P w=.ok v' w'->(execOp a.eval o).run P w=.ok (.value v') w':=fun v' w' h=>by
     obtain⟨cs,hcs⟩:=Bl (P:=P) (w:=w) (a:=a) .clear #[s] #[t] o ho;rw[hcs];simp[invoke,builtin,h]
    by_cases h0:len=0
    ·subst h0;have e:{b with xs:=Ab.spl b.xs lo (List.replicate 0 zc)}=b:=rfl;rw[e]at hK;have hR':RelM base Xa w0 {st with ob:=(id,some b)::st.ob} a w M:=hR.sub fun i o1 ho1=>by
      simp only[lookO]at ho1;split at ho1
      ·rename_i e;subst e;simp only[gQ]at ho1;subst ho1;exact⟨b.fz,hb,fun h=>h⟩
      exact⟨o1.fz,ho1,fun h=>h⟩
     refine AU (hrun (.tuple #[]) w ?_) (Nx.of hK (hR'.put hd (.tup _ [] #[] rfl (fun j u hu=>by simp at hu))) rfl);rw[hse];cases B<;>simp[Builtin.clear_,run_underlying hu]
    obtain⟨g,hg,rfl⟩:=hB (by omega);have hzl:zc.length=b.sz:=by rw[hcs.len];simpa using hzsz
    have hrep:=hcs.rep len;obtain⟨w',hst,hR'⟩:=hR.storeN (P:=P) hb hfz hbox (lo:=lo) hg (zs:=List.replicate len zc) (fun y hy=>by rw[List.eq_of_mem_replicate hy];exact hzl) (by simpa using hle) hrep;have hzc:(Builtin.zeroCells z.cells len).toList=(List.replicate len z.cells.toList).flatten:=by
     have e1:=Ic z.cells.toList len;rw[<- e1];simp only[Builtin.zeroCells,Array.toList_map,Array.toList_range,Array.length_toList];apply List.map_congr_left;intro j hj;have:j%z.cells.size<z.cells.size:=Nat.mod_lt _ (by rw[hzsz];exact hpos);rw[gP,Array.getElem?_toList,i9 this,getElem!_pos z.cells (j%z.cells.size) this];rfl
    obtain⟨k,rfl⟩:∃k,len=k+1:=⟨len-1,by omega⟩;refine AU (hrun (.tuple #[]) w' ?_) (Nx.of hK (hR'.put hd (.tup _ [] #[] rfl (fun j u hu=>by simp at hu))) rfl);rw[hse];simp[Builtin.clear_,run_underlying hu,zeroValue,typeInfo,hi,hiz,Sem.run_bind,hzc,hst]
   exact h.elim
  exact h.elim
 exact h.elim
end
end Go.Ab
end
