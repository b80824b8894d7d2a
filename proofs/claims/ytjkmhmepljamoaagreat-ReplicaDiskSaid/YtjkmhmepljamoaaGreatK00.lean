/- A part of the proof of ReplicaDisk. -/
import Derived.Below
import Derived.ChangeKeysEq
import Derived.Laws.BytesArg
import Derived.Laws.BytesString
import Derived.Laws.OwnMore
import Derived.Laws.StructEq
import Derived.Lib.AppendStr
import Derived.Lib.ConvBytes
import Derived.Maps.AppendAt
import Derived.WalkKit
set_option linter.all false
set_option maxHeartbeats 16000000
set_option maxRecDepth 100000
namespace Go
theorem nG.{u}{c:Prop}{h:Decidable c}{α:Sort u}{a b:α}(g:¬c:=by omega):@ite α c h a b=b:=if_neg g
theorem nH.{u}{c:Prop}{h:Decidable c}{α:Sort u}{a b:α}(g:c:=by omega):@ite α c h a b=a:=if_pos g
abbrev gP := @List.getD_eq_getElem?_getD
abbrev gQ := @Option.some.injEq
abbrev gR := @List.getElem?_eq_getElem
abbrev gU := @Int.fdiv_eq_ediv_of_nonneg
abbrev gV := @List.length_append
abbrev gW := @List.mem_cons_of_mem
abbrev gX := @Bool.and_eq_true
abbrev gY := @Nat.min_eq_left
abbrev gZ := @Array.getD_eq_getD_getElem?
abbrev g7 := @List.mem_cons_self
abbrev g8 := @Nat.le_refl
abbrev g9 := @List.mem_of_getElem?
abbrev iC := @List.getD_cons_zero
abbrev iD := @List.length_take
abbrev iE := @List.length_drop
abbrev iF := @List.eq_nil_of_length_eq_zero
abbrev iG := @List.getElem?_map
abbrev iH := @List.append_assoc
abbrev iI := @List.map_cons
abbrev iJ := @Int.le_of_lt
abbrev iK := @List.getD_cons_succ
abbrev iL := @List.getElem?_take
abbrev iM := @Int.pow_pos
abbrev iN := @List.getElem?_append_right
abbrev iO := @List.length_cons
abbrev iP := @List.getElem?_drop
abbrev iQ := @List.getElem?_append_left
abbrev iR := @Bool.false_eq_true
abbrev iS := @List.getElem?_cons_zero
abbrev iT := @List.cons_append
abbrev iU := @List.append_nil
abbrev iV := @List.getElem?_eq_none
abbrev iW := @Nat.mul_le_mul_right
abbrev iY := @Nat.le_trans
abbrev iZ := @List.take_of_length_le
abbrev i5 := @List.mem_of_mem_take
abbrev i6 := @Nat.zero_add
abbrev i7 := @Bool.not_eq_true'
abbrev i9 := @Array.getElem?_eq_getElem
abbrev jA := @List.nil_append
end Go
section
namespace Go
def World.rowAt(w:World)(g:Nat)(cur:Array Value)(e:TypeId):Prop:=∃fz:Nat×Nat,w.heap[g]? =some (.cells cur e fz)/\(fz.2=0\/cur.size<=fz.1)
def Value.ownB:Value->Option Nat
 | .slice (some a) _ _=>some a.block
 | .map (some g)=>some g
 | .pointer (some a)=>some a.block
 | _=>none
def Value.offB:Value->Nat
 | .slice (some a) _ _=>a.off
 | _=>0
theorem Value.ownB_of{v:Value}{g:Nat}(h:v.ownBlock=some g):v.ownB=some g:=by
 unfold Value.ownBlock at h;split at h
 ·simpa[Value.ownB]using h
 cases h
def mapVals(es:List MapEntry):List Value:=es.flatMap fun e=>e.key::e.val.cells.toList
def mapOk(size:Nat)(e:MapEntry):Prop:=e.val.cells.size+1=size/\((size=2/\e.val.cells=#[e.val])\/(2<size/\∃arr,e.val=.agg arr))
def World.odd(w:World)(base:Nat)(size:Nat)(v:Value)(n:Nat)(xs:List Value):Prop :=
 (∃g es clk,v=.map (some g)/\base<=g/\w.heap[g]? =some (.map es clk)/\n=es.size/\2<=size/\(∀e∈es.toList,mapOk size e)/\xs=mapVals es.toList) \/
 ∃g s pos,v=.pointer (some ⟨g,0,none⟩)/\base<=g/\w.heap[g]? =some (.stringIter s pos)/\n=1/\size=2/\xs=[.string s,.int .i64 pos]
def World.ownsG(w:World)(base:Nat)(e:TypeId)(size:Nat)(v:Value)(n:Nat)(xs:List Value):Prop :=
 xs.length=n*size /\
 ((v=.slice none 0 0/\n=0) \/
  (∃g O cap cur,v=.slice (some ⟨g,O,none⟩) n cap/\base<=g/\w.rowAt g cur e/\n<=cap/\cap<=maxLen/\cur.size=O+cap*size/\(cur.toList.drop O).take (n*size)=xs) \/
  w.odd base size v n xs)
theorem World.rowAt.plain{w:World}{g:Nat}{cur:Array Value}{e:TypeId}(h:w.heap[g]? =some (.cells cur e (0,0))):w.rowAt g cur e:=⟨_,h,.inl rfl⟩
theorem World.rowAt.congr{w w':World}{g:Nat}{cur:Array Value}{e:TypeId}(h:w.rowAt g cur e)(hw:w'.heap[g]? =w.heap[g]?):w'.rowAt g cur e:=by
 obtain⟨fz,h1,h2⟩:=h;exact⟨fz,hw.trans h1,h2⟩
theorem World.rowAt.lt{w:World}{g:Nat}{cur:Array Value}{e:TypeId}(h:w.rowAt g cur e):g<w.heap.size:=by
 obtain⟨fz,h1,_⟩:=h;exact(Array.getElem?_eq_some_iff.1 h1).1
theorem World.rowAt.cell{w:World}{g:Nat}{cur:Array Value}{e:TypeId}(h:w.rowAt g cur e)(j:Nat):w.cell? ⟨g,j,none⟩=cur[j]? :=by
 obtain⟨fz,h1,_⟩:=h;exact cell_of_row w g j cur e fz h1
theorem World.rowAt.frozen{w:World}{g:Nat}{cur:Array Value}{e:TypeId}(h:w.rowAt g cur e)(j:Nat)(hj:j<cur.size):w.frozen? ⟨g,j,none⟩=false:=by
 obtain⟨⟨lo,hi⟩,h1,h2⟩:=h;simp only[World.frozen?,h1];rcases h2 with h2|h2
 ·simp only at h2;subst h2;simp
 simp only at h2;have:¬lo<=j:=by omega
 simp[this]
theorem World.rowAt.setRow{w:World}{g:Nat}{cur cs:Array Value}{e:TypeId}(h:w.rowAt g cur e)(hs:cs.size=cur.size):(w.setRow g cs).rowAt g cs e:=by
 obtain⟨fz,h1,h2⟩:=h;exact⟨fz,setRow_heap w g cur cs e fz h1,by rw[hs];exact h2⟩
theorem World.rowAt.setCell{w:World}{g j:Nat}{cur:Array Value}{e:TypeId}(h:w.rowAt g cur e)(u:Value):(w.setCell ⟨g,j,none⟩ u).rowAt g (cur.setIfInBounds j u) e:=by
 obtain⟨fz,h1,h2⟩:=h;rw[setCell_eq_setRow w g j cur e fz u h1];exact⟨fz,setRow_heap w g cur _ e fz h1,by simpa using h2⟩
section
variable {w:World} {base:Nat} {e:TypeId} {size:Nat} {v:Value} {n:Nat} {xs:List Value}
theorem World.odd.noSl{A:Option Addr}{l c:Nat}(h:w.odd base size (.slice A l c) n xs):False:=by
 rcases h with⟨g,es,clk,h,_⟩|⟨g,s,pos,h,_⟩<;>cases h
theorem World.odd.noBlk(h:w.odd base size v n xs):v.ownBlock=none:=by
 rcases h with⟨g,es,clk,rfl,_⟩|⟨g,s,pos,rfl,_⟩<;>rfl
theorem World.odd.lt(h:w.odd base size v n xs):∀k,v.ownB=some k->base<=k/\k<w.heap.size:=by
 intro k hk;rcases h with⟨g,es,clk,rfl,hb,hg,_⟩|⟨g,s,pos,rfl,hb,hg,_⟩<;>(simp[Value.ownB]at hk;subst hk;exact⟨hb,(Array.getElem?_eq_some_iff.1 hg).1⟩)
theorem World.odd.congr{w':World}{base':Nat}(h:w.odd base size v n xs)(hw:∀g,v.ownB=some g->w'.heap[g]? =w.heap[g]?)(hb:∀g,v.ownB=some g->base<=g->base'<=g):w'.odd base' size v n xs:=by
 rcases h with⟨g,es,clk,rfl,hbg,hg,rest⟩|⟨g,s,pos,rfl,hbg,hg,rest⟩
 ·exact .inl ⟨g,es,clk,rfl,hb g rfl hbg,(hw g rfl).trans hg,rest⟩
 exact .inr ⟨g,s,pos,rfl,hb g rfl hbg,(hw g rfl).trans hg,rest⟩
theorem World.ownsG.sl(h:w.ownsG base e size v n xs)(hs:∃A l c,v=.slice A l c):(v=.slice none 0 0/\n=0) \/
  ∃g O cap cur,v=.slice (some ⟨g,O,none⟩) n cap/\base<=g/\w.rowAt g cur e/\n<=cap/\cap<=maxLen/\cur.size=O+cap*size/\(cur.toList.drop O).take (n*size)=xs:=by
 obtain⟨A,l,c,rfl⟩:=hs;rcases h.2 with h|h|h
 ·exact .inl h
 ·exact .inr h
 exact h.noSl.elim
theorem Jb{v:Value}{g:Nat}(h:v.ownBlock=some g):∃A l c,v=.slice A l c:=by
 unfold Value.ownBlock at h;split at h
 ·exact⟨_,_,_,rfl⟩
 cases h
theorem J0{v:Value}(h:∃A l c,v=.slice A l c):v.ownB=v.ownBlock:=by
 obtain⟨A,l,c,rfl⟩:=h;cases A<;>rfl
theorem World.ownsG_nil(w:World)(base:Nat)(e:TypeId)(size:Nat):w.ownsG base e size (.slice none 0 0) 0 []:=⟨by simp,.inl ⟨rfl,rfl⟩⟩
theorem World.ownsG.of(h:w.ownsRow base e size v n xs):w.ownsG base e size v n xs:=by
 refine⟨h.1,?_⟩;rcases h.2 with h2|⟨g,cap,cur,h1,hb,hg,r1,r2,r3,r4⟩
 ·exact .inl h2
 exact .inr (.inl ⟨g,0,cap,cur,h1,hb,.plain hg,r1,r2,by rw[i6];exact r3,by simpa using r4⟩)
theorem World.ownsG.lt(h:w.ownsG base e size v n xs):∀k,v.ownB=some k->base<=k/\k<w.heap.size:=by
 intro k hk;rcases h.2 with⟨rfl,_⟩|⟨g,O,cap,cur,rfl,hb,hg,_⟩|hodd
 ·simp[Value.ownB]at hk
 ·simp[Value.ownB]at hk;subst hk;exact⟨hb,hg.lt⟩
 exact hodd.lt k hk
theorem World.ownsG.cells(h:w.ownsG base e size v n xs){g:Nat}(hg:v.ownBlock=some g):∀j u,xs[j]? =some u->w.cell? ((⟨g,v.offB,none⟩:Addr).add j)=some u:=by
 intro j u hu;rcases h.2 with⟨rfl,_⟩|⟨g',O,cap,cur,rfl,_,hgg,_,_,_,htake⟩|hodd
 rotate_left 2
 ·rw[hodd.noBlk]at hg;cases hg
 ·simp[Value.ownBlock]at hg
 simp[Value.ownBlock]at hg;subst hg;have hadd:(⟨g',O,none⟩:Addr).add j=⟨g',O+j,none⟩:=by unfold Addr.add;split<;>simp_all
 show w.cell? ((⟨g',O,none⟩:Addr).add j)=some u;rw[hadd,hgg.cell];rw[<- htake,iL]at hu;split at hu
 ·simpa[iP]using hu
 cases hu
variable {g O cap:Nat}
theorem World.ownsG.row(h:w.ownsG base e size (.slice (some ⟨g,O,none⟩) n cap) n xs):∃cur,base<=g/\w.rowAt g cur e/\n<=cap/\cap<=maxLen/\cur.size=O+cap*size/\(cur.toList.drop O).take (n*size)=xs:=by
 rcases h.2 with⟨h',_⟩|⟨g',O',cap',cur,h',rest⟩|hodd
 rotate_left 2
 ·exact hodd.noSl.elim
 ·simp at h'
 simp only[Value.slice.injEq,gQ,Addr.mk.injEq,and_true,true_and]at h';obtain⟨⟨rfl,rfl⟩,rfl⟩:=h';exact⟨cur,rest⟩
theorem World.ownsG.cellAt(h:w.ownsG base e size (.slice (some ⟨g,O,none⟩) n cap) n xs)(j:Nat)(hj:j<n*size):w.cell? ⟨g,O+j,none⟩=xs[j]? :=by
 obtain⟨cur,_,hg,_,_,_,htake⟩:=h.row;rw[hg.cell,<- htake,iL,if_pos hj];simp[iP]
theorem World.ownsG.frozenAt(h:w.ownsG base e size (.slice (some ⟨g,O,none⟩) n cap) n xs)(j:Nat)(hj:j<n*size):w.frozen? ⟨g,O+j,none⟩=false:=by
 obtain⟨cur,_,hg,hnc,_,hcs,htake⟩:=h.row;exact hg.frozen _ (by rw[hcs];exact Nat.add_lt_add_left (Nat.lt_of_lt_of_le hj (iW _ hnc)) _)
theorem MZ{α:Type}(l:List α)(O j:Nat)(u:α):(l.set (O+j) u).drop O=(l.drop O).set j u:=by
 rw[List.drop_set,nG,show O+j-O=j by omega]
theorem World.ownsG.stored(h:w.ownsG base e size (.slice (some ⟨g,O,none⟩) n cap) n xs)(j:Nat)(u:Value):
  (w.setCell ⟨g,O+j,none⟩ u).ownsG base e size (.slice (some ⟨g,O,none⟩) n cap) n (xs.set j u)/\w.grownBy (w.setCell ⟨g,O+j,none⟩ u) (some g):=by
 obtain⟨cur,hb,hg,hnc,hcm,hcs,htake⟩:=h.row;refine⟨⟨by simpa using h.1,.inr (.inl ⟨g,O,cap,cur.setIfInBounds (O+j) u,rfl,hb,hg.setCell u,hnc,hcm,by simpa using hcs,?_⟩)⟩,
  ⟨rfl,rfl,rfl,by simp,fun k _ hk=>heap_setCell_other w ⟨g,O+j,none⟩ k u (fun e=>hk (by simp[e]))⟩⟩
 rw[Array.toList_setIfInBounds,<- htake,MZ,List.take_set]
end
theorem Gd{α:Type}(l news rest:List α)(O k:Nat)(h:O+k<=l.length):((l.take (O+k)++news++rest).drop O).take (k+news.length)=(l.drop O).take k++news:=by
 have e:l.take (O+k)=l.take O++(l.drop O).take k:=List.take_add;have h1:(l.take O).length=O:=by rw[iD];omega
 have h2:((l.drop O).take k).length=k:=by rw[iD,iE];omega
 rw[e,iH,iH,List.drop_left' h1,<- iH,List.take_left' (by rw[gV,h2])]
section
variable {P:Program}
theorem Cr(g o:Nat)(t:TypeId):∀(vs:List Value)(i:Nat)(cur:Array Value)(w:World),w.rowAt g cur t->o+i+vs.length<=cur.size->(∀v∈vs,v.oneCell'=true) ->
  (storeCells ⟨g,o,none⟩ vs i).run P w=.ok () (w.setRow g (cur.toList.take (o+i)++vs++cur.toList.drop (o+i+vs.length)).toArray)
 | [],i,cur,w,hg,_,_=>by
  obtain⟨fz,h1,_⟩:=hg;simp only[storeCells,iU,List.length_nil,Nat.add_zero,List.take_append_drop,Array.toArray_toList];rw[setRow_self w g cur t fz h1];rfl
 | v::rest,i,cur,w,hg,hl,h1=>by
  have hlt:o+i<cur.size:=by simp at hl;omega
  have e:(⟨g,o,none⟩:Addr).add i=⟨g,o+i,none⟩:=by unfold Addr.add;split<;>simp_all
  have hc:w.cell? ⟨g,o+i,none⟩=some cur[o+i]:=by rw[hg.cell,i9 hlt]
  have hf:=hg.frozen (o+i) hlt;have ih:=Cr g o t rest (i+1) (cur.setIfInBounds (o+i) v) (w.setCell ⟨g,o+i,none⟩ v) (hg.setCell v) (by simp at hl ⊢;omega) (fun u hu=>h1 u (gW _ hu));simp only[storeCells,Sem.run_bind,e,run_store P w _ v .plain (h1 v (g7 ..)),hc,hf];simp only[Result.andThen,iR,if_false];rw[ih];obtain⟨fz,hh,_⟩:=hg;rw[setCell_eq_setRow w g (o+i) cur t fz v hh,setRow_setRow];congr 2;apply congrArg List.toArray;apply List.ext_getElem?;intro j;simp only[Array.toList_setIfInBounds,List.getElem?_append,gV,iD,List.length_set,Array.length_toList,iO,iL,iP,List.getElem?_set];rcases Nat.lt_trichotomy j (o+i)with hj|hj|hj
  ·simp(disch:=omega) [hj]
   grind
  ·subst hj
   grind
  grind
theorem IL(w:World)(t ty e:TypeId)(i:TypeInfo)(ht:P.underlying t=some (.slice e))(hi:P.info? e=some i)
  (g O sLen sCap:Nat) (cur:Array Value) (hg:w.rowAt g cur e)
  (a:Addr) (m c:Nat) (news:List Value) (hl:news.length=m*i.size) (hnews:∀j u,news[j]? =some u->w.cell? (a.add j)=some u) (h1:∀u∈news,u.oneCell'=true)
  (hroom:sLen+m<=sCap) (hfit:O+sLen*i.size+news.length<=cur.size) :
  (Builtin.append_ #[t,t] ty #[.slice (some ⟨g,O,none⟩) sLen sCap,.slice (some a) m c]).run P w =
   .ok (.slice (some ⟨g,O,none⟩) (sLen+m) sCap) (w.setRow g (cur.toList.take (O+sLen*i.size)++news++cur.toList.drop (O+sLen*i.size+news.length)).toArray):=by
 have hf:=run_firstCells_some (P:=P) w i.size m a m c news hl hnews;have hst:=Cr (P:=P) g (O+sLen*i.size) e news 0 cur w hg (by simpa using hfit) h1;simp only[Nat.add_zero]at hst;simp[Builtin.append_,run_underlying ht,sizeOf,typeInfo,hi,Builtin.lenOf,hroom,hf,Addr.add_lit,hst]
theorem NX(w:World)(base:Nat)(t ty e:TypeId)(i:TypeInfo)(z:Value)(size bytes:Nat)(ht:P.underlying t=some (.slice e))(hi:P.info? e=some i)(hz:i.zero=some z)
  (hsize:i.size=size) (hby:i.bytes=bytes) (hzs:z.cells.size=size) (hsz:0<size)
  (v:Value) (n:Nat) (xs:List Value) (hown:w.ownsG base e size v n xs) (hslv:∃A l c,v=.slice A l c)
  (a:Addr) (m c:Nat) (news:List Value) (hl:news.length=m*size) (hnews:∀j u,news[j]? =some u->w.cell? (a.add j)=some u) (h1:∀u∈news,u.oneCell'=true)
  (h63:n+m<=maxLen) (hbytes:(n+m)*bytes<=140737488355328) (hbase:base<=w.heap.size) :
  ∃v' w',(Builtin.append_ #[t,t] ty #[v,.slice (some a) m c]).run P w=.ok v' w'/\w'.ownsG base e size v' (n+m) (xs++news)/\w.grownBy w' v.ownBlock /\
   (v'.ownBlock=v.ownBlock\/v'.ownBlock=some w.heap.size)/\(v'.offB=0\/v'.offB=v.offB)/\∃A l c,v'=.slice A l c:=by
 subst hsize;subst hby;have hlen:(xs++news).length=(n+m)*i.size:=by rw[gV,hown.1,hl,Nat.add_mul]
 rcases hown.2 with⟨rfl,rfl⟩|⟨g,O,cap,cur,rfl,hbg,hg,hnc,hcm,hcs,htake⟩|hodd
 rotate_left 2
 ·obtain⟨A,l,c,rfl⟩:=hslv;exact hodd.noSl.elim
 ·have hx:xs=[]:=iF (by simpa using hown.1);subst hx;obtain⟨v',w',h1',h2',h3',_,h5'⟩:=run_append_own_at (P:=P) w base t ty e i z i.size i.bytes ht hi hz rfl rfl hzs hsz (.slice none 0 0) 0 [] (World.ownsRow_nil w base e i.size) a m c news hl hnews h1 h63 hbytes hbase;refine⟨v',w',h1',.of h2',h3',h5',?_⟩;rcases h2'.2 with⟨h,_⟩|⟨g,cap,cur,h,_⟩<;>exact⟨.inl (by rw[h];rfl),_,_,_,h⟩
 by_cases hroom:n+m<=cap
 ·have hfit:O+n*i.size+news.length<=cur.size:=by
   have:=iW i.size hroom;rw[Nat.add_mul]at this;rw[hl,hcs];omega
  have hr:=IL (P:=P) w t ty e i ht hi g O n cap cur hg a m c news hl hnews h1 hroom hfit;have hsz':(cur.toList.take (O+n*i.size)++news++cur.toList.drop (O+n*i.size+news.length)).toArray.size=cur.size:=by
   simp only[List.size_toArray,gV,iD,iE,Array.length_toList];omega
  refine⟨_,_,hr,⟨hlen,.inr (.inl ⟨g,O,cap,_,rfl,hbg,hg.setRow hsz',hroom,hcm,by rw[hsz',hcs],?_⟩)⟩,⟨rfl,rfl,rfl,by simp,fun k _ hk=>setRow_other w g k _ (fun e=>hk (by simp[Value.ownBlock,e]))⟩,Or.inl rfl,Or.inr rfl,⟨_,_,_,rfl⟩⟩;have hdt:=Gd cur.toList news (cur.toList.drop (O+n*i.size+news.length)) O (n*i.size) (by simp only[Array.length_toList];omega);rw[htake,hl,<- Nat.add_mul]at hdt;rw[hl];exact hdt
 have holds:∀j u,xs[j]? =some u->w.cell? ((⟨g,O,none⟩:Addr).add j)=some u:=hown.cells (g:=g) rfl;have hr:=run_append_grow (P:=P) w t ty e i z ht hi hz ⟨g,O,none⟩ n cap xs hown.1 holds a m c news hl hnews (by omega) (by simp only[maxLen]at h63;omega) (growslice_fits (by omega) hbytes);have hge:=grownCap_ge w (n+m) cap e;have hcm':grownCap w (n+m) cap e<=maxLen:=grownCap_le_maxLen w (n+m) cap e h63;refine⟨_,_,hr,⟨hlen,.inr (.inl ⟨w.heap.size,0,_,_,rfl,hbase,.plain (heap_alloc_new w.drew _),hge,hcm',?_,?_⟩)⟩,⟨rfl,rfl,rfl,by simp,fun k hk _=>(World.grownBy_alloc w.drew _ none).block k hk (by simp)⟩,Or.inr rfl,Or.inl rfl,⟨_,_,_,rfl⟩⟩
 ·simp only[Array.size_append,List.size_toArray,size_zeroCells,hzs,hown.1,hl,<- Nat.add_mul,i6];congr 1;omega
 simp only[Array.toList_append,iH,List.drop_zero];rw[<- iH,<- hlen];exact List.take_left
theorem Lk(w:World)(base:Nat)(t u ty e:TypeId)(i:TypeInfo)(ht:P.underlying t=some (.slice e))(hu:P.underlying u=some .string)(hi:P.info? e=some i)(hz:i.zero=some (.int .u8 0))(hsize:i.size=1)(hby:i.bytes=1)
  (v:Value) (n:Nat) (xs:List Value) (hown:w.ownsG base e 1 v n xs) (hslv:∃A l c,v=.slice A l c) (s:ByteArray) (h63:n+s.size<=maxLen) (hbytes:n+s.size<=140737488355328) (hbase:base<=w.heap.size) :
  ∃v' w',(Builtin.append_ #[t,u] ty #[v,.string s]).run P w=.ok v' w'/\w'.ownsG base e 1 v' (n+s.size) (xs++Lib.strCells s)/\w.grownBy w' v.ownBlock /\
   (v'.ownBlock=v.ownBlock\/∃g,v'.ownBlock=some g/\w.heap.size<=g)/\(v'.offB=0\/v'.offB=v.offB)/\∃A l c,v'=.slice A l c:=by
 have hxl:xs.length=n:=by simpa using hown.1
 have hsl:=Lib.strCells_length s;have hlen:(xs++Lib.strCells s).length=(n+s.size)*1:=by rw[gV,hxl,hsl,Nat.mul_one]
 have hsmall:n+s.size<=9223372036854775807:=by simp only[maxLen]at h63;omega
 rcases hown.2 with⟨rfl,rfl⟩|⟨g,O,cap,cur,rfl,hbg,hg,hnc,hcm,hcs,htake⟩|hodd
 rotate_left 2
 ·obtain⟨A,l,c,rfl⟩:=hslv;exact hodd.noSl.elim
 ·have hx:xs=[]:=iF hxl;subst hx;obtain⟨v',w',h1',h2',h3',_⟩:=Lib.run_append_own_string (P:=P) w w.heap.size t u ty e i ht hu hi hz hsize hby (.slice none 0 0) 0 [] (World.ownsRow_nil w w.heap.size e 1) s h63 hbytes (g8 _);rcases h2'.2 with⟨h,h0⟩|⟨g,cap,cur,h,hbg,hg,r1,r2,r3,r4⟩
  ·exact⟨v',w',h1',⟨h2'.1,.inl ⟨h,h0⟩⟩,h3',.inl (by rw[h]),.inl (by rw[h];rfl),_,_,_,h⟩
  exact⟨v',w',h1',⟨h2'.1,.inr (.inl ⟨g,0,cap,cur,h,iY hbase hbg,.plain hg,r1,r2,by rw[i6];exact r3,by simpa using r4⟩)⟩,h3',.inr ⟨g,by rw[h];rfl,hbg⟩,.inl (by rw[h];rfl),_,_,_,h⟩
 by_cases hroom:n+s.size<=cap
 ·have hfit:O+n+(Lib.strCells s).length<=cur.size:=by rw[hsl,hcs,Nat.mul_one];omega
  have hf:=Lib.run_firstCells_string (P:=P) w 1 s;have hst:=Cr (P:=P) g (O+n) e (Lib.strCells s) 0 cur w hg (by simpa using hfit) (Lib.strCells_oneCell s);simp only[Nat.add_zero]at hst;have hr:(Builtin.append_ #[t,u] ty #[.slice (some ⟨g,O,none⟩) n cap,.string s]).run P w=.ok (.slice (some ⟨g,O,none⟩) (n+s.size) cap) (w.setRow g (cur.toList.take (O+n)++Lib.strCells s++cur.toList.drop (O+n+(Lib.strCells s).length)).toArray):=by
   simp[Builtin.append_,run_underlying ht,run_underlying hu,sizeOf,typeInfo,hi,hsize,Builtin.lenOf,hroom,hf,Addr.add_lit,hst]
  have hsz':(cur.toList.take (O+n)++Lib.strCells s++cur.toList.drop (O+n+(Lib.strCells s).length)).toArray.size=cur.size:=by
   simp only[List.size_toArray,gV,iD,iE,Array.length_toList];omega
  rw[Nat.mul_one]at htake;refine⟨_,_,hr,⟨hlen,.inr (.inl ⟨g,O,cap,_,rfl,hbg,hg.setRow hsz',hroom,hcm,by rw[hsz',hcs],?_⟩)⟩,⟨rfl,rfl,rfl,by simp,fun k _ hk=>setRow_other w g k _ (fun e=>hk (by simp[Value.ownBlock,e]))⟩,Or.inl rfl,Or.inr rfl,⟨_,_,_,rfl⟩⟩;have hdt:=Gd cur.toList (Lib.strCells s) (cur.toList.drop (O+n+(Lib.strCells s).length)) O n (by simp only[Array.length_toList];omega);rw[htake,hsl]at hdt;rw[Nat.mul_one,hsl];exact hdt
 have holds:∀j u,xs[j]? =some u->w.cell? ((⟨g,O,none⟩:Addr).add j)=some u:=hown.cells (g:=g) rfl;have hr:=Lib.run_append_grow_string (P:=P) w t u ty e i (.int .u8 0) ht hu hi hz ⟨g,O,none⟩ n cap xs (by rw[hxl,hsize,Nat.mul_one]) holds s (by omega) (by omega) (by rw[hby];exact growslice_fits (by omega) (by omega));have hge:=grownCap_ge w (n+s.size) cap e;have hcm':grownCap w (n+s.size) cap e<=maxLen:=grownCap_le_maxLen w (n+s.size) cap e h63;have hz1:(Value.int IntKind.u8 0).cells.size=1:=rfl;refine⟨_,_,hr,⟨hlen,.inr (.inl ⟨w.heap.size,0,_,_,rfl,hbase,.plain (heap_alloc_new w.drew _),hge,hcm',?_,?_⟩)⟩,⟨rfl,rfl,rfl,by simp,fun k hk _=>(World.grownBy_alloc w.drew _ none).block k hk (by simp)⟩,Or.inr ⟨_,rfl,g8 _⟩,Or.inl rfl,⟨_,_,_,rfl⟩⟩
 ·simp only[Array.size_append,List.size_toArray,size_zeroCells,hz1,hxl,hsl];omega
 simp only[Array.toList_append,iH,List.drop_zero];rw[<- iH,<- hlen];exact List.take_left
theorem Ou(w:World)(base:Nat)(src dst e:TypeId)(s:List UInt8){u:TypeDesc}(hs:P.underlying src=some u)(hd:P.underlying dst=some (.slice e))(he:P.underlying e=some (.int .u8))
  (hl:s.length<=maxLen) (hbase:base<=w.heap.size) :
  ∃cap w',(convert src dst (.string ⟨s.toArray⟩)).run P w=.ok (.slice (some ⟨w.heap.size,0,none⟩) s.length cap) w' /\
   w'.ownsG base e 1 (.slice (some ⟨w.heap.size,0,none⟩) s.length cap) s.length (s.map fun b=>Value.int .u8 b.toNat)/\w.grownBy w' none:=by
 have hr:=Lib.run_convert_string_bytes (P:=P) w src dst e ⟨s.toArray⟩ hs hd he;have hsz:(⟨s.toArray⟩:ByteArray).size=s.length:=by simp[ByteArray.size]
 rw[hsz]at hr;have hge:=grownCap_ge w s.length 0 e;have hcm:=grownCap_le_maxLen w s.length 0 e hl;refine⟨_,_,hr,⟨by simp,.inr (.inl ⟨w.heap.size,0,_,_,rfl,hbase,⟨_,Lib.bytesWorld_at_new w e ⟨s.toArray⟩,.inr (g8 _)⟩,hge,hcm,?_,?_⟩)⟩,?_⟩
 ·simp[Lib.bytesCells,hsz];omega
 ·simp[Lib.bytesCells]
 exact⟨by simp[Lib.bytesWorld,World.freeze,World.alloc,World.drew,-World.alloc_eq,-World.drew_eq],by simp[Lib.bytesWorld,World.freeze,World.alloc,World.drew,-World.alloc_eq,-World.drew_eq],by simp[Lib.bytesWorld,World.freeze,World.alloc,World.drew,-World.alloc_eq,-World.drew_eq],by rw[Lib.bytesWorld_size];omega,fun k hk _=>Lib.bytesWorld_at_old w e _ k hk⟩
end
end Go
namespace Go.Ab
open Go.RowKit
inductive V where
 | poi
 | bool (b:Bool)
 | int (k:IntKind) (n:Int)
 | str (s:List UInt8)
 | st (cs:List V)
 | sl (sz:Nat) (tight:Bool) (xs:List (List V))
 | own (id:Nat)
 | ptr (id sz i off:Nat)
 | iptr (cs:List V)
 | tup (vs:List V)
 | new (ety sz:Nat) (xs:List (List V))
 | fn (f:FuncId)
 | gd (b:Bool) (v:V)
 | part (id sz lo len:Nat)
 | clo (f:FuncId) (cs:List V)
 | omap (id:Nat)
 | mp (sz:Nat) (xs:List (List V))
 | newm (ety sz:Nat) (xs:List (List V))
 | itr (id:Nat)
 | nilp
 | yld (l:Nat)
 | cap (f:FuncId) (fs cs:List (Option (Nat×Nat)))
 deriving Inhabited
abbrev Mp:=Nat->Value
def CapR(M:Mp)(n:Nat)(p:Option (Nat×Nat))(u:Value):Prop :=
 match p with
 | none=>u=.pointer none
 | some q=>q.1<n/\∃g,(M q.1).ownBlock=some g/\u=.pointer (some ⟨g,(M q.1).offB,none⟩)
theorem CapR.mono{M M':Mp}{n n':Nat}{p:Option (Nat×Nat)}{u:Value}(h:CapR M n p u)(hn:n<=n')(hM:∀i,i<n->M' i=M i):CapR M' n' p u:=by
 cases p with
 | none=>exact h
 | some q =>
  obtain⟨h1,g,h2,h3⟩:=h;exact⟨Nat.lt_of_lt_of_le h1 hn,g,by rw[hM _ h1];exact h2,by rw[hM _ h1];exact h3⟩
inductive R(M:Mp)(w:World)(X:Nat->Prop):Nat->V->Value->Prop where
 | poi (n:Nat) (v:Value):R M w X n .poi v
 | bool (n:Nat) (b:Bool):R M w X n (.bool b) (.bool b)
 | nilp (n:Nat):R M w X n .nilp (.pointer none)
 | yld (n l:Nat):R M w X n (.yld l) (.func (.yield l) #[] #[])
 | int (n:Nat) (k:IntKind) (i:Int):R M w X n (.int k i) (.int k i)
 | str (n:Nat) (s:List UInt8):R M w X n (.str s) (.string ⟨s.toArray⟩)
 | st (n:Nat) (cs:List V) (arr:Array Value) (hl:cs.length=arr.size) (h1:∀u∈arr,u.oneCell'=true) (h:∀(j:Nat)(u:V),cs[j]? =some u->R M w X n u (arr.getD j undef)):R M w X n (.st cs) (.agg arr)
 | sl (n sz:Nat) (t:Bool) (xs:List (List V)) (A:Option Addr) (len c:Nat) (f:Nat->Value) (hlen:len=xs.length) (hc:len<=c) (hm:c<=maxLen) (ht:t=true->c=len) (hnil:sz=0->A=none/\c=0)
   (hs:∀x∈xs,x.length=sz)
   (hA:0<len->∃ad,A=some ad/\X ad.block/\∀j,j<len*sz->w.cell? (ad.add j)=some (f j)/\(f j).oneCell'=true)
   (h:∀(j:Nat)(u:V),xs.flatten[j]? =some u->R M w X 0 u (f j)):R M w X n (.sl sz t xs) (.slice A len c)
 | own (n id:Nat) (A:Option Addr) (l c:Nat) (hid:id<n) (hv:M id=.slice A l c):R M w X n (.own id) (.slice A l c)
 | ptr (n id sz i off g k:Nat) (hid:id<n) (hg:(M id).ownBlock=some g) (hk:k=(M id).offB+(i*sz+off)):R M w X n (.ptr id sz i off) (.pointer (some ⟨g,k,none⟩))
 | iptr (n:Nat) (cs:List V) (ad:Addr) (f:Nat->Value) (hX:X ad.block) (hc:∀j,j<cs.length->w.cell? (ad.add j)=some (f j)/\(f j).oneCell'=true)
   (h:∀(j:Nat)(u:V),cs[j]? =some u->R M w X 0 u (f j)):R M w X n (.iptr cs) (.pointer (some ad))
 | tup (n:Nat) (vs:List V) (arr:Array Value) (hl:vs.length=arr.size) (h:∀(j:Nat)(u:V),vs[j]? =some u->R M w X n u (arr.getD j undef)):R M w X n (.tup vs) (.tuple arr)
 | fn (n:Nat) (f:FuncId):R M w X n (.fn f) (.func (.func f) #[] #[])
 | clo (n:Nat) (f:FuncId) (cs:List V) (arr:Array Value) (hl:arr.size=cs.length) (h:∀(j:Nat)(u:V),cs[j]? =some u->R M w X 0 u (arr.getD j undef)):R M w X n (.clo f cs) (.func (.func f) #[] arr)
 | part (n id sz lo len g O N cap:Nat) (hid:id<n) (hv:M id=.slice (some ⟨g,O,none⟩) N cap) (hl:lo+len<=N):R M w X n (.part id sz lo len) (.slice (some ⟨g,if cap=lo then O else O+lo*sz,none⟩) len (cap-lo))
 | omap (n id g:Nat) (hid:id<n) (hv:M id=.map (some g)):R M w X n (.omap id) (.map (some g))
 | itr (n id g:Nat) (hid:id<n) (hv:M id=.pointer (some ⟨g,0,none⟩)):R M w X n (.itr id) (.pointer (some ⟨g,0,none⟩))
 | mp (n sz:Nat) (xs:List (List V)) (g:Nat) (es:Array MapEntry) (clk:Nat) (hX:X g) (hg:w.heap[g]? =some (.map es clk)) (hn:xs.length=es.size) (hsz:2<=sz) (hok:∀e∈es.toList,mapOk sz e)
   (hs:∀x∈xs,x.length=sz) (h1:∀u∈mapVals es.toList,u.oneCell'=true) (h:∀(j:Nat)(u:V),xs.flatten[j]? =some u->R M w X 0 u ((mapVals es.toList).getD j undef)):R M w X n (.mp sz xs) (.map (some g))
 | cap (n:Nat) (f:FuncId) (fs cs:List (Option (Nat×Nat))) (fa ca:Array Value) (hf:fa.size=fs.length) (hc:ca.size=cs.length)
   (h1:∀j p,fs[j]? =some p->CapR M n p (fa.getD j undef)) (h2:∀j p,cs[j]? =some p->CapR M n p (ca.getD j undef)):R M w X n (.cap f fs cs) (.func (.func f) fa ca)
 | gd (n:Nat) (b:Bool) (v:V) (u:Value) (h:b=true->R M w X n v u) (h0:b=false->u=undef):R M w X n (.gd b v) u
theorem R.mono2{M M':Mp}{n n':Nat}{w w':World}{X X':Nat->Prop}{v:V}{u:Value}(h:R M w X n v u)(hn:n<=n')(hM:∀i,i<n->M' i=M i)
  (hX:∀b,X b->X' b) (hcell:∀(ad:Addr)(j:Nat),X ad.block->w'.cell? (ad.add j)=w.cell? (ad.add j)) (hmap:∀g es clk,X g->w.heap[g]? =some (.map es clk)->w'.heap[g]? =some (.map es clk)):R M' w' X' n' v u:=by
 induction h generalizing n' with
 | poi n v=>exact .poi _ v
 | nilp n=>exact .nilp _
 | yld n l=>exact .yld _ _
 | bool n b=>exact .bool _ b
 | int n k i=>exact .int _ k i
 | str n s=>exact .str _ s
 | st n cs arr hl h1 h ih=>exact .st _ cs arr hl h1 fun j u hu=>ih j u hu hn hM
 | sl n sz t xs A len c f hlen hc hm ht hnil hs hA h ih =>
  refine .sl _ sz t xs A len c f hlen hc hm ht hnil hs (fun h0=>?_) fun j u hu=>ih j u hu (g8 _) (fun i hi=>absurd hi (by omega));obtain⟨ad,e,hx,hc'⟩:=hA h0;exact⟨ad,e,hX _ hx,fun j hj=>⟨(hcell ad j hx).trans (hc' j hj).1,(hc' j hj).2⟩⟩
 | own n id A l c hid hv=>exact .own _ id A l c (by omega) (by rw[hM id hid];exact hv)
 | ptr n id sz i off g k hid hg hk=>exact .ptr _ id sz i off g k (by omega) (by rw[hM id hid];exact hg) (by rw[hM id hid];exact hk)
 | iptr n cs ad f hx hc h ih =>
  exact .iptr _ cs ad f (hX _ hx) (fun j hj=>⟨(hcell ad j hx).trans (hc j hj).1,(hc j hj).2⟩) fun j u hu=>ih j u hu (g8 _) (fun i hi=>absurd hi (by omega))
 | tup n vs arr hl h ih=>exact .tup _ vs arr hl fun j u hu=>ih j u hu hn hM
 | fn n f=>exact .fn _ f
 | clo n f cs arr hl h ih=>exact .clo _ f cs arr hl fun j u hu=>ih j u hu (g8 _) (fun i hi=>absurd hi (by omega))
 | part n id sz lo len g O N cap hid hv hl=>exact .part _ id sz lo len g O N cap (by omega) (by rw[hM id hid];exact hv) hl
 | omap n id g hid hv=>exact .omap _ id g (by omega) (by rw[hM id hid];exact hv)
 | itr n id g hid hv=>exact .itr _ id g (by omega) (by rw[hM id hid];exact hv)
 | mp n sz xs g es clk hx hg hl hsz hok hs h1 h ih =>
  exact .mp _ sz xs g es clk (hX _ hx) (hmap _ _ _ hx hg) hl hsz hok hs h1 fun j u hu=>ih j u hu (g8 _) (fun i hi=>absurd hi (by omega))
 | cap n f fs cs fa ca hf hc h1 h2=>exact .cap _ f fs cs fa ca hf hc (fun j p hp=>(h1 j p hp).mono hn hM) (fun j p hp=>(h2 j p hp).mono hn hM)
 | gd n b v u h h0 ih=>exact .gd _ b v u (fun hb=>ih hb hn hM) h0
theorem R.mono{M M':Mp}{n n':Nat}{w w':World}{X X':Nat->Prop}{v:V}{u:Value}(h:R M w X n v u)(hn:n<=n')(hM:∀i,i<n->M' i=M i)
  (hX:∀b,X b->X' b) (hw:∀b,X b->w'.heap[b]? =w.heap[b]?):R M' w' X' n' v u :=
 h.mono2 hn hM hX (fun ad j hx=>World.cell?_of_block (by
  have:(ad.add j).block=ad.block:=by unfold Addr.add;split<;>rfl
  rw[this];exact hw _ hx)) (fun g es clk hx hg=>(hw _ hx).trans hg)
def isRow:Obj->Bool
 | .cells _ _ _=>true
 | .map _ _=>true
 | .stringIter _ _=>true
 | _=>false
def Marks(base:Nat)(w:World)(X:Nat->Prop)(ms:List (Nat×Obj)):Prop:=(ms.map (·.1)).Nodup/\∀p∈ms,base<=p.1/\X p.1/\w.heap[p.1]? =some p.2/\isRow p.2=false
theorem Marks.mono{base:Nat}{w w':World}{X X':Nat->Prop}{ms:List (Nat×Obj)}(h:Marks base w X ms)(hX:∀b,X b->X' b)(hw:∀b,X b->w'.heap[b]? =w.heap[b]?):Marks base w' X' ms :=
 ⟨h.1,fun p hp=>by
  obtain⟨h1,h2,h3,h4⟩:=h.2 p hp;exact⟨h1,hX _ h2,(hw _ h2).trans h3,h4⟩⟩
theorem Marks.sub{base:Nat}{w:World}{X:Nat->Prop}{ms ms':List (Nat×Obj)}(h:Marks base w X ms)(hs:ms'.Sublist ms):Marks base w X ms':=⟨h.1.sublist (hs.map _),fun p hp=>h.2 p (hs.subset hp)⟩
def IH(r:Nat):Deferred:={target:=.collected r,args:=#[]}
def G1(ds:List Deferred):List (Nat×Obj):=ds.filterMap fun d=>match d.target with|.collected r=>some (r,.deferred (some []))|_=>none
def Dfr(base:Nat)(w:World)(X:Nat->Prop)(ds:List Deferred)(mk:List (Nat×Obj)):Prop:=(∀d∈ds,∃r,d=IH r)/\Marks base w X (G1 ds++mk)
theorem Dfr.mono{base:Nat}{w w':World}{X X':Nat->Prop}{ds:List Deferred}{mk:List (Nat×Obj)}(h:Dfr base w X ds mk)(hX:∀b,X b->X' b)(hw:∀b,X b->w'.heap[b]? =w.heap[b]?):Dfr base w' X' ds mk:=⟨h.1,h.2.mono hX hw⟩
theorem Dfr.nil(base:Nat)(w:World)(X:Nat->Prop):Dfr base w X [] []:=⟨by simp,by simp[Marks,G1]⟩
theorem Dfr.none{base:Nat}{w:World}{X:Nat->Prop}{ds:List Deferred}{mk:List (Nat×Obj)}(h:Dfr base w X ds mk):Dfr base w X [] mk:=⟨by simp,h.2.sub (by simp[G1])⟩
structure W0 where
 w:World
 pm:Mp
 gh:Mp->Nat->V->Value->Prop
 mks:List (Nat×Obj)
def W0.of(w:World):W0:=⟨w,fun _=>undef,fun _ _ _ _=>False,[]⟩
class Glo where
 tab:List (Nat×List V)
 inv:World->Prop
 mono:∀{w w':World},inv w->Below w.heap.size w w'->inv w'
 capt:Nat->Bool:=fun _=>false
 prt:Nat->Bool:=fun _=>false
 mbx:Nat->Bool:=fun _=>false
 wok:W0->Prop:=fun _=>True
 pmin:Nat:=0
 wokA:∀{w0:W0}{pm:Mp}{gh:Mp->Nat->V->Value->Prop}{mk:List (Nat×Obj)},wok w0->(∀i,i<pmin->pm i=w0.pm i)->(∀m n v u,w0.gh m n v u->gh m n v u)->wok ⟨w0.w,pm,gh,mk++w0.mks⟩:=by intros;trivial
class Tot [Glo]:Prop where
 t:∀w0:W0,Glo.wok w0
 p:Glo.pmin=0
def XG:List (Nat×List V)->Nat->Option (List V)
 | [],_=>none
 | (k,cs)::r,g=>if g=k then some cs else XG r g
def GIn[Glo](w:World)(X:Nat->Prop):Prop:=Glo.inv w/\∀g cs,XG Glo.tab g=some cs->∀(M:Mp)(n:Nat),R M w X n (.iptr cs) (.pointer (some ⟨g,0,none⟩))
theorem GIn.to[Glo]{w:World}{X X':Nat->Prop}(h:GIn w X)(hX:∀b,X b->X' b):GIn w X':=⟨h.1,fun g cs hg M n=>(h.2 g cs hg M n).mono (g8 _) (fun _ _=>rfl) hX (fun _ _=>rfl)⟩
def XaOk[Glo](base:Nat)(Xa:Nat->Prop)(w0:World):Prop:=(∀b,Xa b->b<base)/\GIn w0 Xa/\base=w0.heap.size
structure XaW [Glo] (base:Nat) (Xa:Nat->Prop) (w0:W0):Prop where
 o:XaOk base Xa w0.w
 k:Glo.wok w0
structure Ob where
 ety:Nat
 sz:Nat
 box:Bool
 fz:Bool
 xs:List (List V)
 deriving Inhabited
structure St where
 n:Nat
 tmp:List (Nat×V)
 nx:Nat
 ob:List (Nat×Option Ob)
 pn:Nat:=0
 deriving Inhabited
def lkT:List (Nat×V)->Nat->V
 | [],_=>.poi
 | (k,v)::r,t=>if t=k then v else lkT r t
def lookO:List (Nat×Option Ob)->Nat->Option Ob
 | [],_=>none
 | (k,o)::r,t=>if t=k then o else lookO r t
def Xf(base:Nat)(Xa:Nat->Prop)(w:World)(M:Mp)(ob:List (Nat×Option Ob))(b:Nat):Prop :=
 (Xa b\/(base<=b/\b<w.heap.size))/\∀id o,lookO ob id=some o->o.fz=false->(M id).ownB≠some b
structure ObOk(base:Nat)(M:Mp)(n:Nat)(w:World)(X:Nat->Prop)(v:Value)(o:Ob):Prop where
 pos:o.box=false->0<o.sz
 off:o.box=true\/o.ety=5->v.offB=0
 len:∀x∈o.xs,x.length=o.sz
 row:∃vals:List Value,w.ownsG base o.ety o.sz v o.xs.length vals/\(∀u∈vals,u.oneCell'=true)/\∀(j:Nat)(u:V),o.xs.flatten[j]? =some u->R M w X (if o.box then n else 0) u (vals.getD j undef)
structure RelM [Glo] (base:Nat) (Xa:Nat->Prop) (w0:W0) (st:St) (a:Act) (w:World) (M:Mp):Prop where
 below:Below base w0.w w
 hbase:base<=w.heap.size
 xa:XaW base Xa w0
 gh:∀m n v u,w0.gh m n v u->R m w (Xf base Xa w M st.ob) n v u
 pin:(Glo.pmin<=st.pn/\st.pn<=st.nx)/\∀i,i<st.pn->M i=w0.pm i
 defers:Dfr base w (Xf base Xa w M st.ob) a.defers w0.mks
 size:a.tmps.size=st.n
 tmps:∀t,R M w (Xf base Xa w M st.ob) st.nx (lkT st.tmp t) (a.tmps.getD t undef)
 obs:∀id o,lookO st.ob id=some o->id<st.nx/\ObOk base M st.nx w (Xf base Xa w M st.ob) (M id) o
 dist:∀id id' o o' g,lookO st.ob id=some o->lookO st.ob id'=some o'->id≠id'->(M id).ownB=some g->(M id').ownB≠some g
def Rel[Glo](base:Nat)(Xa:Nat->Prop)(w0:W0)(st:St)(a:Act)(w:World):Prop:=∃M,RelM base Xa w0 st a w M
end Go.Ab
namespace Go.Ab
open Go.RowKit
def St.put(st:St)(dst:Option Tmp)(v:V):St :=
 match dst with
 | some d=>{st with tmp:=(d,v)::st.tmp}
 | none=>st
section
variable {base:Nat} {Xa:Nat->Prop} {w0:W0} {w w':World} {st:St} {a:Act} {M M':Mp}
theorem RelM.gin[Glo](h:RelM base Xa w0 st a w M):GIn w (Xf base Xa w M st.ob):=by
 have hle:base<=w0.w.heap.size:=Nat.le_of_eq h.xa.o.2.2;refine⟨Glo.mono h.xa.o.2.1.1 (by rw[<- h.xa.o.2.2];exact h.below),fun g cs hg M' n=>(h.xa.o.2.1.2 g cs hg M' n).mono (g8 _) (fun _ _=>rfl) (fun b hb=>⟨.inl hb,fun id o ho _ e=>?_⟩) (fun b hb=>h.below.block b (h.xa.o.1 b hb))⟩;obtain⟨vals,hrow,_⟩:=(h.obs id o ho).2.row;have:=(hrow.lt b e).1;have:=h.xa.o.1 b hb;omega
structure RelX [Glo] (base:Nat) (st:St) (a:Act) (w:World) (M:Mp) (X:Nat->Prop) (N:Nat):Prop where
 tmps:∀t,R M w X N (lkT st.tmp t) (a.tmps.getD t undef)
 obs:∀id o,lookO st.ob id=some o->id<N/\ObOk base M N w X (M id) o
 gl:GIn w X
theorem RelM.rx[Glo](h:RelM base Xa w0 st a w M):RelX base st a w M (Xf base Xa w M st.ob) st.nx:=⟨h.tmps,h.obs,h.gin⟩
abbrev RelM.X[Glo](_:RelM base Xa w0 st a w M):Nat->Prop:=Xf base Xa w M st.ob
theorem Xf.lt[Glo]{ob:List (Nat×Option Ob)}(hb:XaW base Xa w0)(hbase:base<=w.heap.size){b:Nat}(h:Xf base Xa w M ob b):b<w.heap.size:=by
 rcases h.1 with h|h
 ·have:=hb.o.1 b h;omega
 exact h.2
theorem Xf.world{ob:List (Nat×Option Ob)}(hs:w.heap.size<=w'.heap.size){b:Nat}(h:Xf base Xa w M ob b):Xf base Xa w' M ob b :=
 ⟨h.1.imp id fun h=>⟨h.1,by omega⟩,h.2⟩
theorem ObOk.mono{n n':Nat}{X X':Nat->Prop}{v:Value}{o:Ob}(h:ObOk base M n w X v o)(hn:n<=n')(hM:∀i,i<n->M' i=M i)
  (hX:∀b,X b->X' b) (hw:∀b,X b->w'.heap[b]? =w.heap[b]?) (hv:∀g,v.ownB=some g->w'.heap[g]? =w.heap[g]?):ObOk base M' n' w' X' v o:=by
 obtain⟨vals,hrow,h1,hr⟩:=h.row;refine⟨h.pos,h.off,h.len,vals,⟨hrow.1,?_⟩,h1,fun j u hu=>(hr j u hu).mono ?_ ?_ hX hw⟩
 ·rcases hrow.2 with h2|⟨g,O,cap,cur,e,hb,hg,rest⟩|hodd
  ·exact .inl h2
  ·exact .inr (.inl ⟨g,O,cap,cur,e,hb,hg.congr (hv g (by rw[e];rfl)),rest⟩)
  exact .inr (.inr (hodd.congr hv fun _ _ h=>h))
 ·split
  ·exact hn
  exact g8 _
 intro i hi;split at hi
 ·exact hM i hi
 omega
theorem RelM.world[Glo](h:RelM base Xa w0 st a w M)(hb:Below w.heap.size w w'):RelM base Xa w0 st a w' M:=by
 have hX:∀b,Xf base Xa w M st.ob b->Xf base Xa w' M st.ob b:=fun b hx=>hx.world hb.size;have hw:∀b,Xf base Xa w M st.ob b->w'.heap[b]? =w.heap[b]? :=fun b hx=>hb.block b (hx.lt h.xa h.hbase);refine⟨h.below.trans (hb.mono h.hbase),iY h.hbase hb.size,h.xa,fun m k v u hv=>(h.gh m k v u hv).mono (g8 _) (fun _ _=>rfl) hX hw,h.pin,h.defers.mono hX hw,h.size,fun t=>(h.tmps t).mono (g8 _) (fun _ _=>rfl) hX hw,fun id o ho=>?_,h.dist⟩;obtain⟨h1,h2⟩:=h.obs id o ho;refine⟨h1,h2.mono (g8 _) (fun _ _=>rfl) hX hw fun g hg=>?_⟩;obtain⟨vals,hrow,_⟩:=h2.row;exact hb.block g (hrow.lt g hg).2
theorem RelM.put[Glo](h:RelM base Xa w0 st a w M){dst:Option Tmp}{v:V}{u:Value}(hd:∀d,dst=some d->d<st.n)(hv:R M w (Xf base Xa w M st.ob) st.nx v u):
  RelM base Xa w0 (st.put dst v) (a.put dst u) w M:=by
 cases dst with
 | none=>exact h
 | some d =>
  have hd':=hd d rfl;refine⟨h.below,h.hbase,h.xa,h.gh,h.pin,h.defers,by simp[Act.put,h.size,St.put],fun t=>?_,h.obs,h.dist⟩;simp only[St.put,lkT,Act.put];by_cases ht:t=d
  ·subst ht;rw[if_pos rfl];have:(a.tmps.setIfInBounds t u).getD t undef=u:=by
    have hlt:t<a.tmps.size:=by rw[h.size];exact hd'
    simp[Array.getD,hlt]
   rw[this];exact hv
  rw[if_neg ht];have:(a.tmps.setIfInBounds d u).getD t undef=a.tmps.getD t undef:=by
   simp only[gZ];rw[Array.getElem?_setIfInBounds_ne (by omega)]
  rw[this];exact h.tmps t
theorem RelM.alloc[Glo](h:RelM base Xa w0 st a w M)(o:Ob)(cur:Array Value)(cap:Nat)(hpos:o.box=false->0<o.sz)(hlen:∀x∈o.xs,x.length=o.sz)(hc:o.xs.length<=cap)(hm:cap<=maxLen)(hs:cur.size=cap*o.sz)
  (h1:∀u∈cur,u.oneCell'=true)
  (hr:∀(j:Nat)(u:V),o.xs.flatten[j]? =some u->R M w (Xf base Xa w M st.ob) (if o.box then st.nx else 0) u (cur.getD j undef)) :
  ∃M',(∀i,i<st.nx->M' i=M i)/\M' st.nx=.slice (some ⟨w.heap.size,0,none⟩) o.xs.length cap/\RelM base Xa w0 {st with nx:=st.nx+1,ob:=(st.nx,some o)::st.ob} a (w.alloc (.cells cur o.ety)) M':=by
 let M':Mp:=fun i=>if i=st.nx then .slice (some ⟨w.heap.size,0,none⟩) o.xs.length cap else M i
 have hM:∀i,i<st.nx->M' i=M i:=fun i hi=>by simp only[M'];rw[nG]
 have hn:M' st.nx=.slice (some ⟨w.heap.size,0,none⟩) o.xs.length cap:=by simp[M']
 have hX:∀b,Xf base Xa w M st.ob b->Xf base Xa (w.alloc (.cells cur o.ety)) M' ((st.nx,some o)::st.ob) b:=by
  intro b hx;refine⟨hx.1.imp id fun h=>⟨h.1,by simp;omega⟩,fun id o' ho' hf=>?_⟩;simp only[lookO]at ho';split at ho'
  ·rename_i e;subst e;rw[hn];have:=hx.lt h.xa h.hbase;simp[Value.ownB];omega
  rw[hM id (h.obs id o' ho').1];exact hx.2 id o' ho' hf
 have hw:∀b,Xf base Xa w M st.ob b->(w.alloc (.cells cur o.ety)).heap[b]? =w.heap[b]? :=fun b hx=>Below.heap_alloc _ _ _ (hx.lt h.xa h.hbase);refine⟨M',hM,hn,h.below.alloc h.hbase _,iY h.hbase (by simp),h.xa,fun m k v u hv=>(h.gh m k v u hv).mono (g8 _) (fun _ _=>rfl) hX hw,⟨⟨h.pin.1.1,iY h.pin.1.2 (by simp)⟩,fun i hi=>(hM i (Nat.lt_of_lt_of_le hi h.pin.1.2)).trans (h.pin.2 i hi)⟩,h.defers.mono hX hw,h.size,fun t=>(h.tmps t).mono (by simp) hM hX hw,fun id o' ho'=>?_,?_⟩
 ·simp only[lookO]at ho';split at ho'
  ·rename_i e;subst e;simp only[gQ]at ho';subst ho';refine⟨by simp,hpos,fun _=>by rw[hn];rfl,hlen,cur.toList.take (o.xs.length*o.sz),?_,fun u hu=>h1 u (by simpa using i5 hu),fun j u hu=>?_⟩
   ·rw[hn];refine⟨?_,.inr (.inl ⟨w.heap.size,0,cap,cur,rfl,h.hbase,.plain (heap_alloc_new w _),hc,hm,by rw[i6];exact hs,by rw[List.drop_zero]⟩)⟩;rw[iD,Array.length_toList,hs];exact gY (iW _ hc)
   have hj:j<o.xs.length*o.sz:=by
    have:=(List.getElem?_eq_some_iff.1 hu).1;rw[List.length_flatten]at this;have hsum:(o.xs.map List.length).sum=o.xs.length*o.sz:=by
     clear hu this hr hs hc hX hM hn;generalize o.xs=l at hlen;induction l with
     | nil=>simp
     | cons x l ih=>simp only[iI,List.sum_cons,iO,Nat.add_mul,Nat.one_mul];rw[ih (fun y hy=>hlen y (gW _ hy)),hlen x (g7 ..)];omega
    omega
   have e:(cur.toList.take (o.xs.length*o.sz)).getD j undef=cur.getD j undef:=by
    rw[gP,iL,if_pos hj,gZ,Array.getElem?_toList]
   rw[e];refine(hr j u hu).mono ?_ ?_ hX hw
   ·split<;>simp
   intro i hi;split at hi
   ·exact hM i hi
   omega
  obtain⟨g1,g2⟩:=h.obs id o' ho';refine⟨by simp only;omega,?_⟩;rw[hM id g1];refine g2.mono (by simp) hM hX hw fun g hg=>?_;obtain⟨vals,hrow,_⟩:=g2.row;exact Below.heap_alloc _ _ _ (hrow.lt g hg).2
 intro id id' o1 o2 g h1' h2' hne hg;have hblk:∀i o',lookO st.ob i=some o'->∀g,(M i).ownB=some g->g<w.heap.size:=fun i o' ho' g hg=>by
  obtain⟨vals,hrow,_⟩:=(h.obs i o' ho').2.row;exact(hrow.lt g hg).2
 simp only[lookO]at h1' h2';split at h1'
 ·rename_i e;subst e;rw[hn]at hg;simp[Value.ownB]at hg;split at h2'
  ·omega
  rw[hM id' (h.obs id' o2 h2').1];intro hc';have:=hblk id' o2 h2' g hc';omega
 rw[hM id (h.obs id o1 h1').1]at hg;split at h2'
 ·rename_i e;subst e;rw[hn];have:=hblk id o1 h1' g hg;simp[Value.ownB];omega
 rw[hM id' (h.obs id' o2 h2').1];exact h.dist id id' o1 o2 g h1' h2' hne hg
theorem RelM.modify[Glo](h:RelM base Xa w0 st a w M){id:Nat}{o o':Ob}(ho:lookO st.ob id=some o)(hf:o.fz=false)(hg:w.grownBy w' (M id).ownB)
  (hob:ObOk base M st.nx w' (Xf base Xa w' M ((id,some o')::st.ob)) (M id) o'):RelM base Xa w0 {st with ob:=(id,some o')::st.ob} a w' M:=by
 obtain⟨hid,hok⟩:=h.obs id o ho;have hX:∀b,Xf base Xa w M st.ob b->Xf base Xa w' M ((id,some o')::st.ob) b:=fun b hx =>
  ⟨hx.1.imp (fun x=>x) fun h=>⟨h.1,by have:=hg.size;omega⟩,fun i o1 ho1 hf1=>by
   simp only[lookO]at ho1;split at ho1
   ·rename_i e;subst e;exact hx.2 _ o ho hf
   exact hx.2 i o1 ho1 hf1⟩
 have hw:∀b,Xf base Xa w M st.ob b->w'.heap[b]? =w.heap[b]? :=fun b hx=>hg.block b (hx.lt h.xa h.hbase) (fun e=>hx.2 id o ho hf e.symm);obtain⟨vals,hrow,_⟩:=hok.row;refine⟨h.below.grown hg h.hbase (fun k hk=>(hrow.lt k hk).1),iY h.hbase hg.size,h.xa,fun m k v u hv=>(h.gh m k v u hv).mono (g8 _) (fun _ _=>rfl) hX hw,h.pin,h.defers.mono hX hw,h.size,fun t=>(h.tmps t).mono (g8 _) (fun _ _=>rfl) hX hw,fun i o1 ho1=>?_,?_⟩
 ·simp only[lookO]at ho1;split at ho1
  ·rename_i e;subst e;simp only[gQ]at ho1;subst ho1;exact⟨hid,hob⟩
  rename_i hne;obtain⟨g1,g2⟩:=h.obs i o1 ho1;refine⟨g1,g2.mono (g8 _) (fun _ _=>rfl) hX hw fun g hgi=>?_⟩;obtain⟨vals',hrow',_⟩:=g2.row;exact hg.block g (hrow'.lt g hgi).2 (fun e=>h.dist i id o1 o g ho1 ho hne hgi e.symm)
 intro i i' o1 o2 g h1 h2 hne hgi;have hl:∀i o1,lookO ((id,some o')::st.ob) i=some o1->∃o2,lookO st.ob i=some o2:=fun i o1 h1=>by
  simp only[lookO]at h1;split at h1
  ·rename_i e;subst e;exact⟨o,ho⟩
  exact⟨o1,h1⟩
 obtain⟨p1,q1⟩:=hl i o1 h1;obtain⟨p2,q2⟩:=hl i' o2 h2;exact h.dist i i' p1 p2 g q1 q2 hne hgi
theorem RelM.grow[Glo](h:RelM base Xa w0 st a w M){ob1:List (Nat×Option Ob)}(hsub:∀id o,lookO ob1 id=some o->lookO st.ob id=some o)(row:Option Nat)
  (hrowX:∀b,Xf base Xa w M st.ob b->some b≠row) (hrowO:∀id o,lookO ob1 id=some o->∀g,(M id).ownB=some g->some g≠row) (hrowB:∀g,row=some g->base<=g)
  (hg:w.grownBy w' row) (v':Value) (hv':∀g,v'.ownB=some g->some g=row\/w.heap.size<=g) (o':Ob) (hpos:o'.box=false->0<o'.sz) (hlen:∀x∈o'.xs,x.length=o'.sz) (vals:List Value)
  (hown:w'.ownsG base o'.ety o'.sz v' o'.xs.length vals) (h1:∀u∈vals,u.oneCell'=true)
  (hr:∀(j:Nat)(u:V),o'.xs.flatten[j]? =some u->R M w (Xf base Xa w M st.ob) (if o'.box then st.nx else 0) u (vals.getD j undef)) (hoff:o'.box=true\/o'.ety=5->v'.offB=0:=by intros;rfl) :
  ∃M',(∀i,i<st.nx->M' i=M i)/\M' st.nx=v'/\RelM base Xa w0 {st with nx:=st.nx+1,ob:=(st.nx,some o')::ob1} a w' M':=by
 let M':Mp:=fun i=>if i=st.nx then v' else M i
 have hM:∀i,i<st.nx->M' i=M i:=fun i hi=>by simp only[M'];rw[nG]
 have hn:M' st.nx=v':=by simp[M']
 have hblk:∀i o',lookO st.ob i=some o'->∀g,(M i).ownB=some g->g<w.heap.size:=fun i o' ho' g hg=>by
  obtain⟨vals,hrow,_⟩:=(h.obs i o' ho').2.row;exact(hrow.lt g hg).2
 have hX:∀b,Xf base Xa w M st.ob b->Xf base Xa w' M' ((st.nx,some o')::ob1) b:=by
  intro b hx;have hb:=hx.lt h.xa h.hbase;refine⟨hx.1.imp id fun h=>⟨h.1,by have:=hg.size;omega⟩,fun id o1 ho1 hf=>?_⟩;simp only[lookO]at ho1;split at ho1
  ·rename_i e;subst e;rw[hn];intro e;rcases hv' b e with e'|e'
   ·exact hrowX b hx e'
   omega
  have:=hsub id o1 ho1;rw[hM id (h.obs id o1 this).1];exact hx.2 id o1 this hf
 have hw:∀b,Xf base Xa w M st.ob b->w'.heap[b]? =w.heap[b]? :=fun b hx=>hg.block b (hx.lt h.xa h.hbase) (hrowX b hx);refine⟨M',hM,hn,h.below.grown hg h.hbase hrowB,iY h.hbase hg.size,h.xa,fun m k v u hv=>(h.gh m k v u hv).mono (g8 _) (fun _ _=>rfl) hX hw,⟨⟨h.pin.1.1,iY h.pin.1.2 (by simp)⟩,fun i hi=>(hM i (Nat.lt_of_lt_of_le hi h.pin.1.2)).trans (h.pin.2 i hi)⟩,h.defers.mono hX hw,h.size,fun t=>(h.tmps t).mono (by simp) hM hX hw,fun id o1 ho1=>?_,?_⟩
 ·simp only[lookO]at ho1;split at ho1
  ·rename_i e;subst e;simp only[gQ]at ho1;subst ho1;refine⟨by simp,hpos,fun h=>by rw[hn];exact hoff h,hlen,vals,by rw[hn];exact hown,h1,fun j u hu=>(hr j u hu).mono ?_ ?_ hX hw⟩
   ·split<;>simp
   intro i hi;split at hi
   ·exact hM i hi
   omega
  have hs:=hsub id o1 ho1;obtain⟨g1,g2⟩:=h.obs id o1 hs;refine⟨by simp only;omega,?_⟩;rw[hM id g1];exact g2.mono (by simp) hM hX hw fun g hgi=>hg.block g (hblk id o1 hs g hgi) (hrowO id o1 ho1 g hgi)
 intro id id' o1 o2 g h1' h2' hne hgi;simp only[lookO]at h1' h2';split at h1'
 ·rename_i e;subst e;rw[hn]at hgi;split at h2'
  ·omega
  have hs:=hsub id' o2 h2';rw[hM id' (h.obs id' o2 hs).1];intro hc';rcases hv' g hgi with e|e
  ·exact hrowO id' o2 h2' g hc' e
  have:=hblk id' o2 hs g hc';omega
 have hs:=hsub id o1 h1';rw[hM id (h.obs id o1 hs).1]at hgi;split at h2'
 ·rename_i e;subst e;rw[hn];intro hc';rcases hv' g hc' with e|e
  ·exact hrowO id o1 h1' g hgi e
  have:=hblk id o1 hs g hgi;omega
 have hs':=hsub id' o2 h2';rw[hM id' (h.obs id' o2 hs').1];exact h.dist id id' o1 o2 g hs hs' hne hgi
theorem RelM.sub[Glo](h:RelM base Xa w0 st a w M){ob1:List (Nat×Option Ob)}(hsub:∀id o,lookO ob1 id=some o->∃fz,lookO st.ob id=some {o with fz:=fz}/\(o.fz=false->fz=false)):
  RelM base Xa w0 {st with ob:=ob1} a w M:=by
 have hX:∀b,Xf base Xa w M st.ob b->Xf base Xa w M ob1 b:=fun b hx=>⟨hx.1,fun id o ho hf=>by
  obtain⟨fz,h1,h2⟩:=hsub id o ho;exact hx.2 id _ h1 (h2 hf)⟩
 refine⟨h.below,h.hbase,h.xa,fun m k v u hv=>(h.gh m k v u hv).mono (g8 _) (fun _ _=>rfl) hX (fun _ _=>rfl),h.pin,h.defers.mono hX (fun _ _=>rfl),h.size,fun t=>(h.tmps t).mono (g8 _) (fun _ _=>rfl) hX (fun _ _=>rfl),fun id o ho=>?_,?_⟩
 ·obtain⟨fz,h1,h2⟩:=hsub id o ho;obtain⟨g1,g2⟩:=h.obs id _ h1;refine⟨g1,?_⟩;have:=g2.mono (g8 _) (fun _ _=>rfl) hX (fun _ _=>rfl) (fun _ _=>rfl);exact⟨this.pos,this.off,this.len,this.row⟩
 intro id id' o1 o2 g h1 h2 hne hg;obtain⟨_,q1,_⟩:=hsub id o1 h1;obtain⟨_,q2,_⟩:=hsub id' o2 h2;exact h.dist id id' _ _ g q1 q2 hne hg
end
end Go.Ab
namespace Go.Ab
open Go.RowKit
def V.cells:V->List V
 | .st cs=>cs
 | v=>[v]
def mkV(ag:Bool)(cs:List V):V:=bif ag then .st cs else cs.getD 0 .poi
def of1:Value->V
 | .bool b=>.bool b
 | .int k n=>.int k n
 | .string s=>.str s.data.toList
 | .slice none 0 0=>.sl 0 true []
 | .pointer none=>.nilp
 | _=>.poi
def XP:Value->V
 | .agg cs=>bif cs.all (·.oneCell')then .st (cs.toList.map of1)else .poi
 | v=>of1 v
def glo[Glo](g:Nat):V:=match XG Glo.tab g with|some cs=>.iptr cs|none=>.poi
def ev[Glo](st:St):Operand->V
 | .tmp t=>lkT st.tmp t
 | .const v=>XP v
 | .func f=>.fn f
 | .global g=>glo g
def tyE(P:Program)(t:TypeId):Option (Nat×Bool) :=
 match P.info? t,P.underlying t with
 | some i,some (.struct _)=>some (i.size,true)
 | some i,some (.array _ _)=>some (i.size,true)
 | some i,some _=>some (i.size,false)
 | _,_=>none
def Aq(P:Program)(t:TypeId)(f:Nat):Option (Nat×Nat×Bool) :=
 match P.underlying t with
 | some (.struct fs)=>match fs[f]? with
  | some fd=>match tyE P fd.type with
   | some (n,ag)=>if n=0 then none else some (fd.offset,n,ag)
   | none=>none
  | none=>none
 | _=>none
def slE(P:Program)(t:TypeId):Option (Nat×Nat×Nat) :=
 match P.underlying t with
 | some (.slice e)=>match P.info? e with
  | some i=>match i.zero with
   | some z=>if z.cells.size=i.size/\0<i.size then some (e,i.size,i.bytes)else none
   | none=>none
  | none=>none
 | _=>none
def arE(P:Program)(t:TypeId):Option (Nat×Nat×Bool) :=
 match P.underlying t with
 | some (.array n e)=>match tyE P e with
  | some (k,ag)=>some (n,k,ag)
  | none=>none
 | _=>none
def Dv(P:Program)(t:TypeId):Bool:=match P.underlying t with|some .string=>true|_=>false
def isInt(P:Program)(t:TypeId):Option IntKind:=match P.underlying t with|some (.int k)=>some k|_=>none
def unG:V->V
 | .gd _ v=>v
 | v=>v
def okG:V->Prop
 | .gd b _=>b=true
 | _=>True
def dD(c:Bool)(a b:V):V :=
 match a,b with
 | .bool x,.bool y=>.bool (bif c then x else y)
 | a,b=>bif c then a else b
def X1(c a b:V):Option (Prop×V) :=
 match c with
 | .bool c=>some ((c=true->okG a)/\(c=false->okG b),dD c (unG a) (unG b))
 | _=>none
def Bg(k:IntKind)(a b:Int):Int:=k.wrap (BitVec.ofInt k.bits a &&& BitVec.ofInt k.bits b).toNat
def ior(k:IntKind)(a b:Int):Int:=k.wrap (BitVec.ofInt k.bits a ||| BitVec.ofInt k.bits b).toNat
def Vp(k:IntKind)(a b:Int):Int:=k.wrap (BitVec.ofInt k.bits a ^^^ BitVec.ofInt k.bits b).toNat
def Da(k:IntKind)(a b:Int):Int:=k.wrap (BitVec.ofInt k.bits a &&& ~~~ BitVec.ofInt k.bits b).toNat
def binI(op:BinOp)(k:IntKind)(a b:Int):Option (Prop×V) :=
 match op with
 | .add=>some (True,.int k (k.wrap (a+b)))
 | .sub=>some (True,.int k (k.wrap (a-b)))
 | .mul=>some (True,.int k (k.wrap (a*b)))
 | .quo=>some (b≠0,.int k (k.wrap (a.tdiv b)))
 | .rem=>some (b≠0,.int k (a.tmod b))
 | .and=>some (True,.int k (Bg k a b))
 | .or=>some (True,.int k (ior k a b))
 | .xor=>some (True,.int k (Vp k a b))
 | .andNot=>some (True,.int k (Da k a b))
 | .eql=>some (True,.bool (a==b))
 | .neq=>some (True,.bool (a != b))
 | .lss=>some (True,.bool (decide (a<b)))
 | .leq=>some (True,.bool (decide (a<=b)))
 | .gtr=>some (True,.bool (decide (a > b)))
 | .geq=>some (True,.bool (decide (a >= b)))
 | _=>none
def shI(op:BinOp)(k:IntKind)(a b:Int):Option (Prop×V) :=
 match op with
 | .shl=>some (0<=b,.int k (k.wrap (a*2^(min b.toNat k.bits))))
 | .shr=>some (0<=b,.int k (a.fdiv (2^(min b.toNat k.bits))))
 | _=>none
def binS(op:BinOp)(a b:List UInt8):Option (Prop×V) :=
 match op with
 | .add=>some (a.length+b.length<=9223372036854775807,.str (a++b))
 | .eql=>some (True,.bool (a==b))
 | .neq=>some (True,.bool (a != b))
 | .lss=>some (True,.bool (Op.bytesLess a b))
 | .leq=>some (True,.bool (Op.bytesLess a b||a==b))
 | .gtr=>some (True,.bool !(Op.bytesLess a b||a==b))
 | .geq=>some (True,.bool !(Op.bytesLess a b))
 | _=>none
inductive Tg where|i|b|s
def bA(P:Program)(rc:TypeId->Option (List Tg)):List Field->Nat->Option (List Tg)
 | [],_=>some []
 | f::fs,o=>match rc f.type,tyE P f.type with
  | some ts,some (m,ag)=>bif (f.name != "_")&&f.offset==o&&m==ts.length&&(ag||m==1)&&m != 0 then(match bA P rc fs (o+m)with|some r=>some (ts++r)|none=>none)else none
  | _,_=>none
def OE(P:Program):Nat->TypeId->Option (List Tg)
 | 0,_=>none
 | d+1,t=>match P.underlying t with
  | some (.int _)=>some [.i]
  | some .bool=>some [.b]
  | some .string=>some [.s]
  | some (.struct fs)=>bif P.stoodInHeld t then none else bA P (OE P d) fs.toList 0
  | some (.array n e)=>match OE P d e,tyE P e with
   | some ts,some (m,ag)=>bif m==ts.length&&(ag||m==1)&&m==P.cellsOf e&&m != 0 then some (List.replicate n ts).flatten else none
   | _,_=>none
  | _=>none
def eqE(P:Program)(t:TypeId):Option (List Tg):=match P.underlying t with
 | some (.struct _)=>bif P.eqGuardType P.depth t then none else OE P 20 t
 | _=>none
def GE:List Tg->List V->List V->Option Bool
 | [],[],[]=>some true
 | .i::ts,.int k a::xs,.int k' b::ys=>bif decide (k=k')then(match GE ts xs ys with|some r=>some ((a==b)&&r)|none=>none)else none
 | .b::ts,.bool a::xs,.bool b::ys=>match GE ts xs ys with|some r=>some ((a==b)&&r)|none=>none
 | .s::ts,.str a::xs,.str b::ys=>match GE ts xs ys with|some r=>some ((a==b)&&r)|none=>none
 | _,_,_=>none
def isSh(op:BinOp):Bool:=match op with|.shl|.shr=>true|_=>false
def binV(P:Program)(op:BinOp)(t:TypeId)(x y:V):Option (Prop×V) :=
 match x,y with
 | .int k a,.int k' b=>bif isSh op then shI op k a b else bif decide (k=k')then binI op k a b else none
 | .str a,.str b=>binS op a b
 | .bool a,.bool b=>match P.underlying t,op with
  | some .bool,.eql=>some (True,.bool (a==b))
  | some .bool,.neq=>some (True,.bool (a != b))
  | _,_=>none
 | .st as,.st bs=>match eqE P t with
  | some ts=>match GE ts as bs,op with
   | some r,.eql=>some (True,.bool r)
   | some r,.neq=>some (True,.bool !r)
   | _,_=>none
  | none=>none
 | _,_=>none
def unV(op:UnOp)(x:V):Option (Prop×V) :=
 match op,x with
 | .not,.bool b=>some (True,.bool !b)
 | .neg,.int k n=>some (True,.int k (k.wrap (0-n)))
 | .xor,.int k n=>some (True,.int k (k.wrap (BitVec.ofInt k.bits (if k.signed then -1 else k.max) ^^^ BitVec.ofInt k.bits n).toNat))
 | _,_=>none
def Ec(x:List V):UInt8:=match x with|[.int _ n]=>UInt8.ofNat n.toNat|_=>0
def Ch(x:List V):Prop:=∃b:UInt8,x=[.int .u8 b.toNat]
def bsE(P:Program)(t:TypeId):Bool:=match P.underlying t with
 | some (.slice e)=>match P.underlying e with
  | some (.int .u8)=>true
  | _=>false
 | _=>false
def Bn[Glo](st:St)(x:Option Operand):Option (Option Int) :=
 match x with
 | none=>some none
 | some x=>match ev st x with
  | .int _ n=>some (some n)
  | _=>none
def slcV(P:Program)(t:TypeId)(x:V)(lo hi mx:Option (Option Int)):Option (Prop×V) :=
 match x,lo,hi,mx with
 | .str s,some lo,some hi,some none=>bif Dv P t then
   some (0<=lo.getD 0/\lo.getD 0<=hi.getD s.length/\hi.getD s.length<=s.length,.str ((s.take (hi.getD s.length).toNat).drop (lo.getD 0).toNat))else none
 | .sl sz tt xs,some lo,some hi,some mx=>match slE P t with
  | some (_,s,_) =>
   some ((s=sz\/xs=[])/\0<=lo.getD 0/\lo.getD 0<=hi.getD xs.length/\hi.getD xs.length<=xs.length/\(∀m,mx=some m->m=hi.getD xs.length/\hi.isSome),
    .sl sz (mx.isSome||(tt&&hi.isNone)) ((xs.take (hi.getD xs.length).toNat).drop (lo.getD 0).toNat))
  | none=>none
 | _,_,_,_=>none
def bv[Glo](P:Program)(st:St)(b:Builtin)(args:List Operand)(tys:List TypeId):Option (Prop×V) :=
 match b,args,tys with
 | .len,[x],[t]=>match ev st x with
  | .str s=>bif Dv P t then some (True,.int .i64 s.length)else none
  | .sl _ _ xs=>match slE P t with
   | some _=>some (True,.int .i64 xs.length)
   | none=>none
  | .own id=>match slE P t,lookO st.ob id with
   | some _,some o=>some (True,.int .i64 o.xs.length)
   | _,_=>none
  | .part _ _ _ k=>match slE P t with
   | some _=>some (True,.int .i64 k)
   | none=>none
  | _=>none
 | .min,[x,y],_=>match ev st x,ev st y with
  | .int k a,.int _ b=>some (True,.int k (if b<a then b else a))
  | _,_=>none
 | .max,[x,y],_=>match ev st x,ev st y with
  | .int k a,.int _ b=>some (True,.int k (if b > a then b else a))
  | _,_=>none
 | .cap,[x],[t]=>match ev st x,slE P t with
  | .sl _ true xs,some _=>some (True,.int .i64 xs.length)
  | _,_=>none
 | _,_,_=>none
def pv[Glo](P:Program)(st:St)(op:Op):Option (Prop×V) :=
 match op with
 | .move x=>some (True,ev st x)
 | .assign x=>some (True,ev st x)
 | .pick c a b=>X1 (ev st c) (ev st a) (ev st b)
 | .load t a=>match tyE P t with
  | none=>none
  | some (n,ag)=>bif ag||n==1 then(match ev st a with
   | .ptr id sz i off=>match lookO st.ob id with
    | some o=>some (sz=o.sz/\i<o.xs.length/\off+n<=sz,mkV ag (((o.xs.getD i []).drop off).take n))
    | none=>none
   | .iptr cs=>some (n<=cs.length,mkV ag (cs.take n))
   | _=>none)else none
 | .fieldAddr t x f=>match Aq P t f with
  | none=>none
  | some (o,_,_)=>match ev st x with
   | .ptr id sz i off=>some (True,.ptr id sz i (off+o))
   | .iptr cs=>some (True,.iptr (cs.drop o))
   | _=>none
 | .field t x f=>match Aq P t f with
  | none=>none
  | some (o,n,ag)=>bif ag||n==1 then(match ev st x with
   | .st cs=>some (o+n<=cs.length,mkV ag ((cs.drop o).take n))
   | _=>none)else none
 | .indexAddr t x ix=>match ev st ix with
  | .int _ z=>match ev st x with
   | .sl sz _ xs=>match slE P t with
    | some (_,s,_)=>some ((s=sz\/xs=[])/\0<=z/\z<xs.length,.iptr (xs.getD z.toNat []))
    | none=>none
   | .own id=>match slE P t,lookO st.ob id with
    | some (_,s,_),some o=>some (s=o.sz/\0<=z/\z<o.xs.length,.ptr id o.sz z.toNat 0)
    | _,_=>none
   | .ptr id sz i off=>match arE P t with
    | some (len,es,_)=>some (0<=z/\z<len,.ptr id sz i (off+z.toNat*es))
    | none=>none
   | .iptr cs=>match arE P t with
    | some (len,es,_)=>some (0<=z/\z<len,.iptr (cs.drop (z.toNat*es)))
    | none=>none
   | _=>none
  | _=>none
 | .index t x ix=>match ev st ix with
  | .int _ z=>match ev st x with
   | .str s=>bif Dv P t then some (0<=z/\z<s.length,.int .u8 (s.getD z.toNat 0).toNat)else none
   | .st cs=>match arE P t with
    | some (len,es,ag)=>bif ag||es==1 then some (0<=z/\z<len/\z.toNat*es+es<=cs.length,mkV ag ((cs.drop (z.toNat*es)).take es))else none
    | none=>none
   | _=>none
  | _=>none
 | .binOp op t x y _=>binV P op t (ev st x) (ev st y)
 | .unOp op _ x=>unV op (ev st x)
 | .convert s d x=>match ev st x with
  | .int _ n=>match isInt P d with
   | some k=>some (True,.int k (k.wrap n))
   | none=>none
  | .sl _ _ xs=>bif bsE P s&&Dv P d then some (∀y∈xs,Ch y,.str (xs.map Ec))else none
  | .own id=>match lookO st.ob id with
   | some o=>bif bsE P s&&Dv P d&&!o.box then some (∀y∈o.xs,Ch y,.str (o.xs.map Ec))else none
   | none=>none
  | _=>none
 | .extract x i=>match ev st x with
  | .tup vs=>some (i<vs.length,vs.getD i .poi)
  | _=>none
 | .slice t x lo hi mx=>slcV P t (ev st x) (Bn st lo) (Bn st hi) (Bn st mx)
 | .nilCheck x=>match ev st x with
  | .ptr id sz i off=>some (True,.ptr id sz i off)
  | .iptr cs=>some (True,.iptr cs)
  | _=>none
 | .call c=>match c.callee with
  | .builtin b=>bv P st b c.args.toList c.argTypes.toList
  | _=>none
 | _=>none
end Go.Ab
namespace Go.Ab
open Go.RowKit
theorem block_add(a:Addr)(n:Nat):(a.add n).block=a.block:=by unfold Addr.add;split<;>rfl
theorem add_add(a:Addr)(i j:Nat):(a.add i).add j=a.add (i+j):=by
 unfold Addr.add;by_cases hi:i=0<;>by_cases hj:j=0<;>simp[hi,hj,Nat.add_assoc]
theorem Bu{n:Nat}:∀(l:List (List V)),(∀x∈l,x.length=n)->l.flatten.length=l.length*n
 | [],_=>by simp
 | x::l,h=>by
  rw[List.flatten_cons,gV,Bu l (fun y hy=>h y (gW _ hy)),h x (g7 ..),iO,Nat.add_mul];omega
theorem flat_get{n:Nat}:∀(l:List (List V))(i j:Nat),(∀x∈l,x.length=n)->j<n->l.flatten[i*n+j]? =(l.getD i [])[j]?
 | [],i,j,_,_=>by simp
 | x::l,0,j,h,hj=>by
  have hx:=h x (g7 ..);simp only[List.flatten_cons,Nat.zero_mul,i6,iC];rw[iQ (by omega)]
 | x::l,i+1,j,h,hj=>by
  have hx:=h x (g7 ..);have ih:=flat_get l i j (fun y hy=>h y (gW _ hy)) hj;simp only[List.flatten_cons,iK];rw[iN (by rw[hx,Nat.add_mul];omega),hx,show(i+1)*n+j-n=i*n+j by rw[Nat.add_mul];omega];exact ih
section
variable {base:Nat} {w:World} {st:St} {a:Act} {M:Mp} {X:Nat->Prop} {n N:Nat}
theorem cR(v:Value):R M w X n (of1 v) v:=by
 unfold of1;split
 ·exact .bool _ _
 ·exact .int _ _ _
 ·rename_i s;have:Value.string s=.string ⟨s.data.toList.toArray⟩:=by simp
  rw[this];exact .str _ _
 ·exact .sl _ 0 true [] none 0 0 (fun _=>undef) rfl (g8 _) (by simp) (fun _=>rfl) (fun _=>⟨rfl,rfl⟩) (fun x hx=>by simp at hx) (fun h=>absurd h (by omega)) (fun j u h=>by simp at h)
 ·exact .nilp _
 exact .poi _ _
theorem cS[Glo](v:Value):R M w X n (XP v) v:=by
 unfold XP;split
 ·rename_i cs;cases h:cs.all (·.oneCell')
  ·exact .poi _ _
  refine .st _ _ _ (by simp) (fun u hu=>by
   rw[Array.all_eq_true']at h;exact h u hu) (fun j u hu=>?_)
  simp only[iG,Array.getElem?_toList,Option.map_eq_some_iff]at hu;obtain⟨v,hv,rfl⟩:=hu;rw[gZ,hv];exact cR v
 exact cR _
theorem CU[Glo](h:RelX base st a w M X N)(x:Operand):R M w (X) N (ev st x) (a.eval x):=by
 cases x with
 | tmp t=>exact h.tmps t
 | const v=>exact cS v
 | global g =>
  simp only[ev,glo];split
  ·rename_i cs hg;exact h.gl.2 g cs hg M N
  exact .poi _ _
 | func f=>exact .fn _ f
theorem Et{b:Bool}{u:Value}(h:R M w X n (.bool b) u):u=.bool b:=by cases h;rfl
theorem DK{k:IntKind}{i:Int}{u:Value}(h:R M w X n (.int k i) u):u=.int k i:=by cases h;rfl
theorem Ea{s:List UInt8}{u:Value}(h:R M w X n (.str s) u):u=.string ⟨s.toArray⟩:=by cases h;rfl
theorem SC{x:V}{u:Value}(hx:R M w X n x u)(h:okG x):R M w X n (unG x) u:=by
 cases hx with
 | gd _ b v u h' _=>exact h' h
 | _=>constructor<;>assumption
theorem pick_R[Glo]{c x y v:V}{p:Prop}{uc ux uy:Value}(h:X1 c x y=some (p,v))(hp:p)(hc:R M w X n c uc)(hx:R M w X n x ux)(hy:R M w X n y uy):
  ∃b,uc=.bool b/\R M w X n v (if b then ux else uy):=by
 unfold X1 at h;split at h
 ·rename_i b;refine⟨b,Et hc,?_⟩;simp only[gQ,Prod.mk.injEq]at h;obtain⟨rfl,rfl⟩:=h;have key:R M w X n (bif b then unG x else unG y) (if b then ux else uy):=by
   cases b with
   | true=>exact SC hx (hp.1 rfl)
   | false=>exact SC hy (hp.2 rfl)
  revert key;generalize unG x=x';generalize unG y=y';intro key;unfold dD;split
  ·cases b<;>exact key
  exact key
 simp at h
theorem ZK{P:Program}{t:TypeId}{m:Nat}{ag:Bool}(ht:tyE P t=some (m,ag))(hag:(ag||m==1)=true)(ad:Addr)(cs:List V)(f:Nat->Value)(hm:m<=cs.length)
  (hc:∀j,j<m->w.cell? (ad.add j)=some (f j)/\(f j).oneCell'=true) (hr:∀(j:Nat)(u:V),cs[j]? =some u->R M w X n u (f j)) :
  ∃u,(loadVar t ad).run P w=.ok u w/\R M w X n (mkV ag (cs.take m)) u:=by
 obtain⟨i,hi,hsz,hisagg⟩:∃i,P.info? t=some i/\i.size=m/\(isAgg t).run P w=.ok ag w:=by
  unfold tyE at ht;cases hi:P.info? t with
  | none=>simp[hi]at ht
  | some i =>
   cases hu:P.underlying t with
   | none=>simp[hi,hu]at ht
   | some d =>
    refine⟨i,rfl,?_⟩;cases d<;>simp[hi,hu]at ht<;>obtain⟨h1,h2⟩:=ht<;>subst h2<;>simp[h1,isAgg,run_underlying hu]
 cases ag with
 | true =>
  refine⟨.agg ((List.range m).map f).toArray,?_,?_⟩
  ·have:=run_loadCells (P:=P) (w:=w) ad m f (fun j hj=>(hc j hj).1);simp only[loadVar,Sem.run_bind,hisagg,Result.andThen_ok,if_true,sizeOf,typeInfo,Sem.run_pure];simp[hi,hsz,this]
  refine .st _ _ _ (by simp;omega) (fun u hu=>?_) (fun j u hu=>?_)
  ·simp only[List.mem_toArray,List.mem_map,List.mem_range]at hu;obtain⟨j,hj,rfl⟩:=hu;exact(hc j hj).2
  rw[iL]at hu;split at hu
  ·rename_i hj;have:=hr j u hu;simpa[Array.getD,hj]using this
  simp at hu
 | false =>
  have hm1:m=1:=by simpa using hag
  subst hm1;refine⟨f 0,?_,?_⟩
  ·have h0:=(hc 0 (by omega)).1;have e:ad.add 0=ad:=by simp[Addr.add]
   rw[e]at h0;simp[loadVar,hisagg,load,Sem.run,h0]
  cases cs with
  | nil=>simp at hm
  | cons c cs =>
   have:=hr 0 c rfl;simpa[mkV]using this
theorem Qo{id sz i off:Nat}{u:Value}(h:R M w X n (.ptr id sz i off) u):∃g,id<n/\(M id).ownBlock=some g/\u=.pointer (some ⟨g,(M id).offB+(i*sz+off),none⟩):=by
 cases h with
 | ptr _ _ _ _ _ g k hid hg hk=>exact⟨g,hid,hg,by rw[hk]⟩
theorem R_ownU{id:Nat}{u:Value}(h:R M w X n (.own id) u):∃A l c,u=.slice A l c:=by cases h;exact⟨_,_,_,rfl⟩
theorem EJ{id:Nat}{u:Value}(h:R M w X n (.own id) u):∃A l c,M id=.slice A l c:=by
 cases h with
 | own _ _ A l c hid hv=>exact⟨_,_,_,hv⟩
theorem Ik{id:Nat}{u:Value}(h:R M w X n (.own id) u):id<n/\M id=u:=by
 cases h with
 | own _ _ A l c hid hv=>exact⟨hid,hv⟩
theorem PN{cs:List V}{u:Value}(h:R M w X n (.iptr cs) u):∃(ad:Addr)(f:Nat->Value),u=.pointer (some ad)/\X ad.block/\(∀j,j<cs.length->w.cell? (ad.add j)=some (f j)/\(f j).oneCell'=true) /\
  ∀(j:Nat)(u:V),cs[j]? =some u->R M w X 0 u (f j):=by
 cases h with
 | iptr _ _ ad f hX hc h=>exact⟨ad,f,rfl,hX,hc,h⟩
theorem R.up{v:V}{u:Value}(h:R M w X 0 v u):R M w X n v u:=h.mono (Nat.zero_le _) (fun _ hi=>absurd hi (by omega)) (fun _ h=>h) (fun _ _=>rfl)
theorem XO[Glo](h:RelX base st a w M X N){id:Nat}{o:Ob}(ho:lookO st.ob id=some o){g:Nat}(hg:(M id).ownBlock=some g){i:Nat}(hi:i<o.xs.length):
  ∃f:Nat->Value,(∀j,j<o.sz->w.cell? ⟨g,(M id).offB+(i*o.sz+j),none⟩=some (f j)/\(f j).oneCell'=true) /\
   ∀(j:Nat)(u:V),(o.xs.getD i [])[j]? =some u->R M w (X) N u (f j):=by
 obtain⟨_,hok⟩:=h.obs id o ho;obtain⟨vals,hrow,h1,hr⟩:=hok.row;have hvl:vals.length=o.xs.length*o.sz:=hrow.1;have hin:∀j,j<o.sz->i*o.sz+j<vals.length:=fun j hj=>by
  have:(i+1)*o.sz<=o.xs.length*o.sz:=iW _ (by omega);rw[Nat.add_mul]at this;omega
 refine⟨fun j=>vals.getD (i*o.sz+j) undef,fun j hj=>?_,fun j u hu=>?_⟩
 ·have hl:=hin j hj;have hv:vals[i*o.sz+j]? =some (vals.getD (i*o.sz+j) undef):=by
   rw[gP,gR hl];rfl
  have hc:=hrow.cells hg (i*o.sz+j) _ hv;have e:(⟨g,(M id).offB,none⟩:Addr).add (i*o.sz+j)=⟨g,(M id).offB+(i*o.sz+j),none⟩:=Addr.add_lit _ _ _;rw[e]at hc;exact⟨hc,h1 _ (g9 hv)⟩
 have hlen:(o.xs.getD i []).length=o.sz:=by
  rw[gP,gR hi];exact hok.len _ (List.getElem_mem hi)
 have hj:j<o.sz:=by
  have:=(List.getElem?_eq_some_iff.1 hu).1;omega
 have:=hr (i*o.sz+j) u (by rw[flat_get _ _ _ hok.len hj];exact hu);refine this.mono ?_ (fun _ _=>rfl) (fun _ h=>h) (fun _ _=>rfl);split
 ·exact g8 _
 exact Nat.zero_le _
theorem TA{cs:List V}{f:Nat->Value}(k:Nat)(hr:∀(j:Nat) (u:V),cs[j]? =some u->R M w X n u (f j)):∀(j:Nat)(u:V),(cs.drop k)[j]? =some u->R M w X n u (f (k+j)) :=
 fun j u hu=>hr (k+j) u (by rw[<- iP];exact hu)
theorem Ms[Glo]{cs:List V}{ad:Addr}{f:Nat->Value}(k:Nat)(hX:X ad.block)(hc:∀j,j<cs.length->w.cell? (ad.add j)=some (f j)/\(f j).oneCell'=true)
  (hr:∀(j:Nat)(u:V),cs[j]? =some u->R M w X 0 u (f j)):R M w X n (.iptr (cs.drop k)) (.pointer (some (ad.add k))) :=
 .iptr _ _ _ (fun j=>f (k+j)) (by rw[block_add];exact hX) (fun j hj=>by rw[add_add];exact hc _ (by rw[iE]at hj;omega)) (TA k hr)
theorem K9[Glo]{P:Program}{t:TypeId}{m:Nat}{ag:Bool}(ht:tyE P t=some (m,ag))(hag:(ag||m==1)=true){cs:List V}{arr:Array Value}(k:Nat)(hk:k+m<=cs.length)
  (hl:cs.length=arr.size) (h1:∀u∈arr,u.oneCell'=true) (h:∀(j:Nat)(u:V),cs[j]? =some u->R M w X n u (arr.getD j undef)) :
  ∃u,(part t arr k).run P w=.ok u w/\R M w X n (mkV ag ((cs.drop k).take m)) u:=by
 obtain⟨i,hi,hsz,hisagg⟩:∃i,P.info? t=some i/\i.size=m/\(isAgg t).run P w=.ok ag w:=by
  unfold tyE at ht;cases hi:P.info? t with
  | none=>simp[hi]at ht
  | some i =>
   cases hu:P.underlying t with
   | none=>simp[hi,hu]at ht
   | some d =>
    refine⟨i,rfl,?_⟩;cases d<;>simp[hi,hu]at ht<;>obtain⟨h1,h2⟩:=ht<;>subst h2<;>simp[h1,isAgg,run_underlying hu]
 cases ag with
 | true =>
  refine⟨.agg (arr.extract k (k+m)),?_,.st _ _ _ ?_ ?_ ?_⟩
  ·simp only[part,Sem.run_bind,hisagg,Result.andThen_ok,if_true,sizeOf,typeInfo,Sem.run_pure];simp[hi,hsz]
  ·simp;omega
  ·intro u hu;have:u∈arr:=by
    rw[Array.mem_def]at hu ⊢;rw[Array.toList_extract,List.extract_eq_take_drop]at hu;exact List.mem_of_mem_drop (i5 hu)
   exact h1 u this
  intro j u hu;rw[iL]at hu;split at hu
  ·rename_i hj;have:=TA (f:=fun j=>arr.getD j undef) k h j u hu;have e:(arr.extract k (k+m)).getD j undef=arr.getD (k+j) undef:=by
    simp only[gZ];rw[Array.getElem?_extract_of_lt (by omega),i9 (by omega)]
   rw[e];exact this
  simp at hu
 | false =>
  have hm1:m=1:=by simpa using hag
  subst hm1;have hlt:k<arr.size:=by omega
  refine⟨arr[k],?_,?_⟩
  ·simp[part,hisagg,hlt]
  have hu:cs[k]? =some cs[k]:=gR (by omega);have:=h k _ hu;have e:arr.getD k undef=arr[k]:=by simp[Array.getD,hlt]
  rw[e]at this;have e2:mkV false ((cs.drop k).take 1)=cs[k]:=by
   simp only[mkV,cond_false];rw[List.drop_eq_getElem_cons (by omega)];rfl
  rw[e2];exact this
theorem Mh{P:Program}{t:TypeId}{f o m:Nat}{ag:Bool}(h:Aq P t f=some (o,m,ag)):
  ∃fs fd,P.underlying t=some (.struct fs)/\fs[f]? =some fd/\fd.offset=o/\tyE P fd.type=some (m,ag)/\m≠0:=by
 unfold Aq at h;split at h
 ·rename_i fs hu;split at h
  ·rename_i fd hf;split at h
   ·rename_i k ag' ht;split at h
    ·simp at h
    rename_i hk;simp only[gQ,Prod.mk.injEq]at h;obtain⟨rfl,rfl,rfl⟩:=h;exact⟨fs,fd,hu,hf,rfl,ht,hk⟩
   simp at h
  simp at h
 simp at h
theorem Hh{P:Program}{t:TypeId}{m:Nat}{ag:Bool}(ht:tyE P t=some (m,ag)):∃i,P.info? t=some i/\i.size=m:=by
 unfold tyE at ht;cases hi:P.info? t with
 | none=>simp[hi]at ht
 | some i =>
  cases hu:P.underlying t with
  | none=>simp[hi,hu]at ht
  | some d=>refine⟨i,rfl,?_⟩;cases d<;>simp[hi,hu]at ht<;>exact ht.1
theorem Bd{P:Program}{t e s b:Nat}(h:slE P t=some (e,s,b)):∃i z,P.underlying t=some (.slice e)/\P.info? e=some i/\i.zero=some z/\z.cells.size=s/\i.size=s/\i.bytes=b/\0<s:=by
 unfold slE at h;split at h
 ·rename_i e' hu;split at h
  ·rename_i i hi;split at h
   ·rename_i z hz;split at h
    ·rename_i hc;simp only[gQ,Prod.mk.injEq]at h;obtain⟨rfl,rfl,rfl⟩:=h;exact⟨i,z,hu,hi,hz,hc.1,rfl,rfl,hc.2⟩
    simp at h
   simp at h
  simp at h
 simp at h
theorem G2{P:Program}{t len k:Nat}{ag:Bool}(h:arE P t=some (len,k,ag)):∃e,P.underlying t=some (.array len e)/\tyE P e=some (k,ag):=by
 unfold arE at h;split at h
 ·rename_i n e hu;split at h
  ·rename_i k' ag' ht;simp only[gQ,Prod.mk.injEq]at h;obtain⟨rfl,rfl,rfl⟩:=h;exact⟨e,hu,ht⟩
  simp at h
 simp at h
theorem run_sizeOf{P:Program}{t:TypeId}{i:TypeInfo}(hi:P.info? t=some i):(sizeOf t).run P w=.ok i.size w:=by simp[sizeOf,typeInfo,hi]
theorem Md[Glo]{P:Program}{t:TypeId}{f o m:Nat}{ag:Bool}(h:Aq P t f=some (o,m,ag))(ad:Addr):(Instr.fieldAt t (.pointer (some ad)) f).run P w=.ok (.pointer (some (ad.add o))) w:=by
 obtain⟨fs,fd,hu,hf,rfl,ht,hm⟩:=Mh h;obtain⟨i,hi,hs⟩:=Hh ht;simp[Instr.fieldAt,run_underlying hu,hf,Instr.sureAddr,fieldPlace,run_sizeOf hi,hs,hm]
theorem SH{sz:Nat}{t:Bool}{xs:List (List V)}{u:Value}(h:R M w X n (.sl sz t xs) u):∃(A:Option Addr)(c:Nat)(f:Nat->Value),u=.slice A xs.length c/\xs.length<=c/\c<=maxLen/\(t=true->c=xs.length)/\(sz=0->A=none/\c=0) /\
  (∀x∈xs,x.length=sz)/\(0<xs.length->∃ad,A=some ad/\X ad.block/\∀j,j<xs.length*sz->w.cell? (ad.add j)=some (f j)/\(f j).oneCell'=true) /\
  ∀(j:Nat)(u:V),xs.flatten[j]? =some u->R M w X 0 u (f j):=by
 cases h with
 | sl _ _ _ _ A len c f hlen hc hm ht hnil hs hA h=>subst hlen;exact⟨A,c,f,rfl,hc,hm,ht,hnil,hs,hA,h⟩
end
end Go.Ab
namespace Go.Ab
open Go.RowKit
section
variable {P:Program} {base:Nat} {w:World} {st:St} {a:Act} {M:Mp} {p:Prop} {v:V} {X:Nat->Prop} {N:Nat}
theorem Ge:∀{ts:List Tg}{xs ys:List V}{r:Bool},GE ts xs ys=some r->xs.length=ts.length/\ys.length=ts.length
 | [],xs,ys,r,h=>by
  cases xs<;>cases ys<;>simp[GE]at h ⊢
 | t::ts,xs,ys,r,h=>by
  cases t<;>cases xs<;>cases ys<;>try (simp[GE]at h;done)
  all_goals
   rename_i x xs y ys;cases x<;>cases y<;>try (simp[GE]at h;done)
   simp only[GE]at h;try (rename_i k _ k' _;cases hk:decide (k=k')<;>simp only[hk,cond_true,cond_false,reduceCtorEq]at h)
   split at h
   ·rename_i r' hr;have:=Ge hr;simp[this.1,this.2]
   simp at h
theorem LG:∀{t1 t2:List Tg}{xs ys:List V}{r:Bool},GE (t1++t2) xs ys=some r ->
  ∃r1 r2,GE t1 (xs.take t1.length) (ys.take t1.length)=some r1/\GE t2 (xs.drop t1.length) (ys.drop t1.length)=some r2/\r=(r1&&r2)
 | [],t2,xs,ys,r,h=>⟨true,r,by simp[GE],by simpa using h,by simp⟩
 | t::t1,t2,xs,ys,r,h=>by
  cases t<;>cases xs<;>cases ys<;>try (simp[GE]at h;done)
  all_goals
   rename_i x xs y ys;cases x<;>cases y<;>try (simp[GE]at h;done)
   simp only[iT,GE]at h;try (rename_i k _ k' _;cases hk:decide (k=k')<;>simp only[hk,cond_true,cond_false,reduceCtorEq]at h)
   split at h
   ·rename_i r' hr;obtain⟨r1,r2,h1,h2,h3⟩:=LG hr;simp only[gQ]at h;refine⟨_,r2,?_,by simpa using h2,by rw[<- h,h3,<- Bool.and_assoc]⟩;simp only[iO,List.take_succ_cons,GE,h1];try simp only[hk,cond_true]
   simp at h
theorem JB[Glo]{d D:Nat} (ih:∀(t:TypeId)(ts:List Tg)(as bs:List V)(x y:Value)(r:Bool)(m:Nat)(ag:Bool),OE P d t=some ts->GE ts as bs=some r->tyE P t=some (m,ag) ->
   R M w X N (mkV ag as) x->R M w X N (mkV ag bs) y->(Op.equalIn D t x y).run P w=.ok r w) {as bs:List V} {A B:Array Value}
  (la:as.length=A.size) (lb:bs.length=B.size) (oa:∀u∈A,u.oneCell'=true) (ob:∀u∈B,u.oneCell'=true)
  (ha:∀(j:Nat)(u:V),as[j]? =some u->R M w X N u (A.getD j undef)) (hb:∀(j:Nat)(u:V),bs[j]? =some u->R M w X N u (B.getD j undef)) :
  ∀(fs:List Field)(o:Nat)(ts:List Tg)(r:Bool),bA P (OE P d) fs o=some ts->GE ts (as.drop o) (bs.drop o)=some r->(Op.eqFields D A B fs).run P w=.ok r w
 | [],o,ts,r,h,hc=>by
  simp only[bA,gQ]at h;subst h;have:r=true:=by
   revert hc;generalize as.drop o=xs;generalize bs.drop o=ys;intro hc;cases xs<;>cases ys<;>simp[GE]at hc;exact hc
  subst this;simp[Op.eqFields]
 | f::fs,o,ts,r,h,hc=>by
  simp only[bA]at h;split at h
  ·rename_i t1 m ag h1 hty;cases hcond:((f.name != "_")&&f.offset==o&&m==t1.length&&(ag||m==1)&&m != 0)with
   | false=>simp[hcond]at h
   | true =>
    simp only[hcond,cond_true]at h;simp only[gX,bne_iff_ne,ne_eq,beq_iff_eq]at hcond;obtain⟨⟨⟨⟨hn,ho⟩,hm⟩,hag⟩,hm0⟩:=hcond;split at h
    ·rename_i t2 h2;simp only[gQ]at h;subst h;obtain⟨r1,r2,c1,c2,rfl⟩:=LG hc;have l1:=Ge c1;have lens:=Ge hc;simp only[iE,gV]at lens;obtain⟨u1,p1,q1⟩:=K9 (w:=w) hty hag f.offset (by omega) la oa ha;obtain⟨u2,p2,q2⟩:=K9 (w:=w) hty hag f.offset (by omega) lb ob hb;have e:=ih f.type t1 _ _ u1 u2 r1 m ag h1 c1 hty (by rw[ho,hm]at q1;exact q1) (by rw[ho,hm]at q2;exact q2);have rest:=JB ih la lb oa ob ha hb fs (o+m) t2 r2 h2 (by rw[hm];simpa[List.drop_drop]using c2);simp only[Op.eqFields,Sem.run_ite,hn,ne_eq,not_false_eq_true,if_true,Sem.run_bind,p1,p2,e,Result.andThen_ok];cases r1 with
     | false=>simp
     | true=>simpa using rest
    simp at h
  simp at h
theorem Ma[Glo]{d D:Nat} (ih:∀(t:TypeId)(ts:List Tg)(as bs:List V)(x y:Value)(r:Bool)(m:Nat)(ag:Bool),OE P d t=some ts->GE ts as bs=some r->tyE P t=some (m,ag) ->
   R M w X N (mkV ag as) x->R M w X N (mkV ag bs) y->(Op.equalIn D t x y).run P w=.ok r w) {as bs:List V} {A B:Array Value}
  (la:as.length=A.size) (lb:bs.length=B.size) (oa:∀u∈A,u.oneCell'=true) (ob:∀u∈B,u.oneCell'=true)
  (ha:∀(j:Nat)(u:V),as[j]? =some u->R M w X N u (A.getD j undef)) (hb:∀(j:Nat)(u:V),bs[j]? =some u->R M w X N u (B.getD j undef))
  {e:TypeId} {ts:List Tg} {m:Nat} {ag:Bool} (hts:OE P d e=some ts) (hty:tyE P e=some (m,ag)) (hm:m=ts.length) (hag:(ag||m==1)=true) (hm0:¬m=0) :
  ∀(n s:Nat)(r:Bool),GE (List.replicate n ts).flatten (as.drop (s*m)) (bs.drop (s*m))=some r->(Op.eqItems D e m A B (List.range' s n)).run P w=.ok r w
 | 0,s,r,hc=>by
  have:r=true:=by
   revert hc;generalize as.drop (s*m)=xs;generalize bs.drop (s*m)=ys;intro hc;cases xs<;>cases ys<;>simp[GE]at hc;exact hc
  subst this;simp[Op.eqItems]
 | n+1,s,r,hc=>by
  rw[List.replicate_succ,List.flatten_cons]at hc;obtain⟨r1,r2,c1,c2,rfl⟩:=LG hc;have lens:=Ge hc;simp only[iE,gV]at lens;have l1:=Ge c1;simp only[iD,iE]at l1;obtain⟨u1,p1,q1⟩:=K9 (w:=w) hty hag (s*m) (by omega) la oa ha;obtain⟨u2,p2,q2⟩:=K9 (w:=w) hty hag (s*m) (by omega) lb ob hb;have e1:=ih e ts _ _ u1 u2 r1 m ag hts c1 hty (by rw[hm]at q1 ⊢;exact q1) (by rw[hm]at q2 ⊢;exact q2);have rest:=Ma ih la lb oa ob ha hb hts hty hm hag hm0 n (s+1) r2 (by rw[<- hm,List.drop_drop,List.drop_drop]at c2;rw[Nat.add_mul,Nat.one_mul];exact c2);simp only[List.range'_succ,Op.eqItems,Sem.run_bind,p1,p2,e1,Result.andThen_ok];cases r1 with
  | false=>simp
  | true=>simpa using rest
theorem LH[Glo]:∀(d D:Nat)(_:d<=D)(t:TypeId)(ts:List Tg)(as bs:List V)(x y:Value)(r:Bool)(m:Nat)(ag:Bool),OE P d t=some ts->GE ts as bs=some r->tyE P t=some (m,ag) ->
   R M w X N (mkV ag as) x->R M w X N (mkV ag bs) y->(Op.equalIn D t x y).run P w=.ok r w
 | 0,_,_,t,ts,as,bs,x,y,r,m,ag,h,_,_,_,_=>by simp[OE]at h
 | d+1,D,hD,t,ts,as,bs,x,y,r,m,ag,h,hc,hty,hx,hy=>by
  obtain⟨D,rfl⟩:∃D',D=D'+1:=⟨D-1,by omega⟩;simp only[OE]at h;split at h
  ·rename_i k hu;simp only[gQ]at h;subst h;have hag:ag=false:=by unfold tyE at hty;rw[hu]at hty;cases hi:P.info? t<;>simp[hi]at hty;exact hty.2
   subst hag
   match as,bs,hc with
   | .int k1 a::xs,.int k2 b::ys,hc =>
    simp only[GE]at hc;cases hk:decide (k1=k2)with
    | false=>simp[hk]at hc
    | true =>
     simp only[decide_eq_true_eq]at hk;subst hk;have hr:r=(a==b):=by cases xs<;>cases ys<;>simp[GE]at hc;rw[<- hc]
     have h1:=DK (show R M w X N (.int k1 a) x from hx);have h2:=DK (show R M w X N (.int k1 b) y from hy);rw[h1,h2,hr];exact run_equalIn_int w D t k1 k a b hu
  ·rename_i hu;simp only[gQ]at h;subst h;have hag:ag=false:=by unfold tyE at hty;rw[hu]at hty;cases hi:P.info? t<;>simp[hi]at hty;exact hty.2
   subst hag
   match as,bs,hc with
   | .bool a::xs,.bool b::ys,hc =>
    simp only[GE]at hc;have hr:r=(a==b):=by cases xs<;>cases ys<;>simp[GE]at hc;rw[<- hc]
    have h1:=Et (show R M w X N (.bool a) x from hx);have h2:=Et (show R M w X N (.bool b) y from hy);rw[h1,h2,hr];exact run_equalIn_bool w D t a b hu
  ·rename_i hu;simp only[gQ]at h;subst h;have hag:ag=false:=by unfold tyE at hty;rw[hu]at hty;cases hi:P.info? t<;>simp[hi]at hty;exact hty.2
   subst hag
   match as,bs,hc with
   | .str a::xs,.str b::ys,hc =>
    simp only[GE]at hc;have hr:r=(a==b):=by cases xs<;>cases ys<;>simp[GE]at hc;rw[<- hc]
    have h1:=Ea (show R M w X N (.str a) x from hx);have h2:=Ea (show R M w X N (.str b) y from hy);rw[h1,h2,hr];have:=run_equalIn_string (P:=P) w D t ⟨a.toArray⟩ ⟨b.toArray⟩ hu;simpa[ByteArray.toList_eq]using this
  ·rename_i fs hu;cases hst:P.stoodInHeld t with
   | true=>simp[hst]at h
   | false =>
    simp only[hst,cond_false]at h;have hag:ag=true:=by unfold tyE at hty;rw[hu]at hty;cases hi:P.info? t<;>simp[hi]at hty;exact hty.2
    subst hag;have hf:P.fieldsOf t=fs:=by simp[Program.fieldsOf,hu]
    cases (show R M w X N (.st as) x from hx)with
    | st _ _ A la oa ha =>
    cases (show R M w X N (.st bs) y from hy)with
    | st _ _ B lb ob hb =>
    rw[run_equalIn_struct w D t A B (by rw[hf];exact hu) hst,hf];exact JB (fun t ts as bs x y r m ag h1 h2 h3 h4 h5=>LH d D (by omega) t ts as bs x y r m ag h1 h2 h3 h4 h5) la lb oa ob ha hb fs.toList 0 ts r h (by simpa using hc)
  ·rename_i n e hu;split at h
   ·rename_i ts1 m1 ag1 h1 hty1;cases hcond:(m1==ts1.length&&(ag1||m1==1)&&m1==P.cellsOf e&&m1 != 0)with
    | false=>simp[hcond]at h
    | true =>
     simp only[hcond,cond_true,gQ]at h;subst h;simp only[gX,beq_iff_eq,bne_iff_ne,ne_eq]at hcond;obtain⟨⟨⟨hm,hag1⟩,hce⟩,hm0⟩:=hcond;have hag:ag=true:=by unfold tyE at hty;rw[hu]at hty;cases hi:P.info? t<;>simp[hi]at hty;exact hty.2
     subst hag;cases (show R M w X N (.st as) x from hx)with
     | st _ _ A la oa ha =>
     cases (show R M w X N (.st bs) y from hy)with
     | st _ _ B lb ob hb =>
     obtain⟨i,hi⟩:∃i,P.info? e=some i:=by
      unfold tyE at hty1;cases hi:P.info? e with
      | none=>simp[hi]at hty1
      | some i=>exact⟨i,rfl⟩
     rw[run_equalIn_array w D A B hu hi,List.range_eq_range',<- hce];exact Ma (fun t ts as bs x y r m ag h1 h2 h3 h4 h5=>LH d D (by omega) t ts as bs x y r m ag h1 h2 h3 h4 h5) la lb oa ob ha hb h1 hty1 hm hag1 hm0 n 0 r (by simpa using hc)
   simp at h
  simp at h
theorem OF{d:Nat}{t:TypeId}{fs:Array Field}(hu:P.underlying t=some (.struct fs)):OE P (d+1) t=bif P.stoodInHeld t then none else bA P (OE P d) fs.toList 0:=by simp only[OE,hu]
theorem aC[Glo]{op:BinOp}{t:TypeId}{x y:V}{ux uy:Value}{n:Nat}(h:binV P op t x y=some (p,v))(hp:p)(hx:R M w X n x ux)(hy:R M w X n y uy):
  ∃u,(binOp op t ux uy).run P w=.ok u w/\R M w X n v u:=by
 unfold binV at h;split at h
 ·rename_i k i k' j;rw[DK hx,DK hy];cases hs:isSh op with
  | true =>
   simp only[hs,cond_true]at h;cases op<;>simp[isSh]at hs<;>simp only[shI,gQ,Prod.mk.injEq]at h<;>obtain⟨rfl,rfl⟩:=h
   ·exact⟨_,by simp[binOp,Op.shift,show ¬j<0 by omega],.int _ _ _⟩
   exact⟨_,by simp[binOp,Op.shift,show ¬j<0 by omega],.int _ _ _⟩
  | false =>
   simp only[hs,cond_false]at h;by_cases hk:k=k'
   ·subst hk;simp only[decide_true,cond_true]at h;cases op<;>simp only[binI,gQ,Prod.mk.injEq,reduceCtorEq]at h<;>obtain⟨rfl,rfl⟩:=h
    all_goals first
     | (refine⟨_,?_,.bool _ _⟩;simp only[binOp,Op.intCmp,ne_eq,not_true_eq_false,if_false,Sem.run_pure];done)
     | (refine⟨_,?_,.int _ _ _⟩;simp only[binOp,Op.intArith,Op.intBits,Bg,ior,Vp,Da,ne_eq,not_true_eq_false,if_false,Sem.run_pure];done)
     | (refine⟨_,?_,.int _ _ _⟩;simp only[binOp,Op.intDiv,ne_eq,not_true_eq_false,if_false,if_neg hp,Sem.run_pure];done)
   simp[hk]at h
 ·rename_i s1 s2;rw[Ea hx,Ea hy];have e1:∀s:List UInt8,(ByteArray.mk s.toArray).toList=s:=fun s=>ByteArray.toList_mk s;have e2:∀s:List UInt8,(ByteArray.mk s.toArray).size=s.length:=fun s=>by simp[ByteArray.size]
  cases op<;>simp only[binS,gQ,Prod.mk.injEq,reduceCtorEq]at h<;>obtain⟨rfl,rfl⟩:=h
  all_goals first
   | (refine⟨_,?_,.bool _ _⟩;simp only[binOp,Op.stringOp,e1,Sem.run_pure,bne];done)
   | skip
  refine⟨_,?_,.str _ _⟩;have:¬((s1.length:Int)+s2.length > IntKind.i64.max):=by
   have:IntKind.i64.max=9223372036854775807:=by decide
   omega
  have e3:ByteArray.mk s1.toArray++ByteArray.mk s2.toArray=ByteArray.mk (s1++s2).toArray:=by
   apply ByteArray.ext;simp
  simp[binOp,Op.stringOp,e2,e3];omega
 ·rename_i b1 b2;rw[Et hx,Et hy];split at h
  ·rename_i hu;simp only[gQ,Prod.mk.injEq]at h;obtain⟨rfl,rfl⟩:=h;exact⟨_,run_eql_bool _ t b1 b2 hu,.bool _ _⟩
  ·rename_i hu;simp only[gQ,Prod.mk.injEq]at h;obtain⟨rfl,rfl⟩:=h;exact⟨_,run_neq_bool _ t b1 b2 hu,.bool _ _⟩
  simp at h
 ·rename_i as bs;split at h
  ·rename_i ts hts;unfold eqE at hts;split at hts
   ·rename_i fs hu;have hts:OE P 20 t=some ts:=by
     cases hgt:P.eqGuardType P.depth t with
     | true=>simp[hgt]at hts
     | false=>simpa only[hgt,cond_false]using hts
    cases hx with
    | st _ _ A la oa ha =>
    cases hy with
    | st _ _ B lb ob hb =>
    have htags:∀r,GE ts as bs=some r->(Op.equal t (.agg A) (.agg B)).run P w=.ok r w:=fun r hr=>by
     have hst:P.stoodInHeld t=false/\bA P (OE P 19) fs.toList 0=some ts:=by
      have hts:=(OF (d:=19) hu).symm.trans hts;cases hst:P.stoodInHeld t with
      | true=>simp[hst]at hts
      | false=>exact⟨rfl,by simpa[hst]using hts⟩
     have hf:P.fieldsOf t=fs:=by simp[Program.fieldsOf,hu]
     have e:Op.equal t (.agg A) (.agg B)=Op.equalIn (9999+1) t (.agg A) (.agg B):=rfl;rw[e,run_equalIn_struct w 9999 t A B (by rw[hf];exact hu) hst.1,hf];exact JB (fun t ts as bs x y r m ag h1 h2 h3 h4 h5=>LH 19 9999 (by omega) t ts as bs x y r m ag h1 h2 h3 h4 h5) la lb oa ob ha hb fs.toList 0 ts r hst.2 (by simpa using hr)
    split at h
    ·rename_i r hr;simp only[gQ,Prod.mk.injEq]at h;obtain⟨rfl,rfl⟩:=h;exact⟨.bool r,by simp[binOp,htags r hr],.bool _ _⟩
    ·rename_i r hr;simp only[gQ,Prod.mk.injEq]at h;obtain⟨rfl,rfl⟩:=h;exact⟨.bool !r,by simp[binOp,htags r hr],.bool _ _⟩
    simp at h
   simp at hts
  simp at h
 simp at h
theorem un_run[Glo]{op:UnOp}{x:V}{ux:Value}{n:Nat}(h:unV op x=some (p,v))(hx:R M w X n x ux):
  ∃u,(Op.unary op ux).run P w=.ok u w/\R M w X n v u:=by
 unfold unV at h;split at h<;>simp only[gQ,Prod.mk.injEq,reduceCtorEq]at h
 ·obtain⟨rfl,rfl⟩:=h;rw[Et hx];exact⟨_,by simp[Op.unary],.bool _ _⟩
 ·obtain⟨rfl,rfl⟩:=h;rw[DK hx];exact⟨_,by simp[Op.unary,Op.intArith],.int _ _ _⟩
 obtain⟨rfl,rfl⟩:=h;rw[DK hx];exact⟨_,by simp[Op.unary,Op.intBits],.int _ _ _⟩
theorem UV[Glo]{t:TypeId}{x:Operand}(h:pv P st (.load t x)=some (p,v))(hp:p)(hR:RelX base st a w M X N):
  ∃u,(Instr.loadAt t (a.eval x)).run P w=.ok u w/\R M w (X) N v u:=by
 have hx:=CU hR x;simp only[pv]at h;split at h
 ·simp at h
 rename_i m ag ht;cases hag:(ag||m==1)with
 | false=>simp[hag]at h
 | true =>
  simp only[hag,cond_true]at h;split at h
  ·rename_i id sz i off he;split at h
   ·rename_i o ho;simp only[gQ,Prod.mk.injEq]at h;obtain⟨rfl,rfl⟩:=h;obtain⟨rfl,hi,hoff⟩:=hp;rw[he]at hx;obtain⟨g,_,hg,hu⟩:=Qo hx;obtain⟨f,hc,hr⟩:=XO hR ho hg hi;have hlen:(o.xs.getD i []).length=o.sz:=by
     rw[gP,gR hi];exact(hR.obs id o ho).2.len _ (List.getElem_mem hi)
    obtain⟨u,hrun,hru⟩:=ZK (P:=P) ht hag ⟨g,(M id).offB+(i*o.sz+off),none⟩ ((o.xs.getD i []).drop off) (fun j=>f (off+j)) (by rw[iE];omega) (fun j hj=>by
     have:=hc (off+j) (by omega);have e:(⟨g,(M id).offB+(i*o.sz+off),none⟩:Addr).add j=⟨g,(M id).offB+(i*o.sz+(off+j)),none⟩:=by rw[Addr.add_lit];congr 1;omega
     rw[e];exact this) (TA off hr)
    exact⟨u,by rw[hu];simpa[Instr.loadAt,Instr.sureAddr]using hrun,hru⟩
   simp at h
  ·rename_i cs he;simp only[gQ,Prod.mk.injEq]at h;obtain⟨rfl,rfl⟩:=h;rw[he]at hx;obtain⟨ad,f,hu,_,hc,hr⟩:=PN hx;obtain⟨u,hrun,hru⟩:=ZK (P:=P) ht hag ad cs f hp (fun j hj=>hc j (by omega)) (fun j u hu=>(hr j u hu).up);exact⟨u,by rw[hu];simpa[Instr.loadAt,Instr.sureAddr]using hrun,hru⟩
  simp at h
theorem NJ[Glo]{t:TypeId}{x:Operand}{f:Nat}(h:pv P st (.fieldAddr t x f)=some (p,v))(hR:RelX base st a w M X N):
  ∃u,(Instr.fieldAt t (a.eval x) f).run P w=.ok u w/\R M w (X) N v u:=by
 have hx:=CU hR x;simp only[pv]at h;split at h
 ·simp at h
 rename_i o m ag hf;split at h
 ·rename_i id sz i off he;simp only[gQ,Prod.mk.injEq]at h;obtain⟨rfl,rfl⟩:=h;rw[he]at hx;obtain⟨g,hid,hg,hu⟩:=Qo hx;rw[hu,Md hf];refine⟨_,rfl,?_⟩;have e:(⟨g,(M id).offB+(i*sz+off),none⟩:Addr).add o=⟨g,(M id).offB+(i*sz+(off+o)),none⟩:=by rw[Addr.add_lit];congr 1;omega
  rw[e];exact .ptr _ id sz i (off+o) g _ hid hg rfl
 ·rename_i cs he;simp only[gQ,Prod.mk.injEq]at h;obtain⟨rfl,rfl⟩:=h;rw[he]at hx;obtain⟨ad,g,hu,hX,hc,hr⟩:=PN hx;rw[hu,Md hf];exact⟨_,rfl,Ms o hX hc hr⟩
 simp at h
theorem X6[Glo]{t:TypeId}{x:Operand}{f:Nat}(h:pv P st (.field t x f)=some (p,v))(hp:p)(hR:RelX base st a w M X N):
  ∃u,(Instr.field t (a.eval x) f).run P w=.ok u w/\R M w (X) N v u:=by
 have hx:=CU hR x;simp only[pv]at h;split at h
 ·simp at h
 rename_i o m ag hf;cases hag:(ag||m==1)with
 | false=>simp[hag]at h
 | true =>
  simp only[hag,cond_true]at h;split at h
  ·rename_i cs he;simp only[gQ,Prod.mk.injEq]at h;obtain⟨rfl,rfl⟩:=h;rw[he]at hx;obtain⟨fs,fd,hu,hfd,rfl,ht,_⟩:=Mh hf;cases hv:a.eval x with
   | agg arr =>
    rw[hv]at hx;cases hx with
    | st _ _ _ hl h1 hh =>
     obtain⟨u,hrun,hr⟩:=K9 (P:=P) ht hag fd.offset hp hl h1 hh;exact⟨u,by simpa[Instr.field,run_underlying hu,hfd,asAgg]using hrun,hr⟩
   | _=>rw[hv]at hx;cases hx
  simp at h
end
end Go.Ab
namespace Go.Ab
open Go.RowKit
section
variable {P:Program} {base:Nat} {w:World} {st:St} {a:Act} {M:Mp} {p:Prop} {v:V} {X:Nat->Prop} {N:Nat}
theorem NK[Glo]{t:TypeId}{x ix:Operand}(h:pv P st (.indexAddr t x ix)=some (p,v))(hp:p)(hR:RelX base st a w M X N):
  ∃u,(Instr.indexAt t (a.eval x) (a.eval ix)).run P w=.ok u w/\R M w (X) N v u:=by
 have hx:=CU hR x;have hi:=CU hR ix;simp only[pv]at h;split at h
 ·rename_i k z hez;rw[hez]at hi;rw[DK hi];split at h
  ·rename_i sz tt xs he;split at h
   ·rename_i e s b hs;simp only[gQ,Prod.mk.injEq]at h;obtain⟨rfl,rfl⟩:=h;obtain⟨hsz,h0,h1⟩:=hp;rw[he]at hx;obtain⟨A,c,f,hu,hlc,hm,ht,hnil,hl,hA,hr⟩:=SH hx;obtain⟨ad,rfl,hX,hc⟩:=hA (by omega);obtain⟨inf,zz,hund,hinf,_,_,hisz,_,_⟩:=Bd hs;have hsz':s=sz:=by
     rcases hsz with h|h
     ·exact h
     subst h;simp at h1;omega
    subst hsz';have hlt:z.toNat<xs.length:=by omega
    rw[hu];refine⟨.pointer (some (ad.add (z.toNat*s))),?_,?_⟩
    ·simp[Instr.indexAt,asIntOf,run_underlying hund,run_sizeOf hinf,hisz,h0,h1]
    have hel:(xs.getD z.toNat []).length=s:=by
     rw[gP,gR hlt];exact hl _ (List.getElem_mem hlt)
    refine .iptr _ _ _ (fun j=>f (z.toNat*s+j)) (by rw[block_add];exact hX) (fun j hj=>?_) (fun j u hu=>?_)
    ·rw[add_add];refine hc _ ?_;have:(z.toNat+1)*s<=xs.length*s:=iW _ (by omega);rw[Nat.add_mul]at this;omega
    have hj:j<s:=by have:=(List.getElem?_eq_some_iff.1 hu).1;omega
    exact hr _ u (by rw[flat_get _ _ _ hl hj];exact hu)
   simp at h
  ·rename_i id he;split at h
   ·rename_i e s b o hs ho;simp only[gQ,Prod.mk.injEq]at h;obtain⟨rfl,rfl⟩:=h;obtain⟨rfl,h0,h1⟩:=hp;rw[he]at hx;obtain⟨inf,zz,hund,hinf,_,_,hisz,_,_⟩:=Bd hs;obtain⟨hid,hok⟩:=hR.obs id o ho;obtain⟨vals,hrow,_⟩:=hok.row;obtain⟨_,hv⟩:=Ik hx;rcases hrow.sl (EJ hx)with⟨hnil,h2⟩|⟨g,O,cap,cur,hval,_⟩
    ·simp at h2;simp[h2]at h1;omega
    rw[<- hv,hval];have e:(⟨g,O,none⟩:Addr).add (z.toNat*o.sz)=⟨g,O+(z.toNat*o.sz+0),none⟩:=Addr.add_lit _ _ _;refine⟨.pointer (some ((⟨g,O,none⟩:Addr).add (z.toNat*o.sz))),?_,?_⟩
    ·simp[Instr.indexAt,asIntOf,run_underlying hund,run_sizeOf hinf,hisz,h0,h1]
    rw[e];exact .ptr _ id o.sz z.toNat 0 g _ hid (by rw[hval];rfl) (by rw[hval];rfl)
   simp at h
  ·rename_i id sz i off he;split at h
   ·rename_i len es ag har;simp only[gQ,Prod.mk.injEq]at h;obtain⟨rfl,rfl⟩:=h;obtain⟨h0,h1⟩:=hp;rw[he]at hx;obtain⟨g,hid,hg,hu⟩:=Qo hx;obtain⟨e,hund,hty⟩:=G2 har;obtain⟨inf,hinf,hisz⟩:=Hh hty;rw[hu];have e:(⟨g,(M id).offB+(i*sz+off),none⟩:Addr).add (z.toNat*es)=⟨g,(M id).offB+(i*sz+(off+z.toNat*es)),none⟩:=by rw[Addr.add_lit];congr 1;omega
    refine⟨.pointer (some ((⟨g,(M id).offB+(i*sz+off),none⟩:Addr).add (z.toNat*es))),?_,?_⟩
    ·simp[Instr.indexAt,asIntOf,run_underlying hund,run_sizeOf hinf,hisz,Instr.sureAddr,h0,h1]
    rw[e];exact .ptr _ id sz i _ g _ hid hg rfl
   simp at h
  ·rename_i cs he;split at h
   ·rename_i len es ag har;simp only[gQ,Prod.mk.injEq]at h;obtain⟨rfl,rfl⟩:=h;obtain⟨h0,h1⟩:=hp;rw[he]at hx;obtain⟨ad,f,hu,hX,hc,hr⟩:=PN hx;obtain⟨e,hund,hty⟩:=G2 har;obtain⟨inf,hinf,hisz⟩:=Hh hty;rw[hu];refine⟨.pointer (some (ad.add (z.toNat*es))),?_,Ms _ hX hc hr⟩;simp[Instr.indexAt,asIntOf,run_underlying hund,run_sizeOf hinf,hisz,Instr.sureAddr,h0,h1]
   simp at h
  simp at h
 simp at h
theorem X7[Glo]{t:TypeId}{x ix:Operand}(h:pv P st (.index t x ix)=some (p,v))(hp:p)(hR:RelX base st a w M X N):
  ∃u,(Instr.index t (a.eval x) (a.eval ix)).run P w=.ok u w/\R M w (X) N v u:=by
 have hx:=CU hR x;have hi:=CU hR ix;simp only[pv]at h;split at h
 ·rename_i k z hez;rw[hez]at hi;rw[DK hi];split at h
  ·rename_i s he;cases hs:Dv P t with
   | false=>simp[hs]at h
   | true =>
    simp only[hs,cond_true,gQ,Prod.mk.injEq]at h;obtain⟨rfl,rfl⟩:=h;obtain⟨h0,h1⟩:=hp;rw[he]at hx;rw[Ea hx];have hu:P.underlying t=some .string:=by
     unfold Dv at hs;split at hs
     ·assumption
     simp at hs
    have hlt:z.toNat<s.length:=by omega
    refine⟨.int .u8 (s.getD z.toNat 0).toNat,?_,.int _ _ _⟩;have e:(ByteArray.mk s.toArray)[z.toNat]? =some (s.getD z.toNat 0):=by
     have hsz:z.toNat<(ByteArray.mk s.toArray).size:=by simpa[ByteArray.size]using hlt
     rw[getElem?_pos (ByteArray.mk s.toArray) z.toNat hsz];simp[ByteArray.getElem_eq_getElem_data,hlt]
    simp[Instr.index,asIntOf,run_underlying hu,h0,e]
  ·rename_i cs he;split at h
   ·rename_i len es ag har;cases hag:(ag||es==1)with
    | false=>simp[hag]at h
    | true =>
     simp only[hag,cond_true,gQ,Prod.mk.injEq]at h;obtain⟨rfl,rfl⟩:=h;obtain⟨h0,h1,h2⟩:=hp;rw[he]at hx;obtain⟨e,hund,hty⟩:=G2 har;obtain⟨inf,hinf,hisz⟩:=Hh hty;cases hv:a.eval x with
     | agg arr =>
      rw[hv]at hx;cases hx with
      | st _ _ _ hl h1' hh =>
       obtain⟨u,hrun,hr⟩:=K9 (P:=P) hty hag (z.toNat*es) h2 hl h1' hh;exact⟨u,by simpa[Instr.index,asIntOf,run_underlying hund,run_sizeOf hinf,hisz,h0,h1]using hrun,hr⟩
     | _=>rw[hv]at hx;cases hx
   simp at h
  simp at h
 simp at h
theorem WV{y:List V}(h:Ch y):y=[.int .u8 (Ec y).toNat]:=by
 obtain⟨b,rfl⟩:=h;simp[Ec]
theorem KI[Glo]:∀(xs:List (List V)),(∀y∈xs,Ch y)->xs.flatten=xs.map fun y=>.int .u8 (Ec y).toNat
 | [],_=>rfl
 | y::xs,h=>by
  rw[List.flatten_cons,KI xs fun z hz=>h z (gW _ hz),iI]
  conv=>lhs;arg 1;rw[WV (h y (g7 ..))]
  rfl
theorem b2s[Glo]{ad:Addr}{c n:Nat}{xs:List (List V)}(hb:∀y∈xs,Ch y)(f:Nat->Value)(hc:∀j,j<xs.length->w.cell? (ad.add j)=some (f j))
  (hr:∀(j:Nat)(u:V),xs.flatten[j]? =some u->R M w X n u (f j)) :
  (Conv.bytesToString (.slice (some ad) xs.length c)).run P w=.ok (.string ⟨(xs.map Ec).toArray⟩) w:=by
 have hl:=run_loadCells_list (P:=P) (w:=w) ad ((xs.map fun y=>((Ec y).toNat:Int)).map (Value.int .u8)) (fun j v hv=>by
  simp only[List.map_map,iG,Option.map_eq_some_iff]at hv;obtain⟨y,hy,rfl⟩:=hv;have hj:j<xs.length:=(List.getElem?_eq_some_iff.1 hy).1;rw[hc j hj];have:=hr j (.int .u8 (Ec y).toNat) (by rw[KI xs hb,iG,hy];rfl);rw[DK this];rfl)
 simp only[List.length_map]at hl;rw[run_bytesToString w ad xs.length c _ hl,foldl_push_bytes];have e:(ByteArray.empty).data=#[]:=rfl;rw[e];simp only[List.map_map,Function.comp_def,Int.toNat_natCast,UInt8.ofNat_toNat,List.append_toArray,jA]
theorem Fi{t:TypeId}(h:Dv P t=true):P.underlying t=some .string:=by
 unfold Dv at h;split at h
 ·assumption
 simp at h
theorem R_agg{n:Nat}{cs:List V}{u:Value}(h:R M w X n (.st cs) u):∃A,u=.agg A:=by cases h;exact⟨_,rfl⟩
theorem Ku{t:TypeId}(h:bsE P t=true):∃e,P.underlying t=some (.slice e)/\P.underlying e=some (.int .u8):=by
 unfold bsE at h;split at h
 ·rename_i e he;split at h
  ·rename_i h2;exact⟨e,he,h2⟩
  simp at h
 simp at h
theorem Rf[Glo]{s d:TypeId}{x:Operand}(h:pv P st (.convert s d x)=some (p,v))(hp:p)(hs:(P.underlying s).isSome=true)(hR:RelX base st a w M X N):
  ∃u,(convert s d (a.eval x)).run P w=.ok u w/\R M w (X) N v u:=by
 have hx:=CU hR x;simp only[pv]at h;split at h
 ·rename_i k n he;rw[he]at hx;rw[DK hx];split at h
  ·rename_i k' hk;simp only[gQ,Prod.mk.injEq]at h;obtain⟨rfl,rfl⟩:=h;have hu:P.underlying d=some (.int k'):=by
    unfold isInt at hk;split at hk
    ·simp at hk;subst hk;assumption
    simp at hk
   obtain⟨ds,hds⟩:=Option.isSome_iff_exists.1 hs;refine⟨.int k' (k'.wrap n),?_,.int _ _ _⟩;simp[convert,run_underlying hds,run_underlying hu,Conv.intToInt]
  simp at h
 ·rename_i sz tt xs he;rw[he]at hx;cases hb:(bsE P s&&Dv P d)with
  | false=>simp[hb]at h
  | true =>
   simp only[hb,cond_true,gQ,Prod.mk.injEq]at h;obtain⟨rfl,rfl⟩:=h;simp only[gX]at hb;obtain⟨e,hu,he8⟩:=Ku hb.1;have hd:=Fi hb.2;obtain⟨A,c,f,hv,_,_,_,_,hsz,hA,hr⟩:=SH hx;refine⟨.string ⟨(xs.map Ec).toArray⟩,?_,.str _ _⟩;rw[hv,run_convert_bytes_string w s d e A xs.length c hu he8 hd];cases A with
   | none =>
    have:xs=[]:=by
     rcases xs with _|⟨y,xs⟩
     ·rfl
     obtain⟨_,h0,_⟩:=hA (by simp);cases h0
    subst this;simp[Conv.bytesToString];rfl
   | some ad =>
    refine b2s hp f (fun j hj=>?_) hr;obtain⟨ad',h0,_,hcell⟩:=hA (by omega);cases h0;refine(hcell j ?_).1;have h1:sz=1:=by
     obtain⟨b,hb'⟩:=hp _ (List.getElem_mem hj);have:=hsz _ (List.getElem_mem hj);rw[hb']at this;simpa using this.symm
    rw[h1];omega
 ·rename_i id he;rw[he]at hx;split at h
  ·rename_i o ho;cases hb:(bsE P s&&Dv P d&&!o.box)with
   | false=>simp[hb]at h
   | true =>
    simp only[hb,cond_true,gQ,Prod.mk.injEq]at h;obtain⟨rfl,rfl⟩:=h;simp only[gX,i7]at hb;obtain⟨e,hu,he8⟩:=Ku hb.1.1;have hd:=Fi hb.1.2;obtain⟨_,hM⟩:=Ik hx;obtain⟨_,hok⟩:=hR.obs id o ho;obtain⟨vals,hrow,_,hr⟩:=hok.row;refine⟨.string ⟨(o.xs.map Ec).toArray⟩,?_,.str _ _⟩;rw[hM]at hrow;rcases hrow.sl (R_ownU hx)with⟨hv,hn⟩|⟨g,O,cap,cur,hv,hrest⟩
    ·rw[hv,run_convert_bytes_string w s d e none 0 0 hu he8 hd];rw[List.length_eq_zero_iff.1 hn];simp[Conv.bytesToString];rfl
    rw[hv,run_convert_bytes_string w s d e _ _ cap hu he8 hd];refine b2s hp (fun j=>vals.getD j undef) (fun j hj=>?_) hr;have h1:o.sz=1:=by
     obtain⟨b,hb'⟩:=hp _ (List.getElem_mem hj);have:=hok.len _ (List.getElem_mem hj);rw[hb']at this;simpa using this.symm
    have hl:vals.length=o.xs.length*o.sz:=hrow.1;rw[h1]at hl;have hcc:=hrow.cells (g:=g) (by rw[hv];rfl) j (vals.getD j undef) (by rw[gP,gR (by omega)];rfl);rw[hv]at hcc;exact hcc
  simp at h
 simp at h
theorem Rh[Glo]{x:Operand}{i:Nat}(h:pv P st (.extract x i)=some (p,v))(hp:p)(hR:RelX base st a w M X N):
  ∃u,(Instr.extract (a.eval x) i).run P w=.ok u w/\R M w (X) N v u:=by
 have hx:=CU hR x;simp only[pv]at h;split at h
 ·rename_i vs he;simp only[gQ,Prod.mk.injEq]at h;obtain⟨rfl,rfl⟩:=h;rw[he]at hx;cases hv:a.eval x with
  | tuple arr =>
   rw[hv]at hx;cases hx with
   | tup _ _ _ hl hh =>
    have hlt:i<arr.size:=by omega
    have hu:vs[i]? =some (vs.getD i .poi):=by rw[gP,gR hp];rfl
    have:=hh i _ hu;refine⟨arr[i],by simp[Instr.extract,hlt],?_⟩;simpa[Array.getD,hlt]using this
  | _=>rw[hv]at hx;cases hx
 simp at h
theorem CS[Glo]{x:Option Operand}{r:Option Int}(h:Bn st x=some r)(hR:RelX base st a w M X N):(r=none/\x.map a.eval=none)\/∃k i,r=some i/\x.map a.eval=some (.int k i):=by
 unfold Bn at h;split at h
 ·simp at h;exact .inl ⟨h.symm,rfl⟩
 rename_i x;split at h
 ·rename_i k i he;simp at h;have hx:=CU hR x;rw[he]at hx;exact .inr ⟨k,i,h.symm,by simp[DK hx]⟩
 simp at h
theorem QH[Glo]{t:TypeId}{vx:V}{ux:Value}{X':Nat->Prop}{n:Nat}{lo hi mx:Option Operand}(h:slcV P t vx (Bn st lo) (Bn st hi) (Bn st mx)=some (p,v))(hp:p)(hR:RelX base st a w M X N)
  (hx:R M w X' n vx ux) :
  ∃u,(Instr.sliceAt t ux (lo.map a.eval) (hi.map a.eval) (mx.map a.eval)).run P w=.ok u w/\R M w X' n v u:=by
 simp only[slcV]at h;split at h
 ·rename_i s l hh hlo hhi hmx;cases hs:Dv P t with
  | false=>simp[hs]at h
  | true =>
   simp only[hs,cond_true,gQ,Prod.mk.injEq]at h;obtain⟨rfl,rfl⟩:=h;have hu:P.underlying t=some .string:=by
    unfold Dv at hs;split at hs
    ·assumption
    simp at hs
   rw[Ea hx];obtain⟨p0,p1,p2⟩:=hp;refine⟨.string ⟨((s.take (hh.getD s.length).toNat).drop (l.getD 0).toNat).toArray⟩,?_,.str _ _⟩;have e:∀i j:Nat,ByteArray.extract ⟨s.toArray⟩ i j=⟨((s.take j).drop i).toArray⟩:=fun i j=>by
    apply ByteArray.ext;simp[List.extract_eq_take_drop,List.drop_take]
   have sb:∀(k:IntKind)(i:Int)(y:Nat)(code:BoundsCode),0<=i->i<=y->(Instr.sliceBound (.int k i) y code).run P w=.ok i.toNat w:=fun k i y code h1 h2=>by
    simp[Instr.sliceBound,asIntOf,h1,h2]
   have hsz:(ByteArray.mk s.toArray).size=s.length:=by simp[ByteArray.size]
   have key:∀(o1 o2:Option Value)(l h:Nat),(Instr.sliceBounds false s.length s.length o1 o2 none).run P w=.ok (l,h,s.length) w->(Instr.sliceAt t (.string ⟨s.toArray⟩) o1 o2 none).run P w=.ok (.string ⟨((s.take h).drop l).toArray⟩) w:=fun o1 o2 l h hb=>by
    simp only[Instr.sliceAt,Instr.slice,Sem.run_bind,run_underlying hu,Result.andThen_ok,hsz];simp[hb,e]
   rcases CS hmx hR with⟨_,e3⟩|⟨k3,i3,h3,_⟩
   ·rw[e3];rcases CS hlo hR with⟨rfl,e1⟩|⟨k1,i1,rfl,e1⟩<;>rcases CS hhi hR with⟨rfl,e2⟩|⟨k2,i2,rfl,e2⟩<;>rw[e1,e2]<;>simp only[Option.getD_none,Option.getD_some]at p0 p1 p2 ⊢<;>refine key _ _ _ _ ?_
    ·simp[Instr.sliceBounds]
    ·have:=sb k2 i2 s.length .sliceAlen (by omega) (by omega);simp[Instr.sliceBounds,this]
    ·have:=sb k1 i1 s.length .sliceB (by omega) (by omega);simp[Instr.sliceBounds,this]
    have h2:=sb k2 i2 s.length .sliceAlen (by omega) (by omega);have h1:=sb k1 i1 i2.toNat .sliceB (by omega) (by omega);simp[Instr.sliceBounds,h1,h2]
   simp at h3
 ·rename_i sz tt xs l hh m hlo hhi hmx;split at h
  ·rename_i e s b hs;simp only[gQ,Prod.mk.injEq]at h;obtain⟨rfl,rfl⟩:=h;obtain⟨hsz,p0,p1,p2,p3⟩:=hp;obtain⟨inf,zz,hund,hinf,_,_,hisz,_,hpos⟩:=Bd hs;obtain⟨A,c,f,hu,hlc,hm,ht,hnil,hl,hA,hr⟩:=SH hx;have sb:∀(k:IntKind)(i:Int)(y:Nat)(code:BoundsCode),0<=i->i<=y->(Instr.sliceBound (.int k i) y code).run P w=.ok i.toNat w:=fun k i y code h1 h2=>by
    simp[Instr.sliceBound,asIntOf,h1,h2]
   rw[hu];generalize hhl:hh.getD xs.length=H at *;generalize hll:l.getD 0=L at *
   have hbd:∃m':Nat,H<=m'/\m'<=c/\((m.isSome||(tt&&hh.isNone))=true->(m':Int)=H) /\
     (Instr.sliceBounds true xs.length c (lo.map a.eval) (hi.map a.eval) (mx.map a.eval)).run P w=.ok (L.toNat,H.toNat,m') w:=by
    rcases CS hmx hR with⟨rfl,e3⟩|⟨k3,i3,rfl,e3⟩
    ·refine⟨c,by omega,g8 _,?_,?_⟩
     ·intro h;simp only[Option.isSome_none,Bool.false_or,gX]at h;have:=ht h.1;cases hh with
      | none=>simp at hhl;omega
      | some=>simp at h
     rw[e3];rcases CS hlo hR with⟨rfl,e1⟩|⟨k1,i1,rfl,e1⟩<;>rcases CS hhi hR with⟨rfl,e2⟩|⟨k2,i2,rfl,e2⟩<;>rw[e1,e2]<;>simp only[Option.getD_none,Option.getD_some]at hhl hll<;>subst hhl<;>subst hll
     ·simp[Instr.sliceBounds]
     ·have:=sb k2 i2 c .sliceAcap (by omega) (by omega);simp[Instr.sliceBounds,this]
     ·have:=sb k1 i1 xs.length .sliceB (by omega) (by omega);simp[Instr.sliceBounds,this]
     have h2:=sb k2 i2 c .sliceAcap (by omega) (by omega);have h1:=sb k1 i1 i2.toNat .sliceB (by omega) (by omega);simp[Instr.sliceBounds,h1,h2]
    obtain⟨q1,q2⟩:=p3 i3 rfl;subst q1;refine⟨i3.toNat,by omega,by omega,fun _=>by omega,?_⟩;rw[e3];rcases CS hhi hR with⟨rfl,e2⟩|⟨k2,i2,rfl,e2⟩
    ·simp at q2
    simp only[Option.getD_some]at hhl;subst hhl;have h3:=sb k3 i2 c .slice3Acap (by omega) (by omega);have h2:=sb k2 i2 i2.toNat .slice3B (by omega) (by omega);rcases CS hlo hR with⟨rfl,e1⟩|⟨k1,i1,rfl,e1⟩<;>rw[e1,e2]<;>simp only[Option.getD_none,Option.getD_some]at hll<;>subst hll
    ·simp[Instr.sliceBounds,h2,h3]
    have h1:=sb k1 i1 i2.toNat .slice3C (by omega) (by omega);simp[Instr.sliceBounds,h1,h2,h3]
   obtain⟨m',hHm,hmc,htight,hrun⟩:=hbd;refine⟨.slice (if m'=L.toNat then A else A.map (·.add (L.toNat*s))) (H.toNat-L.toNat) (m'-L.toNat),?_,?_⟩
   ·simp only[Instr.sliceAt,Instr.slice,Sem.run_bind,run_underlying hund,Result.andThen_ok,hrun,run_sizeOf hinf,hisz,Sem.run_pure]
   have hlen:((xs.take H.toNat).drop L.toNat).length=H.toNat-L.toNat:=by simp;omega
   refine .sl _ _ _ _ _ _ _ (fun j=>f (L.toNat*s+j)) hlen.symm (by omega) (by omega) (fun h=>by have:=htight h;omega) (fun h=>by obtain⟨q1,q2⟩:=hnil h;subst q1;exact⟨by split<;>rfl,by omega⟩) (fun x hx=>hl x (i5 (List.mem_of_mem_drop hx))) (fun h0=>?_) (fun j u hu=>?_)
   ·obtain⟨ad,rfl,hX,hc⟩:=hA (by omega);have hss:s=sz:=by
     rcases hsz with h|h
     ·exact h
     subst h;simp at p2;omega
    subst hss;rw[nG];refine⟨ad.add (L.toNat*s),rfl,by rw[block_add];exact hX,fun j hj=>?_⟩;rw[add_add];refine hc _ ?_;have h1:H.toNat*s<=xs.length*s:=iW _ (by omega);rw[Nat.sub_mul]at hj;omega
   have hss:s=sz:=by
    rcases hsz with h|h
    ·exact h
    subst h;simp at hu
   subst hss;refine hr (L.toNat*s+j) u ?_;have hjs:j<(H.toNat-L.toNat)*s:=by
    have:=(List.getElem?_eq_some_iff.1 hu).1;rwa[Bu _ (fun x hx=>hl x (i5 (List.mem_of_mem_drop hx))),hlen]at this
   have hq:j=(j/s)*s+j%s:=by rw[Nat.mul_comm];exact(Nat.div_add_mod j s).symm
   have hqlt:j/s<H.toNat-L.toNat:=(Nat.div_lt_iff_lt_mul hpos).2 hjs;have hr':=Nat.mod_lt j hpos;rw[hq,flat_get _ _ _ (fun x hx=>hl x (i5 (List.mem_of_mem_drop hx))) hr']at hu;rw[show L.toNat*s+j=(L.toNat+j/s)*s+j%s by rw[Nat.add_mul];omega,flat_get _ _ _ hl hr',<- hu];congr 1;simp only[gP];rw[iP,iL,nH]
  simp at h
 simp at h
theorem pv_len[Glo]{x:Operand}{t ty:TypeId}(h:bv P st .len [x] [t]=some (p,v))(hR:RelX base st a w M X N):
  ∃u,(Builtin.len_ #[t] ty #[a.eval x]).run P w=.ok u w/\R M w (X) N v u:=by
 have hx:=CU hR x;simp only[bv]at h;split at h
 ·rename_i s he;cases hs:Dv P t with
  | false=>simp[hs]at h
  | true =>
   simp only[hs,cond_true,gQ,Prod.mk.injEq]at h;obtain⟨rfl,rfl⟩:=h;have hu:P.underlying t=some .string:=by
    unfold Dv at hs;split at hs
    ·assumption
    simp at hs
   rw[he]at hx;rw[Ea hx];have hsz:(ByteArray.mk s.toArray).size=s.length:=by simp[ByteArray.size]
   exact⟨.int .i64 s.length,by simp[Builtin.len_,run_underlying hu,goInt,hsz],.int _ _ _⟩
 ·rename_i sz tt xs he;split at h
  ·rename_i q hs;obtain⟨e,s,b⟩:=q;simp only[gQ,Prod.mk.injEq]at h;obtain⟨rfl,rfl⟩:=h;obtain⟨_,_,hu,_⟩:=Bd hs;rw[he]at hx;obtain⟨A,c,f,hv,_⟩:=SH hx;rw[hv];exact⟨.int .i64 xs.length,by simp[Builtin.len_,run_underlying hu,goInt],.int _ _ _⟩
  simp at h
 ·rename_i id he;split at h
  ·rename_i q o hs ho;obtain⟨e,s,b⟩:=q;simp only[gQ,Prod.mk.injEq]at h;obtain⟨rfl,rfl⟩:=h;obtain⟨_,_,hu,_⟩:=Bd hs;rw[he]at hx;obtain⟨vals,hrow,_⟩:=(hR.obs id o ho).2.row;obtain⟨_,hv⟩:=Ik hx;rcases hrow.sl (EJ hx)with⟨hnil,h2⟩|⟨g,O,cap,cur,hval,_⟩
   ·rw[<- hv,hnil,h2];exact⟨.int .i64 0,by simp[Builtin.len_,run_underlying hu,goInt],.int _ _ _⟩
   rw[<- hv,hval];exact⟨.int .i64 o.xs.length,by simp[Builtin.len_,run_underlying hu,goInt],.int _ _ _⟩
  simp at h
 ·rename_i id sz lo k he;split at h
  ·rename_i q hs;obtain⟨e,s,b⟩:=q;simp only[gQ,Prod.mk.injEq]at h;obtain⟨rfl,rfl⟩:=h;obtain⟨_,_,hu,_⟩:=Bd hs;rw[he]at hx;generalize a.eval x=ux at hx ⊢;cases hx with
   | part _ _ _ _ _ g N cap hid hv hl=>exact⟨.int .i64 k,by simp[Builtin.len_,run_underlying hu,goInt],.int _ _ _⟩
  simp at h
 simp at h
theorem Bl(b:Builtin)(args:Array Operand)(tys:Array TypeId)(o:Oper)(ho:o.op=.call {callee:=.builtin b,args:=args,argTypes:=tys}):
  ∃cs,(execOp a.eval o).run P w=(invoke (.builtin b tys o.type cs) (args.map a.eval)).run P w:=by
 unfold execOp;simp only[ho,resolve,Sem.run_bind,Sem.run_pure,Result.andThen_ok];exact⟨_,rfl⟩
theorem I9[Glo]{o:Oper}(h:pv P st o.op=some (p,v))(hp:p)(hR:RelX base st a w M X N)(hcv:∀s d x,o.op=.convert s d x->(P.underlying s).isSome=true):
  ∃u,(execOp a.eval o).run P w=.ok (.value u) w/\R M w (X) N v u:=by
 have wrap:∀{s:Sem Value},(∃u,s.run P w=.ok u w/\R M w (X) N v u)->∃u,(s >>= fun x=>pure (Next.value x):Sem Next).run P w=.ok (.value u) w/\R M w (X) N v u:=by
  rintro s ⟨u,h1,h2⟩;exact⟨u,by simp only[Sem.run_bind,h1,Result.andThen_ok,Sem.run_pure],h2⟩
 obtain⟨dst,op,ty,pos,aft,gd⟩:=o;cases op with
 | move x=>simp only[pv,gQ,Prod.mk.injEq]at h;obtain⟨rfl,rfl⟩:=h;exact⟨_,by simp[execOp],CU hR x⟩
 | assign x=>simp only[pv,gQ,Prod.mk.injEq]at h;obtain⟨rfl,rfl⟩:=h;exact⟨_,by simp[execOp],CU hR x⟩
 | pick c x y =>
  simp only[pv]at h;obtain⟨b,hb,hr⟩:=pick_R h hp (CU hR c) (CU hR x) (CU hR y);exact⟨_,by simp[execOp,hb,asBool],hr⟩
 | load t x=>exact wrap (UV h hp hR)
 | fieldAddr t x f=>exact wrap (NJ h hR)
 | field t x f=>exact wrap (X6 h hp hR)
 | indexAddr t x i=>exact wrap (NK h hp hR)
 | index t x i=>exact wrap (X7 h hp hR)
 | binOp op t x y yt =>
  simp only[pv]at h;obtain⟨u,h1,h2⟩:=aC (P:=P) h hp (CU hR x) (CU hR y);have hg:(eqGuard op t x y (a.eval x) (a.eval y)).run P w=.ok () w:=by
   have e1:=CU hR x;have e2:=CU hR y;revert h e1 e2;generalize ev st x=vx;generalize ev st y=vy;intro h e1 e2;unfold binV at h;split at h
   ·rw[DK e1,DK e2];unfold eqGuard;split<;>simp
   ·rw[Ea e1,Ea e2];unfold eqGuard;split<;>simp
   ·rw[Et e1,Et e2];unfold eqGuard;split<;>simp
   ·split at h
    ·rename_i ts hts;unfold eqE at hts;split at hts
     ·cases hgt:P.eqGuardType P.depth t with
      | true=>simp[hgt]at hts
      | false =>
       obtain⟨A,hA⟩:=R_agg e1;obtain⟨B,hB⟩:=R_agg e2;rw[hA,hB];unfold eqGuard;split<;>simp[hgt]
     simp at hts
    simp at h
   simp at h
  refine⟨u,?_,h2⟩;simp only[execOp,Sem.run_bind,hg,Result.andThen_ok,h1,Sem.run_pure]
 | unOp op t x=>exact wrap (un_run h (CU hR x))
 | convert s d x=>exact wrap (Rf h hp (hcv s d x rfl) hR)
 | extract x i=>exact wrap (Rh h hp hR)
 | slice t x lo hi mx=>simp only[pv]at h;exact wrap (QH h hp hR (CU hR x))
 | nilCheck x =>
  have hx:=CU hR x;simp only[pv]at h;split at h
  ·rename_i id sz i off he;simp only[gQ,Prod.mk.injEq]at h;obtain⟨rfl,rfl⟩:=h;rw[he]at hx;obtain⟨g,hid,hg,hu⟩:=Qo hx;exact⟨a.eval x,by simp[execOp,hu],hx⟩
  ·rename_i cs he;simp only[gQ,Prod.mk.injEq]at h;obtain⟨rfl,rfl⟩:=h;rw[he]at hx;obtain⟨ad,f,hu,_⟩:=PN hx;exact⟨a.eval x,by simp[execOp,hu],hx⟩
  simp at h
 | call c =>
  obtain⟨callee,args,tys⟩:=c;simp only[pv]at h;cases callee with
  | value f=>simp at h
  | invoke r m=>simp at h
  | builtin b =>
   simp only at h;obtain⟨cs,hcs⟩:=Bl (P:=P) (w:=w) (a:=a) b args tys ⟨dst,_,ty,pos,aft,gd⟩ rfl;rw[hcs];unfold bv at h;split at h
   ·rename_i x t hargs htys;have e1:args=#[x]:=by cases args;simp at hargs;simp[hargs]
    have e2:tys=#[t]:=by cases tys;simp at htys;simp[htys]
    subst e1 e2;obtain⟨u,h1,h2⟩:=pv_len (P:=P) (ty:=ty) h hR;exact⟨u,by simp[invoke,builtin,h1],h2⟩
   ·rename_i x y hargs;have e1:args=#[x,y]:=by cases args;simp at hargs;simp[hargs]
    subst e1;have hx:=CU hR x;have hy:=CU hR y;split at h
    ·rename_i k i k' j he1 he2;simp only[gQ,Prod.mk.injEq]at h;obtain⟨rfl,rfl⟩:=h;rw[he1]at hx;rw[he2]at hy;have hx:=DK hx;have hy:=DK hy;exact⟨_,by simp[invoke,builtin,hx,hy,Builtin.min_,Builtin.min2],.int _ _ _⟩
    simp at h
   ·rename_i x y hargs;have e1:args=#[x,y]:=by cases args;simp at hargs;simp[hargs]
    subst e1;have hx:=CU hR x;have hy:=CU hR y;split at h
    ·rename_i k i k' j he1 he2;simp only[gQ,Prod.mk.injEq]at h;obtain⟨rfl,rfl⟩:=h;rw[he1]at hx;rw[he2]at hy;have hx:=DK hx;have hy:=DK hy;exact⟨_,by simp[invoke,builtin,hx,hy,Builtin.max_,Builtin.max2],.int _ _ _⟩
    simp at h
   ·rename_i x t hargs htys;have e1:args=#[x]:=by cases args;simp at hargs;simp[hargs]
    have e2:tys=#[t]:=by cases tys;simp at htys;simp[htys]
    subst e1 e2;have hx:=CU hR x;split at h
    ·rename_i sz xs r he1 hs;simp only[gQ,Prod.mk.injEq]at h;obtain⟨rfl,rfl⟩:=h;rw[he1]at hx;obtain⟨A0,c0,f,hse,hlc,hm,ht,hnil,hl,hA0,hr0⟩:=SH hx;obtain⟨i,z,hu,_⟩:=Bd hs;have hc:=ht rfl;subst hc;exact⟨_,by simp[invoke,builtin,Builtin.cap_,hse,run_underlying hu,goInt],.int _ _ _⟩
    simp at h
   simp at h
 | _=>simp[pv]at h
end
end Go.Ab
end
