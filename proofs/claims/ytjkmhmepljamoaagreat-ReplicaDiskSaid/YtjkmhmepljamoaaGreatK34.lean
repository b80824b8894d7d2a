/- A part of the proof of ReplicaDisk. -/
import Derived.Test.YtjkmhmepljamoaaGreatK06
set_option linter.all false
set_option maxHeartbeats 16000000
set_option maxRecDepth 100000
section
namespace Go.Proofs.YtjkmhmepljamoaaGreat
open Go.Ab Go.RowKit Tryz
abbrev cwO(s:Str)(c:V)(k:Int):Ob:=⟨300,3,true,false,[[.str s,c,.int .i64 k]]⟩
theorem J7{nx:Nat}{ob:List (Nat×Option Ob)}(wid:Nat)(s:Str)(c:V)(k:Int)(i:Nat)(hi:i+4<=s.length)(hs:s.length<=100000)(hob:lookO ob wid=some (cwO s c k)):
  Bt prog 256 [.ptr wid 3 0 0,.int .i64 i] nx ob fun r nx' ob'=>r=.tup [.str (Ev s i),.bool true]/\nx'=nx/\ob'=ob:=by
 have w1:IntKind.i64.wrap ((i:Int)+4)=(i:Int)+4:=AA;have c0:¬(i:Int)<0:=by omega
 have c1:¬(s.length:Int)<(i:Int)+4:=by omega
 have c2:(i:Int)+4<=(s.length:Int):=by omega
 have c3:((i:Int)+4).toNat=i+4:=by omega
 have hE:(s.take (i+4)).drop i=Ev s i:=by rw[Ev,List.drop_take];congr 1;omega
 refine sIY func256 ntmps256 @hob ?_;refine au1 (kX2 @hob @w1) ?_;refine EP (kX3 @w1 @c1 @c0) (kX4 @hob @w1 @c2 @c3) ?_;refine ar ?_;simp[hE]
theorem Hd{nx:Nat}{ob:List (Nat×Option Ob)}(wid:Nat)(s:Str)(c:V)(k:Int)(i:Int)(hi:i<0\/(s.length:Int)<i+4)(h1:-1000<=i)(h2:i<=200000)(hs:s.length<=100000)(hob:lookO ob wid=some (cwO s c k)):
  Bt prog 256 [.ptr wid 3 0 0,.int .i64 i] nx ob fun r nx' ob'=>r=.tup [.str [],.bool false]/\nx'=nx/\ob'=ob:=by
 have w1:IntKind.i64.wrap (i+4)=i+4:=AA;by_cases c0:i<0
 ·refine sIY func256 ntmps256 @hob ?_;refine au1 (kX3 @hob @w1 @c0) ?_;refine ED @c0 ?_;refine ar ?_;simp
 have c1:(s.length:Int)<i+4:=by omega
 refine sIY func256 ntmps256 @hob ?_;refine au1 (kX4 @hob @w1 @c0 @c1) ?_;refine ED (kX3 @w1 @c1 @c0) ?_;refine ar ?_;simp
theorem JR(s:Str)(x:List V)(r:List (List V)):II s (x::r)=if Ew x=some s then some 0 else(II s r).map (·+1):=rfl
theorem Co(s:Str)(x:List V)(r:List (List V)):mget s (x::r)=if Ew x=some s then some x.tail else mget s r:=by
 unfold mget;rw[JR];by_cases hk:Ew x=some s
 ·simp[hk]
 simp only[hk,if_false];cases hm:II s r<;>simp
theorem My(s:Str)(cs:List V)(x:List V)(r:List (List V)):JW s cs (x::r)=if Ew x=some s then(.str s::cs)::r else x::JW s cs r:=by
 unfold JW;rw[JR];by_cases hk:Ew x=some s
 ·simp[hk]
 simp only[hk,if_false];cases hm:II s r<;>simp
theorem Mx(s:Str)(x:List V)(r:List (List V)):Po s (x::r)=if Ew x=some s then r else x::Po s r:=by
 unfold Po;rw[JR];by_cases hk:Ew x=some s
 ·simp[hk]
 simp only[hk,if_false];cases hm:II s r<;>simp
theorem I3(s k:Str)(cs:List V):∀rows:List (List V),mget k (JW s cs rows)=if k=s then some cs else mget k rows
 | []=>by
  show mget k [.str s::cs]=_;rw[Co];by_cases h:k=s
  ·subst h;simp[Ew]
  have:¬s=k:=fun e=>h e.symm;simp[Ew,h,this]
 | x::r=>by
  rw[My];by_cases hk:Ew x=some s
  ·rw[if_pos hk,Co,Co];by_cases h:k=s
   ·subst h;simp[Ew]
   have h2:¬s=k:=fun e=>h e.symm;have h3:¬Ew x=some k:=by rw[hk];simpa using h2
   rw[if_neg (by simpa[Ew]using h2),if_neg h,if_neg h3]
  rw[if_neg hk,Co,Co,I3 s k cs r];by_cases h:k=s
  ·subst h;rw[if_neg hk,if_pos rfl,if_pos rfl]
  rw[if_neg h,if_neg h]
def mnd(rows:List (List V)):Prop:=(rows.map Ew).Nodup
theorem Hr{k:Str}:∀{rows:List (List V)},some k∉rows.map Ew->mget k rows=none
 | [],_=>rfl
 | x::r,h=>by
  simp only[iI,List.mem_cons,not_or]at h;rw[Co,if_neg (fun e=>h.1 e.symm),Hr h.2]
theorem I2(s k:Str):∀rows:List (List V),mnd rows->mget k (Po s rows)=if k=s then none else mget k rows
 | [],_=>by show mget k []=_;split<;>rfl
 | x::r,h=>by
  have h':=List.nodup_cons.1 (show(Ew x::r.map Ew).Nodup from h);rw[Mx];by_cases hk:Ew x=some s
  ·rw[if_pos hk];by_cases e:k=s
   ·subst e;rw[if_pos rfl];exact Hr (by rw[<- hk];exact h'.1)
   rw[if_neg e,Co,if_neg (by rw[hk];simpa using fun e'=>e e'.symm)]
  rw[if_neg hk,Co,Co,I2 s k r h'.2];by_cases e:k=s
  ·subst e;rw[if_neg hk,if_pos rfl,if_pos rfl]
  rw[if_neg e,if_neg e]
theorem LN(s:Str)(cs:List V):∀rows:List (List V),(JW s cs rows).map Ew=if some s∈rows.map Ew then rows.map Ew else rows.map Ew++[some s]
 | []=>by simp[JW,II,Ew]
 | x::r=>by
  rw[My];by_cases hk:Ew x=some s
  ·have hs:Ew (.str s::cs)=some s:=rfl;rw[if_pos hk,iI,iI,hs,hk,if_pos (g7 ..)]
  have hk':¬some s=Ew x:=fun e=>hk e.symm;rw[if_neg hk,iI,LN s cs r];by_cases h:some s∈r.map Ew
  ·rw[if_pos h,if_pos (by rw[iI];exact gW _ h)];rfl
  rw[if_neg h,if_neg (by rw[iI,List.mem_cons];rintro(e|e);exact hk' e;exact h e)];rfl
theorem cL{s:Str}{cs:List V}{rows:List (List V)}(h:mnd rows):mnd (JW s cs rows):=by
 unfold mnd;rw[LN];split
 ·exact h
 rename_i hn;exact List.nodup_append.2 ⟨h,by simp,fun a ha b hb e=>by rw[List.mem_singleton]at hb;subst hb;subst e;exact hn ha⟩
theorem OA(s:Str):∀rows:List (List V),(Po s rows).Sublist rows
 | []=>by show([]:List (List V)).Sublist [];exact List.Sublist.slnil
 | x::r=>by
  rw[Mx];split
  ·exact List.sublist_cons_self _ _
  exact(OA s r).cons_cons _
theorem cK{s:Str}{rows:List (List V)}(h:mnd rows):mnd (Po s rows):=h.sublist ((OA s rows).map Ew)
theorem UA{s:Str}{rows:List (List V)}(h:mkeys rows):mkeys (Po s rows):=fun x hx=>h x ((OA s rows).subset hx)
theorem UB{s:Str}{cs:List V}{rows:List (List V)}(h:mkeys rows):mkeys (JW s cs rows):=fun x hx=>by
 have:Ew x∈(JW s cs rows).map Ew:=List.mem_map.2 ⟨x,hx,rfl⟩;rw[LN]at this;have hr:∀o∈rows.map Ew,o.isSome=true:=fun o ho=>by
  obtain⟨y,hy,rfl⟩:=List.mem_map.1 ho;exact h y hy
 split at this
 ·exact hr _ this
 rcases List.mem_append.1 this with q|q
 ·exact hr _ q
 rw[List.mem_singleton.1 q];rfl
abbrev OW(l:List Nat):List (List V):=l.map fun(p:Nat)=>[V.int .i64 (p:Int)]
abbrev ilO(l:List Nat):Ob:=⟨3,1,false,false,OW l⟩
abbrev cmO(rows:List (List V)):Ob:=⟨298,2,true,false,rows⟩
structure WRows(s:Str)(f:Str->List Nat)(o:List (Nat×Option Ob))(nx:Nat)(wid mid:Nat)(rows:List (List V))(L:List Nat):Prop where
 keys:mkeys rows
 nd:mnd rows
 get:∀k cs,mget k rows=some cs->∃id,cs=[.own id]/\id∈L/\lookO o id=some (ilO (f k))/\f k≠[]
 none:∀k,mget k rows=none->f k=[]
 dist:∀k k' id,mget k rows=some [.own id]->mget k' rows=some [.own id]->k=k'
 ids:∀id∈L,id<nx/\id≠wid/\id≠mid
def Win(s:Str)(n:Nat)(o:List (Nat×Option Ob))(nx wid mid:Nat)(L:List Nat):Prop :=
 lookO o wid=some (cwO s (.omap mid) n)/\∃rows,lookO o mid=some (cmO rows)/\WRows s (CP s n) o nx wid mid rows L
theorem WRows.congr{s:Str}{f f':Str->List Nat}{o o':List (Nat×Option Ob)}{nx nx' wid mid:Nat}{rows:List (List V)}{L:List Nat}(h:WRows s f o nx wid mid rows L)(ho:∀q∈L,lookO o' q=lookO o q)(hn:nx<=nx')(hf:∀k,f' k=f k):WRows s f' o' nx' wid mid rows L :=
 ⟨h.keys,h.nd,fun k cs hg=>by
  obtain⟨id,h1,h2,h3,h4⟩:=h.get k cs hg;exact⟨id,h1,h2,by rw[ho id h2,hf];exact h3,by rw[hf];exact h4⟩,fun k hg=>by rw[hf];exact h.none k hg,h.dist,fun id hi=>by obtain⟨a,b⟩:=h.ids id hi;exact⟨by omega,b⟩⟩
theorem WRows.put{s:Str}{f f':Str->List Nat}{o o':List (Nat×Option Ob)}{nx nx' wid mid:Nat}{rows:List (List V)}{L:List Nat}(h:WRows s f o nx wid mid rows L)(key:Str)(q:Nat)(l:List Nat)(hq:nx<=q)(hq':q<nx')(hw:wid<nx)(hm:mid<nx)(hl:l≠[])(hlo:lookO o' q=some (ilO l))
  (ho:∀k id,mget k rows=some [.own id]->k≠key->lookO o' id=lookO o id) (hf:∀k,f' k=if k=key then l else f k):WRows s f' o' nx' wid mid (JW key [.own q] rows) (q::L):=by
 refine⟨UB h.keys,cL h.nd,fun k cs hg=>?_,fun k hg=>?_,fun k k' id hg hg'=>?_,fun id hi=>?_⟩
 ·rw[I3]at hg;by_cases e:k=key
  ·rw[if_pos e]at hg;simp only[gQ]at hg;subst hg;exact⟨q,rfl,g7 ..,by rw[hlo,hf,if_pos e],by rw[hf,if_pos e];exact hl⟩
  rw[if_neg e]at hg;obtain⟨id,rfl,h2,h3,h4⟩:=h.get k cs hg;exact⟨id,rfl,gW _ h2,by rw[ho k id hg e,hf,if_neg e];exact h3,by rw[hf,if_neg e];exact h4⟩
 ·rw[I3]at hg;split at hg
  ·cases hg
  rename_i e;rw[hf,if_neg e];exact h.none k hg
 ·rw[I3]at hg hg';have old:∀k,mget k rows=some [.own q]->False:=fun k hk=>by
   obtain⟨id,h1,h2,-⟩:=h.get k _ hk;simp only[List.cons.injEq,V.own.injEq,and_true]at h1;subst h1;have:=(h.ids _ h2).1;omega
  by_cases e:k=key<;>by_cases e':k'=key
  ·rw[e,e']
  ·rw[if_pos e]at hg;rw[if_neg e']at hg';simp only[gQ,List.cons.injEq,V.own.injEq,and_true]at hg;subst hg;exact(old _ hg').elim
  ·rw[if_neg e]at hg;rw[if_pos e']at hg';simp only[gQ,List.cons.injEq,V.own.injEq,and_true]at hg';subst hg';exact(old _ hg).elim
  rw[if_neg e]at hg;rw[if_neg e']at hg';exact h.dist k k' id hg hg'
 rcases List.mem_cons.1 hi with rfl|hi
 ·exact⟨hq',by omega,by omega⟩
 obtain⟨a,b⟩:=h.ids id hi;exact⟨by omega,b⟩
theorem WRows.del{s:Str}{f f':Str->List Nat}{o o':List (Nat×Option Ob)}{nx nx' wid mid:Nat}{rows:List (List V)}{L:List Nat}(h:WRows s f o nx wid mid rows L)(key:Str)(hn:nx<=nx')(ho:∀id∈L,lookO o' id=lookO o id)(hf:∀k,f' k=if k=key then []else f k):
  WRows s f' o' nx' wid mid (Po key rows) L:=by
 refine⟨UA h.keys,cK h.nd,fun k cs hg=>?_,fun k hg=>?_,fun k k' id hg hg'=>?_,fun id hi=>by obtain⟨a,b⟩:=h.ids id hi;exact⟨by omega,b⟩⟩
 ·rw[I2 _ _ _ h.nd]at hg;split at hg
  ·cases hg
  rename_i e;obtain⟨id,rfl,h2,h3,h4⟩:=h.get k cs hg;exact⟨id,rfl,h2,by rw[ho id h2,hf,if_neg e];exact h3,by rw[hf,if_neg e];exact h4⟩
 ·rw[I2 _ _ _ h.nd]at hg;rw[hf];split
  ·rfl
  rename_i e;rw[if_neg e]at hg;exact h.none k hg
 rw[I2 _ _ _ h.nd]at hg hg';split at hg
 ·cases hg
 split at hg'
 ·cases hg'
 exact h.dist k k' id hg hg'
def FX(s:Str)(m:Nat)(k:Str):List Nat:=if m+4<=s.length/\Ev s m=k then CP s m k++[m]else CP s m k
theorem Kh(s:Str)(m:Nat)(k:Str):CP s (m+1) k=if 255<=m/\m-255+4<=s.length/\Ev s (m-255)=k then(FX s m k).tail else FX s m k:=VL s m k
theorem YP{s:Str}{m:Nat}(h1:255<=m)(h2:m-255+4<=s.length):CP s m (Ev s (m-255))≠[]:=by
 intro h;have:(m-255)∈CP s m (Ev s (m-255)):=by
  simp only[CP,List.mem_filter,List.mem_range'_1,gX,decide_eq_true_eq];exact⟨by omega,h2,trivial⟩
 rw[h]at this;cases this
theorem Q1(s:Str)(m:Nat)(k:Str):(CP s m k).length<=255:=by
 unfold CP;refine iY (List.length_filter_le _ _) ?_;rw[List.length_range'];omega
theorem JX(l:List Nat):(OW l).length=l.length:=by simp
theorem UD(l:List Nat)(m:Nat):OW l++[[V.int .i64 (m:Int)]]=OW (l++[m]):=by simp
theorem YD{nx:Nat}{ob:List (Nat×Option Ob)}(wid mid:Nat)(s:Str)(n i:Nat)(L:List Nat)(hw:Win s n ob nx wid mid L)(hni:n<=i)(hi:i<=s.length)(hs:s.length<=100000)(hwm:wid<nx/\mid<nx/\wid≠mid):
  Bt prog 185 [.ptr wid 3 0 0,.int .i64 i] nx ob fun r nx' ob'=>r=.tup []/\nx<=nx'/\∃L',Win s i ob' nx' wid mid L'/\(∀q∈L',q∈L\/nx<=q)/\∀q,q<nx->q∉L->q≠wid->q≠mid->lookO ob' q=lookO ob q:=by
 have hw1:=hw.1;refine sIY func185 ntmps185 @hw1 ?_;(repeat intro K hK);apply wr;refine Aa (i-n+1) ?_;refine BM (fun k st=>∃(m nx':Nat)(T:List (Nat×V))(o:List (Nat×Option Ob))(L':List Nat),m+k=i/\st=⟨84,T,nx',o,nx⟩/\(lkT T 0=.ptr wid 3 0 0/\lkT T 1=.int .i64 i)/\nx<=nx'/\Win s m o nx' wid mid L'/\(∀q∈L',q∈L\/nx<=q)/\∀q,q<nx->q∉L->q≠wid->q≠mid->lookO o q=lookO ob q) ?_ _ _ ⟨n,nx,_,_,L,by omega,rfl,by simp[lkT],g8 _,hw,fun q h=>.inl h,fun q _ _ _ _=>rfl⟩;rintro k st ⟨m,nx',T,o,L',hk,rfl,⟨t0,t1⟩,hnx,⟨hW,rows,hM,hR⟩,hL,hq⟩ Kl hKl;refine Bq [(0,.ptr wid 3 0 0),(1,.int .i64 i)] (by simp[t0,t1]) ?_;simp;refine au1 @hW ?_;(repeat intro K hK);apply wr;by_cases hlt:m<i
 ·have c1:(m:Int)<i:=by omega
  refine DI (kX2 @c1 @hlt) @hW ?_;(repeat intro K hK);apply wr;rename_i A hA B hB;have wm1:IntKind.i64.wrap ((m:Int)+1)=((m+1:Nat):Int):=by rw[AA];omega
  obtain⟨hw0,hm0,hwm'⟩:=hwm;have hmw:¬mid=wid:=fun e=>hwm' e.symm
  have fin:∀(T:List (Nat×V))(o2:List (Nat×Option Ob))(nx2:Nat)(L2:List Nat)(rows2:List (List V)),(lkT T 0=.ptr wid 3 0 0/\lkT T 1=.int .i64 i)->nx<=nx2->lookO o2 wid=some (cwO s (.omap mid) m)->lookO o2 mid=some (cmO rows2)->WRows s (CP s (m+1)) o2 nx2 wid mid rows2 L2 ->
    (∀q∈L2,q∈L\/nx<=q)->(∀q,q<nx->q∉L->q≠wid->q≠mid->lookO o2 q=lookO ob q)->A ⟨84,T,nx2,o2,nx⟩:=by
   intro T o2 nx2 L2 rows2 ht hn2 hW2 hM2 hR2 hL2 hq2;refine hA _ ?_;refine Bq [(0,.ptr wid 3 0 0),(1,.int .i64 i)] (by simp[ht]) ?_;refine au1 (kX2 @hW2 @wm1) ?_;(repeat intro K hK);apply wr;refine hKl (k-1) _ (by omega) ⟨m+1,nx2,_,_,L2,by omega,rfl,by simp[lkT],hn2,⟨by simp[lookO],rows2,by simp[lookO,hmw,hM2],hR2.congr (fun q hq=>by have:=(hR2.ids q hq).2.1;simp[lookO,this]) (g8 _) (fun _=>rfl)⟩,hL2,fun q a b c d=>by simp[lookO,c,hq2 q a b c d]⟩
  clear hA;have rest:∀(T:List (Nat×V))(o1:List (Nat×Option Ob))(nx1:Nat)(L1:List Nat)(rows1:List (List V)),(lkT T 0=.ptr wid 3 0 0/\lkT T 1=.int .i64 i)->nx<=nx1->lookO o1 wid=some (cwO s (.omap mid) m)->lookO o1 mid=some (cmO rows1)->WRows s (FX s m) o1 nx1 wid mid rows1 L1 ->
    (∀q∈L1,q∈L\/nx<=q)->(∀q,q<nx->q∉L->q≠wid->q≠mid->lookO o1 q=lookO ob q)->B ⟨84,T,nx1,o1,nx⟩:=by
   intro T o1 nx1 L1 rows1 ht hn1 hW1 hM1 hR1 hL1 hq1;refine hB _ ?_;refine Bq [(0,.ptr wid 3 0 0),(1,.int .i64 i)] (by simp[ht]) ?_;by_cases hold:255<=m/\m-255+4<=s.length
   ·obtain⟨g1,g2⟩:=hold;have wo:IntKind.i64.wrap ((m:Int)-255)=((m-255:Nat):Int):=by rw[AA];omega
    refine au1 (kX2 @hW1 @wo) ?_;(repeat intro K hK);apply wr;refine cO ?_;refine(J7 wid s (.omap mid) m (m-255) g2 hs hW1).mono fun r nx' ob' hp=>?_;simp only[BX];obtain⟨rfl,rfl,rfl⟩:=hp;simp;have hne:FX s m (Ev s (m-255))≠[]:=by
     unfold FX;split
     ·simp
     exact YP g1 g2
    have hst:∀k,CP s (m+1) k=if Ev s (m-255)=k then(FX s m k).tail else FX s m k:=fun k=>by
     rw[Kh];by_cases e:Ev s (m-255)=k
     ·rw[if_pos ⟨g1,g2,e⟩,if_pos e]
     rw[if_neg (fun z=>e z.2.2),if_neg e]
    obtain⟨cs,hcs⟩:∃cs,mget (Ev s (m-255)) rows1=some cs:=by
     cases h:mget (Ev s (m-255)) rows1 with
     | none=>exact absurd (hR1.none _ h) hne
     | some cs=>exact⟨cs,rfl⟩
    obtain⟨id,rfl,hidL,hido,-⟩:=hR1.get _ _ hcs;obtain⟨hid1,hid2,hid3⟩:=hR1.ids id hidL;have hk1:=hR1.keys;generalize hkey:Ev s (m-255)=key at *;have hll:(OW (FX s m key)).length=(FX s m key).length:=JX _;generalize hl:FX s m key=l at *;refine au ?_;refine EG (kX6 @hW1 @hM1 @hcs @hk1 @hido @hll) ?_;(repeat intro K hK);apply wr;by_cases hl1:1<l.length
    ·have c1:(1:Int)<l.length:=by omega
     refine ED (kX2 @c1 @hl1) ?_;(repeat intro K hK);apply wr;refine AD 8 [0,1,3,7,0,0,32,127] [(7,([[],[0],[0,1],[0,1,2],[],[],[5]],[])),(1,([],[]))] ?_;refine af1 (kX8 @hW1 @hM1 @hcs @hk1 @hido @hll @c1 @hl1) ?_;(repeat intro K hK);apply wr;simp[updV,hido,hll,hl1];refine⟨fun e=>hid3 e.symm,by omega,?_⟩;refine af ?_;(repeat intro K hK);apply wr;have htl:∀l:List Nat,(OW l).tail=OW l.tail:=fun l=>by cases l<;>rfl
     have e1:¬mid=nx':=by omega
     have e2:¬wid=nx':=by omega
     have e3:¬wid=id:=fun e=>hid2 e.symm;have e4:¬nx'=mid:=by omega
     have hR2:=hR1.put (f':=CP s (m+1)) (o':=(mid,some (cmO (JW key [.own nx'] rows1)))::(nx',some (ilO l.tail))::(id,none)::ob') (nx':=nx'+1) key nx' l.tail (g8 _) (by omega) (by omega) (by omega) (by cases l with|nil=>simp at hl1|cons a l=>cases l with|nil=>simp at hl1|cons b l=>simp) (by simp[lookO,e4]) (fun k id2 hg hne=>by
      obtain⟨id3,h1,h2,-⟩:=hR1.get k _ hg;simp only[List.cons.injEq,V.own.injEq,and_true]at h1;subst h1;have q1:=hR1.ids _ h2;have q2:¬id2=id:=fun e=>hne (hR1.dist k key id (by rw[<- e];exact hg) hcs);simp[lookO,q1.2.2,q2,show ¬id2=nx' by omega]) (fun k=>by
       rw[hst];by_cases e:k=key
       ·rw[if_pos e.symm,if_pos e,e,hl]
       rw[if_neg (fun z=>e z.symm),if_neg e])
     exact fin _ _ _ (nx'::L1) (JW key [.own nx'] rows1) (by simp[lkT]) (by omega) (by simp[lookO,hwm',e2,e3,hW1]) (by simp[lookO]) (by rw[htl];exact hR2) (fun q hq=>by
      rcases List.mem_cons.1 hq with rfl|hq
      ·exact .inr hn1
      exact hL1 q hq) (fun q a b c d=>by
      have q2:¬q=id:=fun e=>by
       subst e;rcases hL1 _ hidL with z|z
       ·exact b z
       omega
      simp[lookO,d,q2,show ¬q=nx' by omega,hq1 q a b c d])
    have c1:¬(1:Int)<l.length:=by omega
    refine Cw (kX2 @c1 @hl1) (kX5 @hW1 @hM1 @hcs @hk1 @hido) ?_;(repeat intro K hK);apply wr;simp[delV,hM1,hk1];refine af ?_;(repeat intro K hK);apply wr;have hl0:l.tail=[]:=by cases l with|nil=>rfl|cons a l=>cases l with|nil=>rfl|cons b l=>simp at hl1
    have hmL:∀q∈L1,¬q=mid:=fun q hq=>(hR1.ids q hq).2.2;have hR2:=hR1.del (f':=CP s (m+1)) (o':=(mid,some (cmO (Po key rows1)))::ob') (nx':=nx') key (g8 _) (fun q hq=>by simp[lookO,hmL q hq]) (fun k=>by
     rw[hst];by_cases e:k=key
     ·rw[if_pos e.symm,if_pos e,e,hl,hl0]
     rw[if_neg (fun z=>e z.symm),if_neg e])
    exact fin _ _ _ L1 (Po key rows1) (by simp[lkT]) hn1 (by simp[lookO,hwm',hW1]) (by simp[lookO]) hR2 hL1 (fun q a b c d=>by simp[lookO,d,hq1 q a b c d])
   have hst:∀k,CP s (m+1) k=FX s m k:=fun k=>by
    rw[Kh,if_neg (fun z=>hold ⟨z.1,z.2.1⟩)]
   have wo:IntKind.i64.wrap ((m:Int)-255)=(m:Int)-255:=AA;refine af1 (kX2 @hW1 @wo) ?_;(repeat intro K hK);apply wr;refine cO ?_;refine(Hd wid s (.omap mid) m ((m:Int)-255) (by omega) (by omega) (by omega) hs hW1).mono fun r nx' ob' hp=>?_;simp only[BX];obtain⟨rfl,rfl,rfl⟩:=hp;simp;refine af ?_;refine RN ?_;(repeat intro K hK);apply wr;exact fin _ _ _ L1 rows1 (by simp[lkT]) hn1 hW1 hM1 (hR1.congr (fun _ _=>rfl) (g8 _) hst) hL1 hq1
  clear hB;have hk0:=hR.keys;by_cases hm4:m+4<=s.length
  ·refine cO ?_;refine(J7 wid s (.omap mid) m m hm4 hs hW).mono fun r nx' ob' hp=>?_;simp only[BX];obtain⟨rfl,rfl,rfl⟩:=hp;simp;refine af1 @hW ?_;refine RN ?_;(repeat intro K hK);apply wr;have hs1:∀k,FX s m k=if k=Ev s m then CP s m k++[m]else CP s m k:=fun k=>by
    unfold FX;by_cases e:k=Ev s m
    ·rw[if_pos ⟨hm4,e.symm⟩,if_pos e]
    rw[if_neg (fun z=>e z.2.symm),if_neg e]
   have hs2:∀k,FX s m k=if k=Ev s m then CP s m (Ev s m)++[m]else CP s m k:=fun k=>by
    rw[hs1];by_cases e:k=Ev s m
    ·rw[if_pos e,if_pos e,e]
    rw[if_neg e,if_neg e]
   have e1:¬mid=nx':=by omega
   have e2:¬mid=nx'+1:=by omega
   have e3:¬wid=nx':=by omega
   have e4:¬wid=nx'+1:=by omega
   generalize hkey:Ev s m=key at *;cases hg:mget key rows with
   | none =>
    have hs0:=hR.none _ hg;refine AD 18 [0,1,3,7,0,0,32,96,224,0,992,0,2048,6144,14336,30720,65504,131071] [(17,([[],[0],[0,1],[0,1,2],[],[],[5],[5,6],[5,6,7],[],[5,6,7,8,9],[],[11],[11,12],[11,12,13],[11,12,13,14],[5,6,7,8,9,10,11,12,13,14,15]],[(3,15),(3,16),(8,15),(10,15)])),(1,([],[]))] ?_;refine af1 (kX9 @hW @hM @hg @hk0 @maxLen.eq_1 @e1 @e2 @e3 @e4) ?_;(repeat intro K hK);apply wr;simp[updV];refine af ?_;(repeat intro K hK);apply wr;have hR1:=hR.put (f':=FX s m) (o':=(mid,some (cmO (JW key [.own (nx'+1)] rows)))::(nx'+1,some (ilO [m]))::(nx',some (ilO [m]))::ob') (nx':=nx'+1+1) key (nx'+1) [m] (by omega) (by omega) (by omega) (by omega) (by simp) (by simp[lookO,show ¬nx'+1=mid by omega]) (fun k id2 hg2 hne=>by
     obtain⟨id3,h1,h2,-⟩:=hR.get k _ hg2;simp only[List.cons.injEq,V.own.injEq,and_true]at h1;subst h1;have q1:=hR.ids _ h2;simp[lookO,q1.2.2,show ¬id2=nx' by omega,show ¬id2=nx'+1 by omega]) (fun k=>by rw[hs2,hs0];rfl)
    exact rest _ _ _ ((nx'+1)::L') (JW key [.own (nx'+1)] rows) (by simp[lkT]) (by omega) (by simp[lookO,hwm',e3,e4,hW]) (by simp[lookO]) hR1 (fun q hq2=>by
     rcases List.mem_cons.1 hq2 with rfl|hq2
     ·exact .inr (by omega)
     exact hL q hq2) (fun q a b c d=>by simp[lookO,d,show ¬q=nx' by omega,show ¬q=nx'+1 by omega,hq q a b c d])
   | some cs =>
    obtain⟨id,rfl,hidL,hido,-⟩:=hR.get _ _ hg;obtain⟨hid1,hid2,hid3⟩:=hR.ids id hidL;have hll:=Q1 s m key;have hnl:=JX (CP s m key);generalize CP s m key=l at *;have g1:¬id=nx':=by omega
    have g2:¬nx'=id:=by omega
    have g3:¬mid=id:=fun e=>hid3 e.symm;have g4:¬wid=id:=fun e=>hid2 e.symm;have c4:(l.length+1)*8<=140737488355328:=by omega
    have c5:l.length<=9223372036854775806:=by omega
    refine AD 18 [0,1,3,7,0,0,32,96,224,0,992,0,2048,6144,14336,30720,65504,131071] [(17,([[],[0],[0,1],[0,1,2],[],[],[5],[5,6],[5,6,7],[],[5,6,7,8,9],[],[11],[11,12],[11,12,13],[11,12,13,14],[5,6,7,8,9,10,11,12,13,14,15]],[(3,15),(3,16),(8,15),(10,15)])),(1,([],[]))] ?_;repeat (first|(with_reducible first|refine B5 fun K hK=>?_|refine BK ?_)|((with_reducible first|refine Au (by kernel_rfl) ?_|refine Bb ?_|refine B8 ?_|refine Ba ?_|refine B9 ?_|refine ET ?_|refine EQ ?_|refine ES ?_|refine ER ?_|refine B6 ?_|refine B2 ?_);simp[hW,hM,hg,hk0,hido,hnl,maxLen,e1,e2,e3,e4,g1,g2,g3,g4,c4,c5])|((repeat ((fail_if_success ((with_reducible first|refine hK _ ?_|refine hK _ _ _ _ ?_)));clear hK));(with_reducible first|refine hK _ ?_|refine hK _ _ _ _ ?_);clear hK)|(with_reducible refine Fw fun K hK=>?_;simp[hW,hM,hg,hk0,hido,hnl,maxLen,e1,e2,e3,e4,g1,g2,g3,g4,c4,c5])|(with_reducible refine Fv ?_;try simp only[thn,blk])|(with_reducible refine Fx fun K hK=>?_;simp only[List.take_succ_cons,List.take_zero])|(with_reducible refine EN fun K hK=>?_;simp[hW,hM,hg,hk0,hido,hnl,maxLen,e1,e2,e3,e4,g1,g2,g3,g4,c4,c5])|(with_reducible refine Fe ?_)|(with_reducible refine EX ?_;simp only[List.drop_succ_cons,List.drop_zero];simp only[stS,eT,eO,iT,jA,cond_true,cond_false,Bool.and_true,Bool.and_false,Bool.true_and,Bool.false_and])|(with_reducible refine Dn ?_ ?_;(· (simp[hW,hM,hg,hk0,hido,hnl,maxLen,e1,e2,e3,e4,g1,g2,g3,g4,c4,c5]<;>first|omega|grind)))|refine And.intro (by first|omega|assumption|grind) ?_)
    simp[updV];refine af ?_;(repeat intro K hK);apply wr;have hR1:=hR.put (f':=FX s m) (o':=(mid,some (cmO (JW key [.own (nx'+1)] rows)))::(nx'+1,some (ilO (l++[m])))::(id,none)::(nx',some (ilO [m]))::ob') (nx':=nx'+1+1) key (nx'+1) (l++[m]) (by omega) (by omega) (by omega) (by omega) (by simp) (by simp[lookO,show ¬nx'+1=mid by omega]) (fun k id2 hg2 hne=>by
     obtain⟨id3,h1,h2,-⟩:=hR.get k _ hg2;simp only[List.cons.injEq,V.own.injEq,and_true]at h1;subst h1;have q1:=hR.ids _ h2;have q2:¬id2=id:=fun e=>hne (hR.dist k key id (by rw[<- e];exact hg2) hg);simp[lookO,q1.2.2,q2,show ¬id2=nx' by omega,show ¬id2=nx'+1 by omega]) hs2
    exact rest _ _ _ ((nx'+1)::L') (JW key [.own (nx'+1)] rows) (by simp[lkT]) (by omega) (by simp[lookO,hwm',e3,e4,g4,hW]) (by simp[lookO]) (by rw[UD l m];exact hR1) (fun q hq2=>by
     rcases List.mem_cons.1 hq2 with rfl|hq2
     ·exact .inr (by omega)
     exact hL q hq2) (fun q a b c d=>by
     have q2:¬q=id:=fun e=>by
      subst e;rcases hL _ hidL with z|z
      ·exact b z
      omega
     simp[lookO,d,q2,show ¬q=nx' by omega,show ¬q=nx'+1 by omega,hq q a b c d])
  refine cO ?_;refine(Hd wid s (.omap mid) m (m:Int) (by omega) (by omega) (by omega) hs hW).mono fun r nx' ob' hp=>?_;simp only[BX];obtain⟨rfl,rfl,rfl⟩:=hp;simp;refine af ?_;refine BN ?_;(repeat intro K hK);apply wr;exact rest _ _ _ L' rows (by simp[lkT]) hnx hW hM (hR.congr (fun _ _=>rfl) (g8 _) (fun k=>by rw[FX,if_neg (fun z=>hm4 z.1)])) hL hq
 have:m=i:=by omega
 subst this;refine Ac @hlt ?_;(repeat intro K hK);apply wr;exact⟨L',⟨hW,rows,hM,hR⟩,hL,fun q a b c d=>hq q a b c d⟩
theorem Sg(s:Str)(i lim:Nat):∀(l:List Nat)(b:Nat×Nat),¬b.2<lim->GQ s i lim l b=b
 | [],_,_=>rfl
 | p::r,b,h=>by unfold GQ;rw[if_neg h]
theorem P4(s:Str)(i p lim:Nat):∀(f g n:Nat),lim<=n+f->lim<=n+g->Nm s i p lim f n=Nm s i p lim g n
 | 0,0,_,_,_=>rfl
 | 0,g+1,n,h,_=>by unfold Nm;rw[if_neg (fun z=>by omega)]
 | f+1,0,n,_,h=>by unfold Nm;rw[if_neg (fun z=>by omega)]
 | f+1,g+1,n,h1,h2=>by
  unfold Nm;split
  ·exact P4 s i p lim f g (n+1) (by omega) (by omega)
  rfl
def Wg(s:Str)(i p lim n:Nat):Nat:=Nm s i p lim (lim-n) n
theorem bT{s:Str}{i p lim n:Nat}(h:n<lim)(he:s[i+n]? =s[p+n]?):Wg s i p lim n=Wg s i p lim (n+1):=by
 unfold Wg;obtain⟨f,hf⟩:∃f,lim-n=f+1:=⟨lim-n-1,by omega⟩;rw[hf,Nm,if_pos ⟨h,he⟩,show lim-(n+1)=f by omega]
theorem TS{s:Str}{i p lim n:Nat}(h:¬(n<lim/\s[i+n]? =s[p+n]?)):Wg s i p lim n=n:=by
 unfold Wg;cases hf:lim-n with
 | zero=>rfl
 | succ f=>rw[Nm,if_neg h]
theorem ZD(s:Str)(i p lim:Nat):Nm s i p lim lim 4=Wg s i p lim 4:=P4 _ _ _ _ _ _ _ (by omega) (by omega)
theorem YZ(l:List Nat)(c p:Nat)(h:l[c]? =some p):(l.take (c+1)).reverse=p::(l.take c).reverse:=by
 rw[List.take_add_one,h];simp
theorem Uq{nx:Nat}{ob:List (Nat×Option Ob)}(wid mid:Nat)(s:Str)(i:Nat)(L:List Nat)(hw:Win s i ob nx wid mid L)(hi:i<s.length)(hs:s.length<=100000):
  Bt prog 186 [.ptr wid 3 0 0,.int .i64 i] nx ob fun r nx' ob'=>r=.tup [.int .i64 (Cy s i).1,.int .i64 (Cy s i).2]/\nx'=nx/\ob'=ob:=by
 obtain⟨hW,rows,hM,hR⟩:=hw;have hk0:=hR.keys;by_cases hm4:i+4<=s.length
 ·have hmt:Cy s i=GQ s i (Lx s i) (CP s i (Ev s i)).reverse (0,0):=by unfold Cy;rw[if_pos hm4]
  rw[hmt];have hlim:4<=Lx s i/\Lx s i<=67/\Lx s i<=s.length-i:=by unfold Lx;omega
  have hl1:(if(s.length:Int)-i<67 then(s.length:Int)-i else 67)=(Lx s i:Nat):=by unfold Lx;split<;>omega
  have w0:IntKind.i64.wrap ((s.length:Int)-i)=(s.length:Int)-i:=AA;generalize Lx s i=lim at *;refine sIY func186 ntmps186 (kX2 @hW @hM) ?_;(repeat intro K hK);apply wr;refine cO ?_;refine(J7 wid s (.omap mid) i i hm4 hs hW).mono fun r nx' ob' hp=>?_;simp only[BX];obtain⟨rfl,rfl,rfl⟩:=hp;simp;refine au ?_;(repeat intro K hK);apply wr;refine cF0 rfl ?_;generalize hkey:Ev s i=key at *;cases hg:mget key rows with
  | none =>
   have h0:=hR.none _ hg;have wn:IntKind.i64.wrap (-1)=-1:=by decide
   refine au1 (kX7 @hW @hM @hg @hk0 @w0 @hl1 @wn) ?_;(repeat intro K hK);apply wr;refine Aa 1 ?_;refine BD fun K hK=>?_;refine au1 @wn ?_;refine BU @wn ?_;refine ar ?_;simp[h0,GQ]
  | some cs =>
   obtain⟨id,rfl,hidL,hido,-⟩:=hR.get _ _ hg;have hll:=Q1 s i key;have hnl:=JX (CP s i key);have hmem:∀p,p∈CP s i key->p<i:=fun p hp=>(Q2 hp).1;generalize CP s i key=l at *;have w1:IntKind.i64.wrap ((l.length:Int)-1)=(l.length:Int)-1:=AA;refine au1 (kX9 @hW @hM @hg @hk0 @hido @hnl @w0 @w1 @hl1) ?_;(repeat intro K hK);apply wr;refine Aa (l.length+1) ?_;refine BM (fun c st=>∃(T:List (Nat×V))(d n:Nat),c<=l.length/\st=⟨87,T,nx',ob',nx'⟩/\(lkT T 0=.ptr wid 3 0 0/\lkT T 1=.int .i64 i/\lkT T 8=.int .i64 lim/\lkT T 9=.int .i64 d/\lkT T 10=.int .i64 n/\lkT T 11=.own id/\lkT T 12=.int .i64 ((c:Int)-1))/\GQ s i lim (l.take c).reverse (d,n)=GQ s i lim l.reverse (0,0)/\n<=67) ?_ _ _ ⟨_,0,0,g8 _,rfl,by simp[lkT],by rw[List.take_length],by omega⟩;rintro c st ⟨T,d,n,hc,rfl,⟨t0,t1,t8,t9,t10,t11,t12⟩,hE,hn67⟩ Kl hKl;refine Bq [(0,.ptr wid 3 0 0),(1,.int .i64 i),(8,.int .i64 lim),(9,.int .i64 d),(10,.int .i64 n),(11,.own id),(12,.int .i64 ((c:Int)-1))] (by simp[t0,t1,t8,t9,t10,t11,t12]) ?_;by_cases hgo:0<c/\n<lim
   ·obtain⟨hc0,hnl2⟩:=hgo;have c1:(0:Int)<=(c:Int)-1:=by omega
    have c2:(n:Int)<lim:=by omega
    have c3:¬(c:Int)<1:=by omega
    have c4:(1:Int)<=c:=by omega
    refine au1 (kX4 @c1 @c2 @c3 @c4) ?_;(repeat intro K hK);apply wr;refine cT1 (kX5 @c1 @c2 @c3 @c4 @hnl2) rfl ?_;obtain⟨p,hp⟩:∃p,l[c-1]? =some p:=⟨_,gR (by omega)⟩;have hpi:=hmem p (g9 hp);have htr:=YZ l (c-1) p hp;rw[show c-1+1=c by omega]at htr;have wt:((c:Int)-1).toNat=c-1:=by omega
    have wk:IntKind.i64.wrap ((c:Int)-1-1)=((c-1:Nat):Int)-1:=by rw[AA];omega
    have wd:IntKind.i64.wrap ((i:Int)-p)=((i-p:Nat):Int):=by rw[AA];omega
    have cl:(c:Int)-1<l.length:=by omega
    refine au ?_;(repeat intro K hK);apply wr;have rest:∀(T2:List (Nat×V))(m:Nat),(lkT T2 0=.ptr wid 3 0 0/\lkT T2 1=.int .i64 i/\lkT T2 8=.int .i64 lim/\lkT T2 9=.int .i64 d/\lkT T2 10=.int .i64 n/\lkT T2 11=.own id/\lkT T2 12=.int .i64 ((c:Int)-1)/\lkT T2 13=.int .i64 m)->m=Wg s i p lim 4->m<=67->K ⟨87,T2,nx',ob',nx'⟩:=by
     intro T2 m ⟨u0,u1,u8,u9,u10,u11,u12,u13⟩ hm hm67;refine hK _ ?_;refine Bq [(0,.ptr wid 3 0 0),(1,.int .i64 i),(8,.int .i64 lim),(9,.int .i64 d),(10,.int .i64 n),(11,.own id),(12,.int .i64 ((c:Int)-1)),(13,.int .i64 m)] (by simp[u0,u1,u8,u9,u10,u11,u12,u13]) ?_;refine au ?_;(repeat intro K hK);apply wr;by_cases hmn:n<m
     ·refine DI @hmn (kX7 @hido @hp @wt @cl @c1 @wd @wk) ?_;(repeat intro K hK);apply wr;refine hKl (c-1) _ (by omega) ⟨_,i-p,m,by omega,rfl,by simp[lkT],?_,hm67⟩;rw[<- hE,htr,GQ,if_pos hnl2,ZD,<- hm,if_pos hmn]
     refine EP @hmn @wk ?_;(repeat intro K hK);apply wr;refine hKl (c-1) _ (by omega) ⟨_,d,n,by omega,rfl,by simp[lkT],?_,hn67⟩;rw[<- hE,htr,GQ,if_pos hnl2,ZD,<- hm,if_neg hmn]
    clear hK;refine Aa (lim-4+1) ?_;refine BM (fun q st=>∃(T2:List (Nat×V))(m:Nat),m+q=lim/\st=⟨87,T2,nx',ob',nx'⟩/\(lkT T2 0=.ptr wid 3 0 0/\lkT T2 1=.int .i64 i/\lkT T2 8=.int .i64 lim/\lkT T2 9=.int .i64 d/\lkT T2 10=.int .i64 n/\lkT T2 11=.own id/\lkT T2 12=.int .i64 ((c:Int)-1)/\lkT T2 13=.int .i64 m)/\Wg s i p lim m=Wg s i p lim 4) ?_ _ _ ⟨_,4,by omega,rfl,by simp[lkT],rfl⟩;rintro q st ⟨T2,m,hq,rfl,⟨u0,u1,u8,u9,u10,u11,u12,u13⟩,hEx⟩ Ki hKi;refine Bq [(0,.ptr wid 3 0 0),(1,.int .i64 i),(8,.int .i64 lim),(9,.int .i64 d),(10,.int .i64 n),(11,.own id),(12,.int .i64 ((c:Int)-1)),(13,.int .i64 m)] (by simp[u0,u1,u8,u9,u10,u11,u12,u13]) ?_;refine au ?_;(repeat intro K hK);apply wr;by_cases hml:m<lim
    ·obtain⟨x,hx⟩:∃x,s[i+m]? =some x:=⟨_,gR (by omega)⟩;obtain⟨y,hy⟩:∃y,s[p+m]? =some y:=⟨_,gR (by omega)⟩;have m1:(m:Int)<lim:=by omega
     have m2:IntKind.i64.wrap ((i:Int)+m)=((i+m:Nat):Int):=by rw[AA];omega
     have m3:IntKind.i64.wrap ((p:Int)+m)=((p+m:Nat):Int):=by rw[AA];omega
     have m4:(i:Int)+m<s.length:=by omega
     have m5:(p:Int)+m<s.length:=by omega
     have m6:IntKind.i64.wrap ((m:Int)+1)=((m+1:Nat):Int):=by rw[AA];omega
     have m7:((i:Int)+m).toNat=i+m:=by omega
     have m8:((p:Int)+m).toNat=p+m:=by omega
     refine AD 25 [0,0,3,7,15,31,63,127,15,15,783,2047,15,4111,12303,28687,15,15,196623,458767,15,2031631,4190223,8388607,16777215] [(2,([[],[]],[])),(1,([],[])),(1,([],[])),(19,([[],[0],[0,1],[0,1,2],[],[],[4,5],[0,1,2,3,4,5,6],[],[8],[8,9],[8,9,10],[],[],[12,13],[12,13,14],[],[12,13,14,15,16],[8,9,10,11,12,13,14,15,16,17]],[])),(1,([],[])),(1,([],[]))] ?_;refine af1 (kX16 @hW @hido @hml @m1 @m2 @m3 @m4 @m5 @hx @hy @hp @wt @cl @c1 @m7 @m8) ?_;(repeat intro K hK);apply wr;by_cases hxy:x=y
     ·refine Cg @hxy @m6 ?_;(repeat intro K hK);apply wr;refine hKi (q-1) _ (by omega) ⟨_,m+1,by omega,rfl,by simp[lkT],?_⟩;rw[<- hEx,bT hml (by rw[hx,hy,hxy])]
     have hne:¬(x.toNat:Int)=y.toNat:=fun e=>hxy (UInt8.toNat_inj.1 (by omega));have hne2:((x.toNat:Int)==(y.toNat:Int))=false:=by simpa using hne
     have hne3:¬x.toNat=y.toNat:=by omega
     refine Ac (kX4 @hne @hne2 @hne3 @hxy) ?_;(repeat intro K hK);apply wr;exact rest _ m (by simp[lkT]) (by rw[<- hEx,TS (fun z=>hxy (by have:=z.2;rw[hx,hy]at this;simpa using this))]) (by omega)
    have m1:¬(m:Int)<lim:=by omega
    refine AD 25 [0,0,3,7,15,31,63,127,15,15,783,2047,15,4111,12303,28687,15,15,196623,458767,15,2031631,4190223,8388607,16777215] [(2,([[],[]],[])),(1,([],[])),(1,([],[])),(19,([[],[0],[0,1],[0,1,2],[],[],[4,5],[0,1,2,3,4,5,6],[],[8],[8,9],[8,9,10],[],[],[12,13],[12,13,14],[],[12,13,14,15,16],[8,9,10,11,12,13,14,15,16,17]],[])),(1,([],[])),(1,([],[]))] ?_;refine af1 (kX8 @hW @hido @hml @m1 @hp @wt @cl @c1) ?_;refine Ac (kX2 @hml @m1) ?_;(repeat intro K hK);apply wr;exact rest _ m (by simp[lkT]) (by rw[<- hEx,TS (fun z=>hml z.1)]) (by omega)
   have hres:GQ s i lim (l.take c).reverse (d,n)=(d,n):=by
    by_cases h0:c=0
    ·subst h0;rfl
    exact Sg _ _ _ _ _ (fun z=>hgo ⟨by omega,z⟩)
   rw[hE]at hres;have c1:¬((0:Int)<=(c:Int)-1/\(n:Int)<lim):=by omega
   refine af ?_;(repeat intro K hK);apply wr;refine AB rfl (fun hh=>?_) (fun hh=>?_)
   ·exfalso;simp at hh;omega
   refine af ?_;refine ar ?_;simp[hres]
 have hmt:Cy s i=(0,0):=by unfold Cy;rw[if_neg hm4]
 rw[hmt];refine sIY func186 ntmps186 (kX2 @hW @hM) ?_;(repeat intro K hK);apply wr;refine cO ?_;refine(Hd wid s (.omap mid) i (i:Int) (by omega) (by omega) (by omega) hs hW).mono fun r nx' ob' hp=>?_;simp only[BX];obtain⟨rfl,rfl,rfl⟩:=hp;simp;refine af ?_;refine RN ?_;refine ar ?_;simp
theorem XU{s:Str}(c i st:Nat)(out:Str)(h:¬i<s.length):IK s c i st out=out++IG (s.drop st):=by
 cases c with
 | zero=>rfl
 | succ c=>unfold IK;rw[if_neg h]
theorem PR(s:Str):(AM s).map Ec=s:=by
 induction s with
 | nil=>rfl
 | cons b s ih =>
  have:AM (b::s)=[V.int .u8 (b.toNat:Int)]::AM s:=rfl;rw[this,iI,ih];congr 1;simp[Ec]
theorem Yo(s:Str):∀y∈AM s,Ch y:=fun y hy=>by
 obtain⟨b,-,rfl⟩:=List.mem_map.1 hy;exact⟨b,rfl⟩
theorem aI(s:Str)(hs:s.length<=100000):AC prog 128 [.str s] (.str (GV s)):=by
 refine sX func128 ntmps128 ?_;intros;apply wr;refine AT 4 5 1 (by decide) rfl ?_;simp;refine Aa (s.length+1) ?_;refine BM (fun c stt=>∃(T:List (Nat×V))(i st wn:Nat)(out:Str)(id nx:Nat)(o:List (Nat×Option Ob))(L:List Nat),stt=⟨54,T,nx,o,0⟩/\(lkT T 0=.str s/\lkT T 3=.ptr 1 3 0 0/\lkT T 6=.int .i64 i/\lkT T 5=.int .i64 st/\lkT T 4=.own id)/\(i<=s.length/\st<=i/\s.length<=i+c/\wn<=i)/\IK s c i st out=GV s/\Win s wn o nx 1 0 L/\(lookO o id=some (byO out)/\id∉L/\2<=id/\id<nx)/\out.length<=2*st) ?_ _ _ ⟨_,0,0,0,[],2,3,_,[],rfl,by simp[lkT],by omega,rfl,⟨by simp[lookO],[],by simp[lookO],⟨by simp[mkeys],by simp[mnd],by simp[mget,II],by simp[CP],by simp[mget,II],by simp⟩⟩,by simp[lookO,AM],by simp⟩;rintro c stt ⟨T,i,st,wn,out,id,nx,o,L,rfl,⟨t0,t3,t6,t5,t4⟩,⟨b1,b2,b3,b4⟩,hE,hW,⟨hid,hidL,hid2,hidn⟩,hol⟩ Kl hKl;refine Bq [(0,.str s),(3,.ptr 1 3 0 0),(6,.int .i64 i),(5,.int .i64 st),(4,.own id)] (by simp[t0,t3,t6,t5,t4]) ?_;by_cases hlt:i<s.length
 ·have c1:(i:Int)<s.length:=by omega
  obtain⟨f,rfl⟩:∃f,c=f+1:=⟨c-1,by omega⟩;refine au ?_;refine ED (kX2 @hlt @c1) ?_;intros;apply wr;refine cO ?_;refine(YD 1 0 s wn i L hW b4 b1 hs ⟨by omega,by omega,by decide⟩).mono fun r nx' ob' hp=>?_;simp only[BX];obtain⟨rfl,hn1,L1,hW1,hL1,hq1⟩:=hp;have hid1:lookO ob' id=some (byO out):=by rw[hq1 id hidn hidL (by omega) (by omega)];exact hid
  have hidL1:id∉L1:=fun z=>by
   rcases hL1 id z with z|z
   ·exact hidL z
   omega
  clear hq1 hW hid hidL;simp;refine au ?_;intros;apply wr;refine cO ?_;refine(Uq 1 0 s i L1 hW1 hlt hs).mono fun r nx' ob' hp=>?_;simp only[BX];obtain⟨rfl,rfl,rfl⟩:=hp;have hmo:=LX s i;rw[IK,if_pos hlt]at hE;generalize Cy s i=dl at *;obtain⟨d,l⟩:=dl;simp only at hmo hE;simp;refine au ?_;intros;apply wr;by_cases hl0:l=0
  ·subst hl0;have w1:IntKind.i64.wrap ((i:Int)+1)=((i+1:Nat):Int):=by rw[AA];omega
   rw[if_pos rfl]at hE;refine IZ @w1 ?_;intros;apply wr;exact hKl f _ rfl ⟨_,i+1,st,i,out,id,_,_,L1,rfl,by simp[lkT],by omega,hE,hW1,⟨hid1,hidL1,hid2,by omega⟩,hol⟩
  rw[if_neg hl0]at hE;rcases hmo with hmo|hmo
  ·exact absurd hmo hl0
  obtain⟨l4,l67,il,d1,d255,di,-⟩:=hmo;have hli:(IG ((s.take i).drop st)).length<=2*(i-st):=by
   refine iY (LQ _ _) ?_;rw[iE,iD];omega
  refine BU @hl0 ?_;intros;apply wr;refine cO ?_;refine(QS id out ((s.take i).drop st) hid1 (by omega) (by omega) (by rw[iE,iD];omega)).mono fun r nx' ob' hp=>?_;simp only[BX];obtain⟨id',rfl,ho',hn2,hid'n,hid'o,hq2⟩:=hp;simp;have hsid:id'∉L1:=fun z=>by
   rcases hid'o with rfl|h
   ·exact hidL1 z
   obtain⟨-,rows,-,hR⟩:=hW1;have:=(hR.ids id' z).1;omega
  obtain⟨hWw,rows,hWm,hR⟩:=hW1;have hW2:lookO ob' 1=some (cwO s (.omap 0) i):=by rw[hq2 1 (by omega) (by omega)];exact hWw
  have hM2:lookO ob' 0=some (cmO rows):=by rw[hq2 0 (by omega) (by omega)];exact hWm
  have hR2:WRows s (CP s i) ob' nx' 1 0 rows L1:=hR.congr (fun q hq=>hq2 q (hR.ids q hq).1 (fun e=>hidL1 (e▸hq))) hn2 (fun _=>rfl);clear hWw hWm hR hq2;obtain⟨x,hx'⟩:∃x,x=UInt8.ofNat (124+l):=⟨_,rfl⟩;obtain⟨y,hy'⟩:∃y,y=UInt8.ofNat d:=⟨_,rfl⟩;have hx:x.toNat=124+l:=by rw[hx'];exact HF (by omega)
  have hy:y.toNat=d:=by rw[hy'];exact HF (by omega)
  have w1:IntKind.i64.wrap (124+(l:Int))=124+(l:Int):=AA;have w2:IntKind.u8.wrap (124+(l:Int))=(x.toNat:Int):=by rw[hx,IntKind.wrap_u8];omega
  have w3:IntKind.u8.wrap (d:Int)=(y.toNat:Int):=by rw[hy,IntKind.wrap_u8];omega
  have w4:IntKind.i64.wrap ((i:Int)+l)=((i+l:Nat):Int):=by rw[AA];omega
  have d1:¬id'=nx':=by omega
  have d2:¬nx'=id':=by omega
  have hP:(AM (out++IG ((s.take i).drop st))).length<=400000:=by rw[Kv,gV];omega
  have hP2:(AM (out++IG ((s.take i).drop st))).length<=9223372036854775805:=by omega
  have hP3:(AM (out++IG ((s.take i).drop st))).length<=140737488355326:=by omega
  have hap:AM (out++IG ((s.take i).drop st))++[[V.int .u8 (x.toNat:Int)],[V.int .u8 (y.toNat:Int)]]=AM (out++IG ((s.take i).drop st)++[x,y]):=by simp[AM]
  rw[<- hx',<- hy']at hE;have hlE:(out++IG ((s.take i).drop st)++[x,y]).length<=2*(i+l):=by
   simp only[gV,iO,List.length_nil];omega
  obtain⟨out2,ho2⟩:∃out2,out2=out++IG ((s.take i).drop st)++[x,y]:=⟨_,rfl⟩;rw[<- ho2]at hE hlE hap;refine au1 (SL @ho' @maxLen.eq_1 @w1 @w2 @w3 @w4 @d1 @d2 @hP2 @hP3 @hap) ?_;intros;apply wr;refine hKl f _ rfl ⟨_,i+l,i+l,i,out2,nx'+1,_,_,L1,rfl,by simp[lkT],by omega,hE,⟨by simp[lookO,show ¬nx'=0 by omega,show ¬1=nx' by omega,show ¬1=nx'+1 by omega,show ¬1=id' by omega,hW2],rows,by simp[lookO,show ¬nx'=0 by omega,show ¬id'=0 by omega,show ¬0=nx' by omega,show ¬0=id' by omega,hM2],hR2.congr (fun q hq=>?_) (by omega) (fun _=>rfl)⟩,⟨by simp[lookO],fun z=>?_,by omega,by omega⟩,hlE⟩
  ·have a:=(hR2.ids q hq).1;simp[lookO,show ¬q=nx' by omega,show ¬q=nx'+1 by omega,show ¬q=id' from fun e=>hsid (e▸hq)]
  have a:=(hR2.ids _ z).1;omega
 rw[XU _ _ _ _ hlt]at hE;refine au ?_;refine BU @hlt ?_;intros;apply wr;refine cO ?_;refine(QS id out (s.drop st) hid hidn (by omega) (by rw[iE];omega)).mono fun r nx' ob' hp=>?_;simp only[BX];obtain⟨id',rfl,ho',-⟩:=hp;rw[hE]at ho';have hbk:=PR (GV s);have hbi:=Yo (GV s);simp[ho',hbk];refine⟨hbi,?_⟩;refine au ?_;refine ar ?_;simp
theorem HJ:∀(f:Nat)(t o x:Str),HG f t o=some x->o.length<=x.length
 | 0,_,_,_,h=>by simp[HG]at h
 | f+1,[],o,x,h=>by simp[HG]at h;subst h;exact g8 _
 | f+1,c::t,o,x,h=>by
  rw[HH]at h;split at h
  ·split at h
   ·cases h
   have:=HJ f _ _ _ h;rw[gV]at this;omega
  split at h
  ·cases t with
   | nil=>simp at h
   | cons d t' =>
    simp only at h;split at h
    ·cases h
    have:=HJ f _ _ _ h;rw[LA]at this;omega
  cases h
theorem Sk{s:Str}{i:Nat}{b:UInt8}(h:s[i]? =some b):(AM s)[i]? =some [.int .u8 (b.toNat:Int)]:=by simp[AM,h]
theorem unp_ok(t x:Str)(most:Int)(f:Nat)(hu:HG f t []=some x)(ht:t.length<=400000)(hx:(x.length:Int)<=most)(hm:most<=1000000):AC prog 191 [.str t,iv most] (.tup [.str x,iv 0]):=by
 have hx0:x.length<=1000000:=by omega
 have hmx:(if most<0 then 0 else most)=most:=by split<;>omega
 have hmx2:(if(0:Int)<most then most else 0)=most:=by split<;>omega
 refine sX func191 ntmps191 ?_;refine au1 (kX2 @hmx @hmx2) ?_;intros;apply wr;refine AT 6 5 1 (by decide) rfl ?_;refine Aa (t.length+1) ?_;refine BM (fun c stt=>∃(T:List (Nat×V))(i g:Nat)(out:Str)(id nx:Nat)(o:List (Nat×Option Ob)),stt=⟨97,T,nx,o,0⟩/\(lkT T 0=.str t/\lkT T 1=iv most/\lkT T 7=.int .i64 i/\lkT T 6=.own id)/\(i<=t.length/\t.length<=i+c)/\HG g (t.drop i) out=some x/\lookO o id=some (byO out)/\id<nx) ?_ _ _ ⟨_,0,f,[],0,1,_,rfl,by simp[lkT];omega,by omega,hu,by simp[lookO,AM],by omega⟩;rintro c stt ⟨T,i,g,out,id,nx,o,rfl,⟨t0,t1,t7,t6⟩,⟨b1,b2⟩,hE,hid,hidn⟩ Kl hKl;refine Bq [(0,.str t),(1,iv most),(7,.int .i64 i),(6,.own id)] (by simp[t0,t1,t7,t6]) ?_;have hol:=HJ _ _ _ _ hE;have hbl:=Kv out;by_cases hlt:i<t.length
 ·have c1:(i:Int)<t.length:=by omega
  obtain⟨e,rfl⟩:∃e,c=e+1:=⟨c-1,by omega⟩;obtain⟨g',rfl⟩:∃g',g=g'+1:=by
   cases g with
   | zero=>simp[HG]at hE
   | succ g'=>exact⟨g',rfl⟩
  obtain⟨b,hb,hd⟩:=Ff hlt;rw[hd,HH]at hE;have hb8:=b.toNat_lt;have w1:IntKind.i64.wrap ((i:Int)+1)=(i:Int)+1:=AA;have w2:IntKind.i64.wrap (b.toNat:Int)=b.toNat:=AA;refine au ?_;refine DI (kX2 @hlt @c1) (kX4 @hb @c1 @w1 @w2) ?_;intros;apply wr;have hdl:(t.drop (i+1)).length=t.length-(i+1):=iE;by_cases hl:b.toNat<128
  ·have c2:(b.toNat:Int)<128:=by omega
   rw[if_pos hl]at hE;split at hE
   ·cases hE
   rename_i hsh;have hl2:=HJ _ _ _ _ hE;rw[gV,iD,hdl,gY (by omega)]at hl2;have w3:IntKind.i64.wrap ((b.toNat:Int)+1)=(b.toNat:Int)+1:=AA;have w4:IntKind.i64.wrap ((t.length:Int)-((i:Int)+1))=(t.length:Int)-((i:Int)+1):=AA;have c3:¬(t.length:Int)-((i:Int)+1)<(b.toNat:Int)+1:=by omega
   have w5:IntKind.i64.wrap ((out.length:Int)+((b.toNat:Int)+1))=(out.length:Int)+((b.toNat:Int)+1):=AA;have c4:¬most<(out.length:Int)+((b.toNat:Int)+1):=by omega
   have w6:IntKind.i64.wrap ((i:Int)+1+((b.toNat:Int)+1))=(i:Int)+1+((b.toNat:Int)+1):=AA;have c5:((i:Int)+1+((b.toNat:Int)+1)).toNat=i+1+(b.toNat+1):=by omega
   have c6:((i:Int)+1).toNat=i+1:=by omega
   have c7:(0:Int)<=(i:Int)+1:=by omega
   have c8:(i:Int)+1<=(i:Int)+1+((b.toNat:Int)+1):=by omega
   have c9:(i:Int)+1+((b.toNat:Int)+1)<=t.length:=by omega
   have hsl:(t.take (i+1+(b.toNat+1))).drop (i+1)=(t.drop (i+1)).take (b.toNat+1):=by rw[List.drop_take];congr 1;omega
   have hmn:min (i+1+(b.toNat+1)) t.length-(i+1)=b.toNat+1:=by omega
   have hml:out.length+(b.toNat+1)<=maxLen:=by simp[maxLen];omega
   refine DI (kX2 @hl @c2) (kX2 @w3 @w4) ?_;refine EP @c3 (kX3 @hid @hbl @w5) ?_;refine EP @c4 (SL @hid @hbl @w6 @c5 @c6 @c7 @c8 @c9 @hml @hmn @hsl) ?_;intros;apply wr;refine hKl e _ rfl ⟨_,i+1+(b.toNat+1),g',out++(t.drop (i+1)).take (b.toNat+1),nx,nx+1,_,rfl,by simp[lkT],⟨by omega,by omega⟩,?_,by simp[lookO,Nu],by omega⟩;rw[<- hE,List.drop_drop]
  have c2:¬(b.toNat:Int)<128:=by omega
  rw[if_neg hl]at hE;split at hE
  case isFalse=>cases hE
  rename_i hl2;have c3:(b.toNat:Int)<=191:=by omega
  obtain⟨hi1,d,hd'⟩:i+1<t.length/\∃d,t[i+1]? =some d:=by
   by_cases hi:i+1<t.length
   ·exact⟨hi,_,gR hi⟩
   rw[List.drop_eq_nil_of_le (by omega)]at hE;simp at hE
  obtain⟨d',hd2,hd3⟩:=Ff hi1;obtain rfl:d=d':=by rw[hd']at hd2;exact Option.some.inj hd2
  rw[hd3]at hE;simp only at hE;split at hE
  ·cases hE
  rename_i hdd;have hl2:=HJ _ _ _ _ hE;rw[LA]at hl2;have hd8:=d.toNat_lt;have hbd:=Sk hd';have c4:((i:Int)+1==(t.length:Int))=false:=by simp;omega
  have c5:¬(i:Int)+1=t.length:=by omega
  have c6:((i:Int)+1).toNat=i+1:=by omega
  have c7:(0:Int)<=(i:Int)+1:=by omega
  have c8:(i:Int)+1<t.length:=by omega
  obtain⟨n,hn⟩:∃n,n=b.toNat-124:=⟨_,rfl⟩;rw[<- hn]at hE hl2;have w3:IntKind.i64.wrap ((b.toNat:Int)-124)=(n:Int):=by rw[AA];omega
  have w4:IntKind.i64.wrap ((i:Int)+1+1)=(i:Int)+1+1:=AA;have w5:IntKind.i64.wrap (d.toNat:Int)=d.toNat:=AA;have c9:((d.toNat:Int)==0)=false:=by simp;omega
  have c10:¬(out.length:Int)<d.toNat:=by omega
  have c11:¬(d.toNat:Int)=0:=by omega
  have w6:IntKind.i64.wrap ((out.length:Int)+(n:Int))=(out.length:Int)+(n:Int):=AA;have c12:¬most<(out.length:Int)+(n:Int):=by omega
  refine BU (kX2 @hl @c2) ?_;refine ED (kX2 @c3 @hl2) ?_;refine BU (kX2 @c4 @c5) ?_;intros;apply wr;refine AD 8 [0,1,0,0,12,28,3,127] [(7,([[],[0],[],[],[2,3],[2,3,4],[0,1]],[])),(1,([],[]))] ?_;refine af1 (RQ @hd' @hbd @c6 @c7 @c8 @w3 @w4 @w5 @hid @hbl) ?_;refine af1 (RQ @hd' @hbd @c6 @c7 @c8 @w3 @w4 @w5 @hid @hbl) ?_;have c13:¬out.length<d.toNat:=by omega
  refine Cw (kX4 @c9 @c10 @c11 @c13) (kX3 @hid @hbl @w6) ?_;refine Ac @c12 ?_;intros;apply wr;refine Aa (n+1) ?_;refine BM (fun q st=>∃(T2:List (Nat×V))(k:Nat)(O:Str)(id2 nx2:Nat)(o2:List (Nat×Option Ob)),k+q=n/\st=⟨97,T2,nx2,o2,0⟩/\(lkT T2 0=.str t/\lkT T2 1=iv most/\lkT T2 7=.int .i64 ((i:Int)+1+1)/\lkT T2 6=.own id2/\lkT T2 11=.int .i64 d.toNat/\lkT T2 81=.int .i64 n/\lkT T2 82=.int .i64 k)/\O.length=out.length+k/\Ix q d.toNat O=Ix n d.toNat out/\lookO o2 id2=some (byO O)/\id2<nx2) ?_ _ _ ⟨_,0,out,id,nx,_,by omega,rfl,by simp[lkT],by omega,rfl,hid,hidn⟩;rintro q st ⟨T2,k,O,id2,nx2,o2,hkq,rfl,⟨u0,u1,u7,u6,u11,u81,u82⟩,hO,hC,hid2,hn2⟩ Ki hKi;refine Bq [(0,.str t),(1,iv most),(7,.int .i64 ((i:Int)+1+1)),(6,.own id2),(11,.int .i64 d.toNat),(81,.int .i64 n),(82,.int .i64 k)] (by simp[u0,u1,u7,u6,u11,u81,u82]) ?_;have hbl2:=Kv O;refine af ?_;intros;apply wr;by_cases hkn:k<n
  ·have k1:(k:Int)<n:=by omega
   obtain⟨q',rfl⟩:∃q',q=q'+1:=⟨q-1,by omega⟩;obtain⟨y,hy⟩:∃y,O[O.length-d.toNat]? =some y:=⟨_,gR (by omega)⟩;have hby:=Sk hy;have v1:IntKind.i64.wrap ((O.length:Int)-d.toNat)=(O.length:Int)-d.toNat:=AA;have v2:(0:Int)<=(O.length:Int)-d.toNat:=by omega
   have v3:(O.length:Int)-d.toNat<O.length:=by omega
   have v4:((O.length:Int)-d.toNat).toNat=O.length-d.toNat:=by omega
   have v5:IntKind.i64.wrap ((k:Int)+1)=(k:Int)+1:=AA;have d1:¬nx2=id2:=by omega
   have d2:¬id2=nx2:=by omega
   refine Cg (kX2 @k1 @hkn) (kX14 @hid2 @hbl2 @maxLen.eq_1 @v1 @v2 @v3 @v4 @v5 @hy @hby @d1 @d2 @Sl @Nu) ?_;intros;apply wr;refine hKi q' _ rfl ⟨_,k+1,O++[y],nx2+1,nx2+1+1,_,by omega,rfl,by simp[lkT],by simp;omega,?_,by simp[lookO],by omega⟩;rw[<- hC,Ix,gP,hy];rfl
  have k1:¬(k:Int)<n:=by omega
  obtain rfl:q=0:=by omega
  rw[Ix]at hC;refine Ac (kX2 @k1 @hkn) ?_;intros;apply wr;refine hKl e _ rfl ⟨_,i+2,g',O,id2,nx2,_,rfl,by simp[lkT];omega,⟨by omega,by omega⟩,?_,hid2,hn2⟩;rw[hC];exact hE
 have he:t.drop i=[]:=List.drop_eq_nil_of_le (by omega);have hox:out=x:=by
  cases g with
  | zero=>simp[HG]at hE
  | succ g=>rw[he]at hE;simpa[HG]using hE
 subst hox;have hbk:=PR out;have hbi:=Yo out;refine af ?_;refine Cw @hlt (kX2 @hid @hbk) ?_;refine ar ?_;simp
end Go.Proofs.YtjkmhmepljamoaaGreat
end
