/- A part of the proof of ReplicaTakes. -/
import Derived.Test.YtjkmhmepljamoaaGreatT07
set_option linter.all false
set_option maxHeartbeats 16000000
set_option maxRecDepth 100000
section
namespace Go.Proofs.YtjkmhmepljamoaaGreat
open Go.Ab Go.RowKit Tryz
abbrev cwO(s:Str)(c:V)(k:Int):Ob:=⟨300,3,true,false,[[.str s,c,.int .i64 k]]⟩
theorem JM{nx:Nat}{ob:List (Nat×Option Ob)}(wid:Nat)(s:Str)(c:V)(k:Int)(i:Nat)(hi:i+4<=s.length)(hs:s.length<=100000)(hob:lookO ob wid=some (cwO s c k)):
  Bt prog 256 [.ptr wid 3 0 0,.int .i64 i] nx ob fun r nx' ob'=>r=.tup [.str (Es s i),.bool true]/\nx'=nx/\ob'=ob:=by
 have w1:IntKind.i64.wrap ((i:Int)+4)=(i:Int)+4:=AA (by omega) (by omega);have c0:¬(i:Int)<0:=by omega
 have c1:¬(s.length:Int)<(i:Int)+4:=by omega
 have c2:(i:Int)+4<=(s.length:Int):=by omega
 have c3:((i:Int)+4).toNat=i+4:=by omega
 have hE:(s.take (i+4)).drop i=Es s i:=by rw[Es,List.drop_take];congr 1;omega
 refine sIY func256 ntmps256 @hob ?_;refine au1 (kX2 @hob @w1) ?_;refine EL (kX3 @w1 @c1 @c0) (kX4 @hob @w1 @c2 @c3) ?_;refine ar ?_;simp[hE]
theorem HU{nx:Nat}{ob:List (Nat×Option Ob)}(wid:Nat)(s:Str)(c:V)(k:Int)(i:Int)(hi:i<0\/(s.length:Int)<i+4)(h1:-1000<=i)(h2:i<=200000)(hs:s.length<=100000)(hob:lookO ob wid=some (cwO s c k)):
  Bt prog 256 [.ptr wid 3 0 0,.int .i64 i] nx ob fun r nx' ob'=>r=.tup [.str [],.bool false]/\nx'=nx/\ob'=ob:=by
 have w1:IntKind.i64.wrap (i+4)=i+4:=AA (by omega) (by omega);by_cases c0:i<0
 ·refine sIY func256 ntmps256 @hob ?_;refine au1 (kX3 @hob @w1 @c0) ?_;refine EM @c0 ?_;refine ar ?_;simp
 have c1:(s.length:Int)<i+4:=by omega
 refine sIY func256 ntmps256 @hob ?_;refine au1 (kX4 @hob @w1 @c0 @c1) ?_;refine EM (kX3 @w1 @c1 @c0) ?_;refine ar ?_;simp
theorem Iv(s:Str)(x:List V)(r:List (List V)):Hu s (x::r)=if Eu x=some s then some 0 else(Hu s r).map (·+1):=rfl
theorem Cn(s:Str)(x:List V)(r:List (List V)):mget s (x::r)=if Eu x=some s then some x.tail else mget s r:=by
 unfold mget;rw[Iv];by_cases hk:Eu x=some s
 ·simp[hk]
 simp only[hk,if_false];cases hm:Hu s r<;>simp
theorem Mg(s:Str)(cs:List V)(x:List V)(r:List (List V)):JA s cs (x::r)=if Eu x=some s then(.str s::cs)::r else x::JA s cs r:=by
 unfold JA;rw[Iv];by_cases hk:Eu x=some s
 ·simp[hk]
 simp only[hk,if_false];cases hm:Hu s r<;>simp
theorem Mf(s:Str)(x:List V)(r:List (List V)):P7 s (x::r)=if Eu x=some s then r else x::P7 s r:=by
 unfold P7;rw[Iv];by_cases hk:Eu x=some s
 ·simp[hk]
 simp only[hk,if_false];cases hm:Hu s r<;>simp
theorem IN(s k:Str)(cs:List V):∀rows:List (List V),mget k (JA s cs rows)=if k=s then some cs else mget k rows
 | []=>by
  show mget k [.str s::cs]=_;rw[Cn];by_cases h:k=s
  ·subst h;simp[Eu]
  have:¬s=k:=fun e=>h e.symm;simp[Eu,h,this]
 | x::r=>by
  rw[Mg];by_cases hk:Eu x=some s
  ·rw[if_pos hk,Cn,Cn];by_cases h:k=s
   ·subst h;simp[Eu]
   have h2:¬s=k:=fun e=>h e.symm;have h3:¬Eu x=some k:=by rw[hk];simpa using h2
   rw[if_neg (by simpa[Eu]using h2),if_neg h,if_neg h3]
  rw[if_neg hk,Cn,Cn,IN s k cs r];by_cases h:k=s
  ·subst h;rw[if_neg hk,if_pos rfl,if_pos rfl]
  rw[if_neg h,if_neg h]
def mnd(rows:List (List V)):Prop:=(rows.map Eu).Nodup
theorem He{k:Str}:∀{rows:List (List V)},some k∉rows.map Eu->mget k rows=none
 | [],_=>rfl
 | x::r,h=>by
  simp only[fJ,List.mem_cons,not_or]at h;rw[Cn,if_neg (fun e=>h.1 e.symm),He h.2]
theorem IM(s k:Str):∀rows:List (List V),mnd rows->mget k (P7 s rows)=if k=s then none else mget k rows
 | [],_=>by show mget k []=_;split<;>rfl
 | x::r,h=>by
  have h':=List.nodup_cons.1 (show(Eu x::r.map Eu).Nodup from h);rw[Mf];by_cases hk:Eu x=some s
  ·rw[if_pos hk];by_cases e:k=s
   ·subst e;rw[if_pos rfl];exact He (by rw[<- hk];exact h'.1)
   rw[if_neg e,Cn,if_neg (by rw[hk];simpa using fun e'=>e e'.symm)]
  rw[if_neg hk,Cn,Cn,IM s k r h'.2];by_cases e:k=s
  ·subst e;rw[if_neg hk,if_pos rfl,if_pos rfl]
  rw[if_neg e,if_neg e]
theorem Ku(s:Str)(cs:List V):∀rows:List (List V),(JA s cs rows).map Eu=if some s∈rows.map Eu then rows.map Eu else rows.map Eu++[some s]
 | []=>by simp[JA,Hu,Eu]
 | x::r=>by
  rw[Mg];by_cases hk:Eu x=some s
  ·have hs:Eu (.str s::cs)=some s:=rfl;rw[if_pos hk,fJ,fJ,hs,hk,if_pos (fB ..)]
  have hk':¬some s=Eu x:=fun e=>hk e.symm;rw[if_neg hk,fJ,Ku s cs r];by_cases h:some s∈r.map Eu
  ·rw[if_pos h,if_pos (by rw[fJ];exact eW _ h)];rfl
  rw[if_neg h,if_neg (by rw[fJ,List.mem_cons];rintro(e|e);exact hk' e;exact h e)];rfl
theorem bI{s:Str}{cs:List V}{rows:List (List V)}(h:mnd rows):mnd (JA s cs rows):=by
 unfold mnd;rw[Ku];split
 ·exact h
 rename_i hn;exact List.nodup_append.2 ⟨h,by simp,fun a ha b hb e=>by rw[List.mem_singleton]at hb;subst hb;subst e;exact hn ha⟩
theorem Ni(s:Str):∀rows:List (List V),(P7 s rows).Sublist rows
 | []=>by show([]:List (List V)).Sublist [];exact List.Sublist.slnil
 | x::r=>by
  rw[Mf];split
  ·exact List.sublist_cons_self _ _
  exact(Ni s r).cons_cons _
theorem bH{s:Str}{rows:List (List V)}(h:mnd rows):mnd (P7 s rows):=h.sublist ((Ni s rows).map Eu)
theorem Te{s:Str}{rows:List (List V)}(h:mkeys rows):mkeys (P7 s rows):=fun x hx=>h x ((Ni s rows).subset hx)
theorem Tf{s:Str}{cs:List V}{rows:List (List V)}(h:mkeys rows):mkeys (JA s cs rows):=fun x hx=>by
 have:Eu x∈(JA s cs rows).map Eu:=List.mem_map.2 ⟨x,hx,rfl⟩;rw[Ku]at this;have hr:∀o∈rows.map Eu,o.isSome=true:=fun o ho=>by
  obtain⟨y,hy,rfl⟩:=List.mem_map.1 ho;exact h y hy
 split at this
 ·exact hr _ this
 rcases List.mem_append.1 this with q|q
 ·exact hr _ q
 rw[List.mem_singleton.1 q];rfl
abbrev OG(l:List Nat):List (List V):=l.map fun(p:Nat)=>[V.int .i64 (p:Int)]
abbrev ilO(l:List Nat):Ob:=⟨3,1,false,false,OG l⟩
abbrev cmO(rows:List (List V)):Ob:=⟨298,2,true,false,rows⟩
structure WRows(s:Str)(f:Str->List Nat)(o:List (Nat×Option Ob))(nx:Nat)(wid mid:Nat)(rows:List (List V))(L:List Nat):Prop where
 keys:mkeys rows
 nd:mnd rows
 get:∀k cs,mget k rows=some cs->∃id,cs=[.own id]/\id∈L/\lookO o id=some (ilO (f k))/\f k≠[]
 none:∀k,mget k rows=none->f k=[]
 dist:∀k k' id,mget k rows=some [.own id]->mget k' rows=some [.own id]->k=k'
 ids:∀id∈L,id<nx/\id≠wid/\id≠mid
def Win(s:Str)(n:Nat)(o:List (Nat×Option Ob))(nx wid mid:Nat)(L:List Nat):Prop :=
 lookO o wid=some (cwO s (.omap mid) n)/\∃rows,lookO o mid=some (cmO rows)/\WRows s (CN s n) o nx wid mid rows L
theorem WRows.congr{s:Str}{f f':Str->List Nat}{o o':List (Nat×Option Ob)}{nx nx' wid mid:Nat}{rows:List (List V)}{L:List Nat}(h:WRows s f o nx wid mid rows L)(ho:∀q∈L,lookO o' q=lookO o q)(hn:nx<=nx')(hf:∀k,f' k=f k):WRows s f' o' nx' wid mid rows L :=
 ⟨h.keys,h.nd,fun k cs hg=>by
  obtain⟨id,h1,h2,h3,h4⟩:=h.get k cs hg;exact⟨id,h1,h2,by rw[ho id h2,hf];exact h3,by rw[hf];exact h4⟩,fun k hg=>by rw[hf];exact h.none k hg,h.dist,fun id hi=>by obtain⟨a,b⟩:=h.ids id hi;exact⟨by omega,b⟩⟩
theorem WRows.put{s:Str}{f f':Str->List Nat}{o o':List (Nat×Option Ob)}{nx nx' wid mid:Nat}{rows:List (List V)}{L:List Nat}(h:WRows s f o nx wid mid rows L)(key:Str)(q:Nat)(l:List Nat)(hq:nx<=q)(hq':q<nx')(hw:wid<nx)(hm:mid<nx)(hl:l≠[])(hlo:lookO o' q=some (ilO l))
  (ho:∀k id,mget k rows=some [.own id]->k≠key->lookO o' id=lookO o id) (hf:∀k,f' k=if k=key then l else f k):WRows s f' o' nx' wid mid (JA key [.own q] rows) (q::L):=by
 refine⟨Tf h.keys,bI h.nd,fun k cs hg=>?_,fun k hg=>?_,fun k k' id hg hg'=>?_,fun id hi=>?_⟩
 ·rw[IN]at hg;by_cases e:k=key
  ·rw[if_pos e]at hg;simp only[eQ]at hg;subst hg;exact⟨q,rfl,fB ..,by rw[hlo,hf,if_pos e],by rw[hf,if_pos e];exact hl⟩
  rw[if_neg e]at hg;obtain⟨id,rfl,h2,h3,h4⟩:=h.get k cs hg;exact⟨id,rfl,eW _ h2,by rw[ho k id hg e,hf,if_neg e];exact h3,by rw[hf,if_neg e];exact h4⟩
 ·rw[IN]at hg;split at hg
  ·cases hg
  rename_i e;rw[hf,if_neg e];exact h.none k hg
 ·rw[IN]at hg hg';have old:∀k,mget k rows=some [.own q]->False:=fun k hk=>by
   obtain⟨id,h1,h2,-⟩:=h.get k _ hk;simp only[List.cons.injEq,V.own.injEq,and_true]at h1;subst h1;have:=(h.ids _ h2).1;omega
  by_cases e:k=key<;>by_cases e':k'=key
  ·rw[e,e']
  ·rw[if_pos e]at hg;rw[if_neg e']at hg';simp only[eQ,List.cons.injEq,V.own.injEq,and_true]at hg;subst hg;exact(old _ hg').elim
  ·rw[if_neg e]at hg;rw[if_pos e']at hg';simp only[eQ,List.cons.injEq,V.own.injEq,and_true]at hg';subst hg';exact(old _ hg).elim
  rw[if_neg e]at hg;rw[if_neg e']at hg';exact h.dist k k' id hg hg'
 rcases List.mem_cons.1 hi with rfl|hi
 ·exact⟨hq',by omega,by omega⟩
 obtain⟨a,b⟩:=h.ids id hi;exact⟨by omega,b⟩
theorem WRows.del{s:Str}{f f':Str->List Nat}{o o':List (Nat×Option Ob)}{nx nx' wid mid:Nat}{rows:List (List V)}{L:List Nat}(h:WRows s f o nx wid mid rows L)(key:Str)(hn:nx<=nx')(ho:∀id∈L,lookO o' id=lookO o id)(hf:∀k,f' k=if k=key then []else f k):
  WRows s f' o' nx' wid mid (P7 key rows) L:=by
 refine⟨Te h.keys,bH h.nd,fun k cs hg=>?_,fun k hg=>?_,fun k k' id hg hg'=>?_,fun id hi=>by obtain⟨a,b⟩:=h.ids id hi;exact⟨by omega,b⟩⟩
 ·rw[IM _ _ _ h.nd]at hg;split at hg
  ·cases hg
  rename_i e;obtain⟨id,rfl,h2,h3,h4⟩:=h.get k cs hg;exact⟨id,rfl,h2,by rw[ho id h2,hf,if_neg e];exact h3,by rw[hf,if_neg e];exact h4⟩
 ·rw[IM _ _ _ h.nd]at hg;rw[hf];split
  ·rfl
  rename_i e;rw[if_neg e]at hg;exact h.none k hg
 rw[IM _ _ _ h.nd]at hg hg';split at hg
 ·cases hg
 split at hg'
 ·cases hg'
 exact h.dist k k' id hg hg'
def FR(s:Str)(m:Nat)(k:Str):List Nat:=if m+4<=s.length/\Es s m=k then CN s m k++[m]else CN s m k
theorem KZ(s:Str)(m:Nat)(k:Str):CN s (m+1) k=if 255<=m/\m-255+4<=s.length/\Es s (m-255)=k then(FR s m k).tail else FR s m k:=Up s m k
theorem Xq{s:Str}{m:Nat}(h1:255<=m)(h2:m-255+4<=s.length):CN s m (Es s (m-255))≠[]:=by
 intro h;have:(m-255)∈CN s m (Es s (m-255)):=by
  simp only[CN,List.mem_filter,List.mem_range'_1,eU,decide_eq_true_eq];exact⟨by omega,h2,trivial⟩
 rw[h]at this;cases this
theorem QI(s:Str)(m:Nat)(k:Str):(CN s m k).length<=255:=by
 unfold CN;refine f8 (List.length_filter_le _ _) ?_;rw[List.length_range'];omega
theorem JB(l:List Nat):(OG l).length=l.length:=by simp
theorem Tj(l:List Nat)(m:Nat):OG l++[[V.int .i64 (m:Int)]]=OG (l++[m]):=by simp
theorem Xe{nx:Nat}{ob:List (Nat×Option Ob)}(wid mid:Nat)(s:Str)(n i:Nat)(L:List Nat)(hw:Win s n ob nx wid mid L)(hni:n<=i)(hi:i<=s.length)(hs:s.length<=100000)(hwm:wid<nx/\mid<nx/\wid≠mid):
  Bt prog 185 [.ptr wid 3 0 0,.int .i64 i] nx ob fun r nx' ob'=>r=.tup []/\nx<=nx'/\∃L',Win s i ob' nx' wid mid L'/\(∀q∈L',q∈L\/nx<=q)/\∀q,q<nx->q∉L->q≠wid->q≠mid->lookO ob' q=lookO ob q:=by
 have hw1:=hw.1;refine sIY func185 ntmps185 @hw1 ?_;(repeat intro K hK);apply wr;refine Ad (i-n+1) ?_;refine BH (fun k st=>∃(m nx':Nat)(T:List (Nat×V))(o:List (Nat×Option Ob))(L':List Nat),m+k=i/\st=⟨84,T,nx',o,nx⟩/\(lkT T 0=.ptr wid 3 0 0/\lkT T 1=.int .i64 i)/\nx<=nx'/\Win s m o nx' wid mid L'/\(∀q∈L',q∈L\/nx<=q)/\∀q,q<nx->q∉L->q≠wid->q≠mid->lookO o q=lookO ob q) ?_ _ _ ⟨n,nx,_,_,L,by omega,rfl,by simp[lkT],fA _,hw,fun q h=>.inl h,fun q _ _ _ _=>rfl⟩;rintro k st ⟨m,nx',T,o,L',hk,rfl,⟨t0,t1⟩,hnx,⟨hW,rows,hM,hR⟩,hL,hq⟩ Kl hKl;refine Bp [(0,.ptr wid 3 0 0),(1,.int .i64 i)] (by simp[t0,t1]) ?_;simp;refine au1 @hW ?_;(repeat intro K hK);apply wr;by_cases hlt:m<i
 ·have c1:(m:Int)<i:=by omega
  refine DT (kX2 @c1 @hlt) @hW ?_;(repeat intro K hK);apply wr;rename_i A hA B hB;have wm1:IntKind.i64.wrap ((m:Int)+1)=((m+1:Nat):Int):=by rw[AA (by omega) (by omega)];omega
  obtain⟨hw0,hm0,hwm'⟩:=hwm;have hmw:¬mid=wid:=fun e=>hwm' e.symm
  have fin:∀(T:List (Nat×V))(o2:List (Nat×Option Ob))(nx2:Nat)(L2:List Nat)(rows2:List (List V)),(lkT T 0=.ptr wid 3 0 0/\lkT T 1=.int .i64 i)->nx<=nx2->lookO o2 wid=some (cwO s (.omap mid) m)->lookO o2 mid=some (cmO rows2)->WRows s (CN s (m+1)) o2 nx2 wid mid rows2 L2 ->
    (∀q∈L2,q∈L\/nx<=q)->(∀q,q<nx->q∉L->q≠wid->q≠mid->lookO o2 q=lookO ob q)->A ⟨84,T,nx2,o2,nx⟩:=by
   intro T o2 nx2 L2 rows2 ht hn2 hW2 hM2 hR2 hL2 hq2;refine hA _ ?_;refine Bp [(0,.ptr wid 3 0 0),(1,.int .i64 i)] (by simp[ht]) ?_;refine au1 (kX2 @hW2 @wm1) ?_;(repeat intro K hK);apply wr;refine hKl (k-1) _ (by omega) ⟨m+1,nx2,_,_,L2,by omega,rfl,by simp[lkT],hn2,⟨by simp[lookO],rows2,by simp[lookO,hmw,hM2],hR2.congr (fun q hq=>by have:=(hR2.ids q hq).2.1;simp[lookO,this]) (fA _) (fun _=>rfl)⟩,hL2,fun q a b c d=>by simp[lookO,c,hq2 q a b c d]⟩
  clear hA;have rest:∀(T:List (Nat×V))(o1:List (Nat×Option Ob))(nx1:Nat)(L1:List Nat)(rows1:List (List V)),(lkT T 0=.ptr wid 3 0 0/\lkT T 1=.int .i64 i)->nx<=nx1->lookO o1 wid=some (cwO s (.omap mid) m)->lookO o1 mid=some (cmO rows1)->WRows s (FR s m) o1 nx1 wid mid rows1 L1 ->
    (∀q∈L1,q∈L\/nx<=q)->(∀q,q<nx->q∉L->q≠wid->q≠mid->lookO o1 q=lookO ob q)->B ⟨84,T,nx1,o1,nx⟩:=by
   intro T o1 nx1 L1 rows1 ht hn1 hW1 hM1 hR1 hL1 hq1;refine hB _ ?_;refine Bp [(0,.ptr wid 3 0 0),(1,.int .i64 i)] (by simp[ht]) ?_;by_cases hold:255<=m/\m-255+4<=s.length
   ·obtain⟨g1,g2⟩:=hold;have wo:IntKind.i64.wrap ((m:Int)-255)=((m-255:Nat):Int):=by rw[AA (by omega) (by omega)];omega
    refine au1 (kX2 @hW1 @wo) ?_;(repeat intro K hK);apply wr;refine cO ?_;refine(JM wid s (.omap mid) m (m-255) g2 hs hW1).mono fun r nx' ob' hp=>?_;simp only[BS];obtain⟨rfl,rfl,rfl⟩:=hp;simp;have hne:FR s m (Es s (m-255))≠[]:=by
     unfold FR;split
     ·simp
     exact Xq g1 g2
    have hst:∀k,CN s (m+1) k=if Es s (m-255)=k then(FR s m k).tail else FR s m k:=fun k=>by
     rw[KZ];by_cases e:Es s (m-255)=k
     ·rw[if_pos ⟨g1,g2,e⟩,if_pos e]
     rw[if_neg (fun z=>e z.2.2),if_neg e]
    obtain⟨cs,hcs⟩:∃cs,mget (Es s (m-255)) rows1=some cs:=by
     cases h:mget (Es s (m-255)) rows1 with
     | none=>exact absurd (hR1.none _ h) hne
     | some cs=>exact⟨cs,rfl⟩
    obtain⟨id,rfl,hidL,hido,-⟩:=hR1.get _ _ hcs;obtain⟨hid1,hid2,hid3⟩:=hR1.ids id hidL;have hk1:=hR1.keys;generalize hkey:Es s (m-255)=key at *;have hll:(OG (FR s m key)).length=(FR s m key).length:=JB _;generalize hl:FR s m key=l at *;refine au ?_;refine EE (kX6 @hW1 @hM1 @hcs @hk1 @hido @hll) ?_;(repeat intro K hK);apply wr;by_cases hl1:1<l.length
    ·have c1:(1:Int)<l.length:=by omega
     refine EM (kX2 @c1 @hl1) ?_;(repeat intro K hK);apply wr;refine AG 8 [0,1,3,7,0,0,32,127] [(7,([[],[0],[0,1],[0,1,2],[],[],[5]],[])),(1,([],[]))] ?_;refine af1 (kX8 @hW1 @hM1 @hcs @hk1 @hido @hll @c1 @hl1) ?_;(repeat intro K hK);apply wr;simp[updV,hido,hll,hl1];refine⟨fun e=>hid3 e.symm,by omega,?_⟩;refine af ?_;(repeat intro K hK);apply wr;have htl:∀l:List Nat,(OG l).tail=OG l.tail:=fun l=>by cases l<;>rfl
     have e1:¬mid=nx':=by omega
     have e2:¬wid=nx':=by omega
     have e3:¬wid=id:=fun e=>hid2 e.symm;have e4:¬nx'=mid:=by omega
     have hR2:=hR1.put (f':=CN s (m+1)) (o':=(mid,some (cmO (JA key [.own nx'] rows1)))::(nx',some (ilO l.tail))::(id,none)::ob') (nx':=nx'+1) key nx' l.tail (fA _) (by omega) (by omega) (by omega) (by cases l with|nil=>simp at hl1|cons a l=>cases l with|nil=>simp at hl1|cons b l=>simp) (by simp[lookO,e4]) (fun k id2 hg hne=>by
      obtain⟨id3,h1,h2,-⟩:=hR1.get k _ hg;simp only[List.cons.injEq,V.own.injEq,and_true]at h1;subst h1;have q1:=hR1.ids _ h2;have q2:¬id2=id:=fun e=>hne (hR1.dist k key id (by rw[<- e];exact hg) hcs);simp[lookO,q1.2.2,q2,show ¬id2=nx' by omega]) (fun k=>by
       rw[hst];by_cases e:k=key
       ·rw[if_pos e.symm,if_pos e,e,hl]
       rw[if_neg (fun z=>e z.symm),if_neg e])
     exact fin _ _ _ (nx'::L1) (JA key [.own nx'] rows1) (by simp[lkT]) (by omega) (by simp[lookO,hwm',e2,e3,hW1]) (by simp[lookO]) (by rw[htl];exact hR2) (fun q hq=>by
      rcases List.mem_cons.1 hq with rfl|hq
      ·exact .inr hn1
      exact hL1 q hq) (fun q a b c d=>by
      have q2:¬q=id:=fun e=>by
       subst e;rcases hL1 _ hidL with z|z
       ·exact b z
       omega
      simp[lookO,d,q2,show ¬q=nx' by omega,hq1 q a b c d])
    have c1:¬(1:Int)<l.length:=by omega
    refine EA (kX2 @c1 @hl1) (kX5 @hW1 @hM1 @hcs @hk1 @hido) ?_;(repeat intro K hK);apply wr;simp[delV,hM1,hk1];refine af ?_;(repeat intro K hK);apply wr;have hl0:l.tail=[]:=by cases l with|nil=>rfl|cons a l=>cases l with|nil=>rfl|cons b l=>simp at hl1
    have hmL:∀q∈L1,¬q=mid:=fun q hq=>(hR1.ids q hq).2.2;have hR2:=hR1.del (f':=CN s (m+1)) (o':=(mid,some (cmO (P7 key rows1)))::ob') (nx':=nx') key (fA _) (fun q hq=>by simp[lookO,hmL q hq]) (fun k=>by
     rw[hst];by_cases e:k=key
     ·rw[if_pos e.symm,if_pos e,e,hl,hl0]
     rw[if_neg (fun z=>e z.symm),if_neg e])
    exact fin _ _ _ L1 (P7 key rows1) (by simp[lkT]) hn1 (by simp[lookO,hwm',hW1]) (by simp[lookO]) hR2 hL1 (fun q a b c d=>by simp[lookO,d,hq1 q a b c d])
   have hst:∀k,CN s (m+1) k=FR s m k:=fun k=>by
    rw[KZ,if_neg (fun z=>hold ⟨z.1,z.2.1⟩)]
   have wo:IntKind.i64.wrap ((m:Int)-255)=(m:Int)-255:=AA (by omega) (by omega);refine af1 (kX2 @hW1 @wo) ?_;(repeat intro K hK);apply wr;refine cO ?_;refine(HU wid s (.omap mid) m ((m:Int)-255) (by omega) (by omega) (by omega) hs hW1).mono fun r nx' ob' hp=>?_;simp only[BS];obtain⟨rfl,rfl,rfl⟩:=hp;simp;refine af ?_;refine WX ?_;(repeat intro K hK);apply wr;exact fin _ _ _ L1 rows1 (by simp[lkT]) hn1 hW1 hM1 (hR1.congr (fun _ _=>rfl) (fA _) hst) hL1 hq1
  clear hB;have hk0:=hR.keys;by_cases hm4:m+4<=s.length
  ·refine cO ?_;refine(JM wid s (.omap mid) m m hm4 hs hW).mono fun r nx' ob' hp=>?_;simp only[BS];obtain⟨rfl,rfl,rfl⟩:=hp;simp;refine af1 @hW ?_;refine WX ?_;(repeat intro K hK);apply wr;have hs1:∀k,FR s m k=if k=Es s m then CN s m k++[m]else CN s m k:=fun k=>by
    unfold FR;by_cases e:k=Es s m
    ·rw[if_pos ⟨hm4,e.symm⟩,if_pos e]
    rw[if_neg (fun z=>e z.2.symm),if_neg e]
   have hs2:∀k,FR s m k=if k=Es s m then CN s m (Es s m)++[m]else CN s m k:=fun k=>by
    rw[hs1];by_cases e:k=Es s m
    ·rw[if_pos e,if_pos e,e]
    rw[if_neg e,if_neg e]
   have e1:¬mid=nx':=by omega
   have e2:¬mid=nx'+1:=by omega
   have e3:¬wid=nx':=by omega
   have e4:¬wid=nx'+1:=by omega
   generalize hkey:Es s m=key at *;cases hg:mget key rows with
   | none =>
    have hs0:=hR.none _ hg;refine AG 18 [0,1,3,7,0,0,32,96,224,0,992,0,2048,6144,14336,30720,65504,131071] [(17,([[],[0],[0,1],[0,1,2],[],[],[5],[5,6],[5,6,7],[],[5,6,7,8,9],[],[11],[11,12],[11,12,13],[11,12,13,14],[5,6,7,8,9,10,11,12,13,14,15]],[(3,15),(3,16),(8,15),(10,15)])),(1,([],[]))] ?_;refine af1 (kX9 @hW @hM @hg @hk0 @maxLen.eq_1 @e1 @e2 @e3 @e4) ?_;(repeat intro K hK);apply wr;simp[updV];refine af ?_;(repeat intro K hK);apply wr;have hR1:=hR.put (f':=FR s m) (o':=(mid,some (cmO (JA key [.own (nx'+1)] rows)))::(nx'+1,some (ilO [m]))::(nx',some (ilO [m]))::ob') (nx':=nx'+1+1) key (nx'+1) [m] (by omega) (by omega) (by omega) (by omega) (by simp) (by simp[lookO,show ¬nx'+1=mid by omega]) (fun k id2 hg2 hne=>by
     obtain⟨id3,h1,h2,-⟩:=hR.get k _ hg2;simp only[List.cons.injEq,V.own.injEq,and_true]at h1;subst h1;have q1:=hR.ids _ h2;simp[lookO,q1.2.2,show ¬id2=nx' by omega,show ¬id2=nx'+1 by omega]) (fun k=>by rw[hs2,hs0];rfl)
    exact rest _ _ _ ((nx'+1)::L') (JA key [.own (nx'+1)] rows) (by simp[lkT]) (by omega) (by simp[lookO,hwm',e3,e4,hW]) (by simp[lookO]) hR1 (fun q hq2=>by
     rcases List.mem_cons.1 hq2 with rfl|hq2
     ·exact .inr (by omega)
     exact hL q hq2) (fun q a b c d=>by simp[lookO,d,show ¬q=nx' by omega,show ¬q=nx'+1 by omega,hq q a b c d])
   | some cs =>
    obtain⟨id,rfl,hidL,hido,-⟩:=hR.get _ _ hg;obtain⟨hid1,hid2,hid3⟩:=hR.ids id hidL;have hll:=QI s m key;have hnl:=JB (CN s m key);generalize CN s m key=l at *;have g1:¬id=nx':=by omega
    have g2:¬nx'=id:=by omega
    have g3:¬mid=id:=fun e=>hid3 e.symm;have g4:¬wid=id:=fun e=>hid2 e.symm;have c4:(l.length+1)*8<=140737488355328:=by omega
    have c5:l.length<=9223372036854775806:=by omega
    refine AG 18 [0,1,3,7,0,0,32,96,224,0,992,0,2048,6144,14336,30720,65504,131071] [(17,([[],[0],[0,1],[0,1,2],[],[],[5],[5,6],[5,6,7],[],[5,6,7,8,9],[],[11],[11,12],[11,12,13],[11,12,13,14],[5,6,7,8,9,10,11,12,13,14,15]],[(3,15),(3,16),(8,15),(10,15)])),(1,([],[]))] ?_;repeat (first|(with_reducible first|refine BY fun K hK=>?_|refine BG ?_)|((with_reducible first|refine Ar (by kernel_rfl) ?_|refine B7 ?_|refine B2 ?_|refine B6 ?_|refine B5 ?_|refine EU ?_|refine ER ?_|refine ET ?_|refine ES ?_|refine BZ ?_|refine BX ?_);simp[hW,hM,hg,hk0,hido,hnl,maxLen,e1,e2,e3,e4,g1,g2,g3,g4,c4,c5])|((repeat ((fail_if_success ((with_reducible first|refine hK _ ?_|refine hK _ _ _ _ ?_)));clear hK));(with_reducible first|refine hK _ ?_|refine hK _ _ _ _ ?_);clear hK)|(with_reducible refine Fl fun K hK=>?_;simp[hW,hM,hg,hk0,hido,hnl,maxLen,e1,e2,e3,e4,g1,g2,g3,g4,c4,c5])|(with_reducible refine Fj ?_;try simp only[thn,blk])|(with_reducible refine Fo fun K hK=>?_;simp only[List.take_succ_cons,List.take_zero])|(with_reducible refine EP fun K hK=>?_;simp[hW,hM,hg,hk0,hido,hnl,maxLen,e1,e2,e3,e4,g1,g2,g3,g4,c4,c5])|(with_reducible refine F5 ?_)|(with_reducible refine EY ?_;simp only[List.drop_succ_cons,List.drop_zero];simp only[stS,eT,eO,fW,f9,cond_true,cond_false,Bool.and_true,Bool.and_false,Bool.true_and,Bool.false_and])|(with_reducible refine Dh ?_ ?_;(· (simp[hW,hM,hg,hk0,hido,hnl,maxLen,e1,e2,e3,e4,g1,g2,g3,g4,c4,c5]<;>first|omega|grind)))|refine And.intro (by first|omega|assumption|grind) ?_)
    simp[updV];refine af ?_;(repeat intro K hK);apply wr;have hR1:=hR.put (f':=FR s m) (o':=(mid,some (cmO (JA key [.own (nx'+1)] rows)))::(nx'+1,some (ilO (l++[m])))::(id,none)::(nx',some (ilO [m]))::ob') (nx':=nx'+1+1) key (nx'+1) (l++[m]) (by omega) (by omega) (by omega) (by omega) (by simp) (by simp[lookO,show ¬nx'+1=mid by omega]) (fun k id2 hg2 hne=>by
     obtain⟨id3,h1,h2,-⟩:=hR.get k _ hg2;simp only[List.cons.injEq,V.own.injEq,and_true]at h1;subst h1;have q1:=hR.ids _ h2;have q2:¬id2=id:=fun e=>hne (hR.dist k key id (by rw[<- e];exact hg2) hg);simp[lookO,q1.2.2,q2,show ¬id2=nx' by omega,show ¬id2=nx'+1 by omega]) hs2
    exact rest _ _ _ ((nx'+1)::L') (JA key [.own (nx'+1)] rows) (by simp[lkT]) (by omega) (by simp[lookO,hwm',e3,e4,g4,hW]) (by simp[lookO]) (by rw[Tj l m];exact hR1) (fun q hq2=>by
     rcases List.mem_cons.1 hq2 with rfl|hq2
     ·exact .inr (by omega)
     exact hL q hq2) (fun q a b c d=>by
     have q2:¬q=id:=fun e=>by
      subst e;rcases hL _ hidL with z|z
      ·exact b z
      omega
     simp[lookO,d,q2,show ¬q=nx' by omega,show ¬q=nx'+1 by omega,hq q a b c d])
  refine cO ?_;refine(HU wid s (.omap mid) m (m:Int) (by omega) (by omega) (by omega) hs hW).mono fun r nx' ob' hp=>?_;simp only[BS];obtain⟨rfl,rfl,rfl⟩:=hp;simp;refine af ?_;refine BU ?_;(repeat intro K hK);apply wr;exact rest _ _ _ L' rows (by simp[lkT]) hnx hW hM (hR.congr (fun _ _=>rfl) (fA _) (fun k=>by rw[FR,if_neg (fun z=>hm4 z.1)])) hL hq
 have:m=i:=by omega
 subst this;refine Ae @hlt ?_;(repeat intro K hK);apply wr;exact⟨L',⟨hW,rows,hM,hR⟩,hL,fun q a b c d=>hq q a b c d⟩
theorem SS(s:Str)(i lim:Nat):∀(l:List Nat)(b:Nat×Nat),¬b.2<lim->GB s i lim l b=b
 | [],_,_=>rfl
 | p::r,b,h=>by unfold GB;rw[if_neg h]
theorem PN(s:Str)(i p lim:Nat):∀(f g n:Nat),lim<=n+f->lim<=n+g->N2 s i p lim f n=N2 s i p lim g n
 | 0,0,_,_,_=>rfl
 | 0,g+1,n,h,_=>by unfold N2;rw[if_neg (fun z=>by omega)]
 | f+1,0,n,_,h=>by unfold N2;rw[if_neg (fun z=>by omega)]
 | f+1,g+1,n,h1,h2=>by
  unfold N2;split
  ·exact PN s i p lim f g (n+1) (by omega) (by omega)
  rfl
def WS(s:Str)(i p lim n:Nat):Nat:=N2 s i p lim (lim-n) n
theorem aO{s:Str}{i p lim n:Nat}(h:n<lim)(he:s[i+n]? =s[p+n]?):WS s i p lim n=WS s i p lim (n+1):=by
 unfold WS;obtain⟨f,hf⟩:∃f,lim-n=f+1:=⟨lim-n-1,by omega⟩;rw[hf,N2,if_pos ⟨h,he⟩,show lim-(n+1)=f by omega]
theorem Sv{s:Str}{i p lim n:Nat}(h:¬(n<lim/\s[i+n]? =s[p+n]?)):WS s i p lim n=n:=by
 unfold WS;cases hf:lim-n with
 | zero=>rfl
 | succ f=>rw[N2,if_neg h]
theorem Yc(s:Str)(i p lim:Nat):N2 s i p lim lim 4=WS s i p lim 4:=PN _ _ _ _ _ _ _ (by omega) (by omega)
theorem YA(l:List Nat)(c p:Nat)(h:l[c]? =some p):(l.take (c+1)).reverse=p::(l.take c).reverse:=by
 rw[List.take_add_one,h];simp
theorem U7{nx:Nat}{ob:List (Nat×Option Ob)}(wid mid:Nat)(s:Str)(i:Nat)(L:List Nat)(hw:Win s i ob nx wid mid L)(hi:i<s.length)(hs:s.length<=100000):
  Bt prog 186 [.ptr wid 3 0 0,.int .i64 i] nx ob fun r nx' ob'=>r=.tup [.int .i64 (Cv s i).1,.int .i64 (Cv s i).2]/\nx'=nx/\ob'=ob:=by
 obtain⟨hW,rows,hM,hR⟩:=hw;have hk0:=hR.keys;by_cases hm4:i+4<=s.length
 ·have hmt:Cv s i=GB s i (Lf s i) (CN s i (Es s i)).reverse (0,0):=by unfold Cv;rw[if_pos hm4]
  rw[hmt];have hlim:4<=Lf s i/\Lf s i<=67/\Lf s i<=s.length-i:=by unfold Lf;omega
  have hl1:(if(s.length:Int)-i<67 then(s.length:Int)-i else 67)=(Lf s i:Nat):=by unfold Lf;split<;>omega
  have w0:IntKind.i64.wrap ((s.length:Int)-i)=(s.length:Int)-i:=AA (by omega) (by omega);generalize Lf s i=lim at *;refine sIY func186 ntmps186 (kX2 @hW @hM) ?_;(repeat intro K hK);apply wr;refine cO ?_;refine(JM wid s (.omap mid) i i hm4 hs hW).mono fun r nx' ob' hp=>?_;simp only[BS];obtain⟨rfl,rfl,rfl⟩:=hp;simp;refine au ?_;(repeat intro K hK);apply wr;refine cF0 rfl ?_;generalize hkey:Es s i=key at *;cases hg:mget key rows with
  | none =>
   have h0:=hR.none _ hg;have wn:IntKind.i64.wrap (-1)=-1:=by decide
   refine au1 (kX7 @hW @hM @hg @hk0 @w0 @hl1 @wn) ?_;(repeat intro K hK);apply wr;refine Ad 1 ?_;refine BE fun K hK=>?_;refine au1 @wn ?_;refine B1 @wn ?_;refine ar ?_;simp[h0,GB]
  | some cs =>
   obtain⟨id,rfl,hidL,hido,-⟩:=hR.get _ _ hg;have hll:=QI s i key;have hnl:=JB (CN s i key);have hmem:∀p,p∈CN s i key->p<i:=fun p hp=>(QJ hp).1;generalize CN s i key=l at *;have w1:IntKind.i64.wrap ((l.length:Int)-1)=(l.length:Int)-1:=AA (by omega) (by omega);refine au1 (kX9 @hW @hM @hg @hk0 @hido @hnl @w0 @w1 @hl1) ?_;(repeat intro K hK);apply wr;refine Ad (l.length+1) ?_;refine BH (fun c st=>∃(T:List (Nat×V))(d n:Nat),c<=l.length/\st=⟨87,T,nx',ob',nx'⟩/\(lkT T 0=.ptr wid 3 0 0/\lkT T 1=.int .i64 i/\lkT T 8=.int .i64 lim/\lkT T 9=.int .i64 d/\lkT T 10=.int .i64 n/\lkT T 11=.own id/\lkT T 12=.int .i64 ((c:Int)-1))/\GB s i lim (l.take c).reverse (d,n)=GB s i lim l.reverse (0,0)/\n<=67) ?_ _ _ ⟨_,0,0,fA _,rfl,by simp[lkT],by rw[List.take_length],by omega⟩;rintro c st ⟨T,d,n,hc,rfl,⟨t0,t1,t8,t9,t10,t11,t12⟩,hE,hn67⟩ Kl hKl;refine Bp [(0,.ptr wid 3 0 0),(1,.int .i64 i),(8,.int .i64 lim),(9,.int .i64 d),(10,.int .i64 n),(11,.own id),(12,.int .i64 ((c:Int)-1))] (by simp[t0,t1,t8,t9,t10,t11,t12]) ?_;by_cases hgo:0<c/\n<lim
   ·obtain⟨hc0,hnl2⟩:=hgo;have c1:(0:Int)<=(c:Int)-1:=by omega
    have c2:(n:Int)<lim:=by omega
    have c3:¬(c:Int)<1:=by omega
    have c4:(1:Int)<=c:=by omega
    refine au1 (kX4 @c1 @c2 @c3 @c4) ?_;(repeat intro K hK);apply wr;refine cT1 (kX5 @c1 @c2 @c3 @c4 @hnl2) rfl ?_;obtain⟨p,hp⟩:∃p,l[c-1]? =some p:=⟨_,eR (by omega)⟩;have hpi:=hmem p (fD hp);have htr:=YA l (c-1) p hp;rw[show c-1+1=c by omega]at htr;have wt:((c:Int)-1).toNat=c-1:=by omega
    have wk:IntKind.i64.wrap ((c:Int)-1-1)=((c-1:Nat):Int)-1:=by rw[AA (by omega) (by omega)];omega
    have wd:IntKind.i64.wrap ((i:Int)-p)=((i-p:Nat):Int):=by rw[AA (by omega) (by omega)];omega
    have cl:(c:Int)-1<l.length:=by omega
    refine au ?_;(repeat intro K hK);apply wr;have rest:∀(T2:List (Nat×V))(m:Nat),(lkT T2 0=.ptr wid 3 0 0/\lkT T2 1=.int .i64 i/\lkT T2 8=.int .i64 lim/\lkT T2 9=.int .i64 d/\lkT T2 10=.int .i64 n/\lkT T2 11=.own id/\lkT T2 12=.int .i64 ((c:Int)-1)/\lkT T2 13=.int .i64 m)->m=WS s i p lim 4->m<=67->K ⟨87,T2,nx',ob',nx'⟩:=by
     intro T2 m ⟨u0,u1,u8,u9,u10,u11,u12,u13⟩ hm hm67;refine hK _ ?_;refine Bp [(0,.ptr wid 3 0 0),(1,.int .i64 i),(8,.int .i64 lim),(9,.int .i64 d),(10,.int .i64 n),(11,.own id),(12,.int .i64 ((c:Int)-1)),(13,.int .i64 m)] (by simp[u0,u1,u8,u9,u10,u11,u12,u13]) ?_;refine au ?_;(repeat intro K hK);apply wr;by_cases hmn:n<m
     ·refine DT @hmn (kX7 @hido @hp @wt @cl @c1 @wd @wk) ?_;(repeat intro K hK);apply wr;refine hKl (c-1) _ (by omega) ⟨_,i-p,m,by omega,rfl,by simp[lkT],?_,hm67⟩;rw[<- hE,htr,GB,if_pos hnl2,Yc,<- hm,if_pos hmn]
     refine EL @hmn @wk ?_;(repeat intro K hK);apply wr;refine hKl (c-1) _ (by omega) ⟨_,d,n,by omega,rfl,by simp[lkT],?_,hn67⟩;rw[<- hE,htr,GB,if_pos hnl2,Yc,<- hm,if_neg hmn]
    clear hK;refine Ad (lim-4+1) ?_;refine BH (fun q st=>∃(T2:List (Nat×V))(m:Nat),m+q=lim/\st=⟨87,T2,nx',ob',nx'⟩/\(lkT T2 0=.ptr wid 3 0 0/\lkT T2 1=.int .i64 i/\lkT T2 8=.int .i64 lim/\lkT T2 9=.int .i64 d/\lkT T2 10=.int .i64 n/\lkT T2 11=.own id/\lkT T2 12=.int .i64 ((c:Int)-1)/\lkT T2 13=.int .i64 m)/\WS s i p lim m=WS s i p lim 4) ?_ _ _ ⟨_,4,by omega,rfl,by simp[lkT],rfl⟩;rintro q st ⟨T2,m,hq,rfl,⟨u0,u1,u8,u9,u10,u11,u12,u13⟩,hEx⟩ Ki hKi;refine Bp [(0,.ptr wid 3 0 0),(1,.int .i64 i),(8,.int .i64 lim),(9,.int .i64 d),(10,.int .i64 n),(11,.own id),(12,.int .i64 ((c:Int)-1)),(13,.int .i64 m)] (by simp[u0,u1,u8,u9,u10,u11,u12,u13]) ?_;refine au ?_;(repeat intro K hK);apply wr;by_cases hml:m<lim
    ·obtain⟨x,hx⟩:∃x,s[i+m]? =some x:=⟨_,eR (by omega)⟩;obtain⟨y,hy⟩:∃y,s[p+m]? =some y:=⟨_,eR (by omega)⟩;have m1:(m:Int)<lim:=by omega
     have m2:IntKind.i64.wrap ((i:Int)+m)=((i+m:Nat):Int):=by rw[AA (by omega) (by omega)];omega
     have m3:IntKind.i64.wrap ((p:Int)+m)=((p+m:Nat):Int):=by rw[AA (by omega) (by omega)];omega
     have m4:(i:Int)+m<s.length:=by omega
     have m5:(p:Int)+m<s.length:=by omega
     have m6:IntKind.i64.wrap ((m:Int)+1)=((m+1:Nat):Int):=by rw[AA (by omega) (by omega)];omega
     have m7:((i:Int)+m).toNat=i+m:=by omega
     have m8:((p:Int)+m).toNat=p+m:=by omega
     refine AG 25 [0,0,3,7,15,31,63,127,15,15,783,2047,15,4111,12303,28687,15,15,196623,458767,15,2031631,4190223,8388607,16777215] [(2,([[],[]],[])),(1,([],[])),(1,([],[])),(19,([[],[0],[0,1],[0,1,2],[],[],[4,5],[0,1,2,3,4,5,6],[],[8],[8,9],[8,9,10],[],[],[12,13],[12,13,14],[],[12,13,14,15,16],[8,9,10,11,12,13,14,15,16,17]],[])),(1,([],[])),(1,([],[]))] ?_;refine af1 (kX16 @hW @hido @hml @m1 @m2 @m3 @m4 @m5 @hx @hy @hp @wt @cl @c1 @m7 @m8) ?_;(repeat intro K hK);apply wr;by_cases hxy:x=y
     ·refine Ce @hxy @m6 ?_;(repeat intro K hK);apply wr;refine hKi (q-1) _ (by omega) ⟨_,m+1,by omega,rfl,by simp[lkT],?_⟩;rw[<- hEx,aO hml (by rw[hx,hy,hxy])]
     have hne:¬(x.toNat:Int)=y.toNat:=fun e=>hxy (UInt8.toNat_inj.1 (by omega));have hne2:((x.toNat:Int)==(y.toNat:Int))=false:=by simpa using hne
     have hne3:¬x.toNat=y.toNat:=by omega
     refine Ae (kX4 @hne @hne2 @hne3 @hxy) ?_;(repeat intro K hK);apply wr;exact rest _ m (by simp[lkT]) (by rw[<- hEx,Sv (fun z=>hxy (by have:=z.2;rw[hx,hy]at this;simpa using this))]) (by omega)
    have m1:¬(m:Int)<lim:=by omega
    refine AG 25 [0,0,3,7,15,31,63,127,15,15,783,2047,15,4111,12303,28687,15,15,196623,458767,15,2031631,4190223,8388607,16777215] [(2,([[],[]],[])),(1,([],[])),(1,([],[])),(19,([[],[0],[0,1],[0,1,2],[],[],[4,5],[0,1,2,3,4,5,6],[],[8],[8,9],[8,9,10],[],[],[12,13],[12,13,14],[],[12,13,14,15,16],[8,9,10,11,12,13,14,15,16,17]],[])),(1,([],[])),(1,([],[]))] ?_;refine af1 (kX8 @hW @hido @hml @m1 @hp @wt @cl @c1) ?_;refine Ae (kX2 @hml @m1) ?_;(repeat intro K hK);apply wr;exact rest _ m (by simp[lkT]) (by rw[<- hEx,Sv (fun z=>hml z.1)]) (by omega)
   have hres:GB s i lim (l.take c).reverse (d,n)=(d,n):=by
    by_cases h0:c=0
    ·subst h0;rfl
    exact SS _ _ _ _ _ (fun z=>hgo ⟨by omega,z⟩)
   rw[hE]at hres;have c1:¬((0:Int)<=(c:Int)-1/\(n:Int)<lim):=by omega
   refine af ?_;(repeat intro K hK);apply wr;refine AB rfl (fun hh=>?_) (fun hh=>?_)
   ·exfalso;simp at hh;omega
   refine af ?_;refine ar ?_;simp[hres]
 have hmt:Cv s i=(0,0):=by unfold Cv;rw[if_neg hm4]
 rw[hmt];refine sIY func186 ntmps186 (kX2 @hW @hM) ?_;(repeat intro K hK);apply wr;refine cO ?_;refine(HU wid s (.omap mid) i (i:Int) (by omega) (by omega) (by omega) hs hW).mono fun r nx' ob' hp=>?_;simp only[BS];obtain⟨rfl,rfl,rfl⟩:=hp;simp;refine af ?_;refine WX ?_;refine ar ?_;simp
end Go.Proofs.YtjkmhmepljamoaaGreat
end
