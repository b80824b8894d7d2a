/- A part of the proof of ReplicaHalts. -/
import Derived.Test.YthjpcmecgjfilaaGreatH04
set_option linter.unusedSimpArgs false
set_option linter.unusedVariables false
set_option maxHeartbeats 16000000
set_option maxRecDepth 100000
section
namespace Go.Proofs.YthjpcmecgjfilaaGreat
open Go.Ab Go.RowKit Tryz
abbrev zLA (l:List Nat):List (List V):=l.map fun (p:Nat)=>[V.int .i64 (p:Int)]
abbrev ilO (l:List Nat):Ob:=⟨3,1,false,false,zLA l⟩
abbrev cmO (rows:List (List V)):Ob:=⟨302,2,true,false,rows⟩
structure WRows (s:Str) (f:Str->List Nat) (o:List (Nat × Option Ob)) (nx:Nat) (wid mid:Nat) (rows:List (List V)) (L:List Nat):Prop where
 keys:mkeys rows
 nd:mnd rows
 get:∀ k cs,mget k rows=some cs->∃ id,cs=[.own id]/\id∈L/\lookO o id=some (ilO (f k))/\f k≠[]
 none:∀ k,mget k rows=none->f k=[]
 dist:∀ k k' id,mget k rows=some [.own id]->mget k' rows=some [.own id]->k=k'
 ids:∀ id∈L,id<nx/\id≠wid/\id≠mid
def Win (s:Str) (n:Nat) (o:List (Nat × Option Ob)) (nx wid mid:Nat) (L:List Nat):Prop :=
 lookO o wid=some (cwO s (.omap mid) n)/\∃ rows,lookO o mid=some (cmO rows)/\WRows s (zBS s n) o nx wid mid rows L
theorem WRows.congr {s:Str} {f f':Str->List Nat} {o o':List (Nat × Option Ob)} {nx nx' wid mid:Nat} {rows:List (List V)} {L:List Nat} (h:WRows s f o nx wid mid rows L) (ho:∀ q∈L,lookO o' q=lookO o q) (hn:nx<=nx') (hf:∀ k,f' k=f k):WRows s f' o' nx' wid mid rows L :=
 ⟨h.keys,h.nd,fun k cs hg=>by
  obtain ⟨id,h1,h2,h3,h4⟩:=h.get k cs hg;exact ⟨id,h1,h2,by rw [ho id h2,hf];exact h3,by rw [hf];exact h4⟩,fun k hg=>by rw [hf];exact h.none k hg,h.dist,fun id hi=>by obtain ⟨a,b⟩:=h.ids id hi;exact ⟨by omega,b⟩⟩
theorem WRows.put {s:Str} {f f':Str->List Nat} {o o':List (Nat × Option Ob)} {nx nx' wid mid:Nat} {rows:List (List V)} {L:List Nat} (h:WRows s f o nx wid mid rows L) (key:Str) (q:Nat) (l:List Nat) (hq:nx<=q) (hq':q<nx') (hw:wid<nx) (hm:mid<nx) (hl:l≠[]) (hlo:lookO o' q=some (ilO l))
  (ho:∀ k id,mget k rows=some [.own id]->k≠key->lookO o' id=lookO o id) (hf:∀ k,f' k=if k=key then l else f k):WRows s f' o' nx' wid mid (mput key [.own q] rows) (q::L):=by
 refine ⟨zPQ h.keys,zUr h.nd,fun k cs hg=>?_,fun k hg=>?_,fun k k' id hg hg'=>?_,fun id hi=>?_⟩
 ·rw [zGC] at hg;by_cases e:k=key
  ·rw [if_pos e] at hg;simp only [zV2] at hg;subst hg;exact ⟨q,rfl,zV8 ..,by rw [hlo,hf,if_pos e],by rw [hf,if_pos e];exact hl⟩
  rw [if_neg e] at hg;obtain ⟨id,rfl,h2,h3,h4⟩:=h.get k cs hg;exact ⟨id,rfl,zV4 _ h2,by rw [ho k id hg e,hf,if_neg e];exact h3,by rw [hf,if_neg e];exact h4⟩
 ·rw [zGC] at hg;split at hg
  ·cases hg
  rename_i e;rw [hf,if_neg e];exact h.none k hg
 ·rw [zGC] at hg hg';have old:∀ k,mget k rows=some [.own q]->False:=fun k hk=>by
   obtain ⟨id,h1,h2,-⟩:=h.get k _ hk;simp only [List.cons.injEq,V.own.injEq,and_true] at h1;subst h1;have:=(h.ids _ h2).1;omega
  by_cases e:k=key<;>by_cases e':k'=key
  ·rw [e,e']
  ·rw [if_pos e] at hg;rw [if_neg e'] at hg';simp only [zV2,List.cons.injEq,V.own.injEq,and_true] at hg;subst hg;exact (old _ hg').elim
  ·rw [if_neg e] at hg;rw [if_pos e'] at hg';simp only [zV2,List.cons.injEq,V.own.injEq,and_true] at hg';subst hg';exact (old _ hg).elim
  rw [if_neg e] at hg;rw [if_neg e'] at hg';exact h.dist k k' id hg hg'
 rcases List.mem_cons.1 hi with rfl|hi
 ·exact ⟨hq',by omega,by omega⟩
 obtain ⟨a,b⟩:=h.ids id hi;exact ⟨by omega,b⟩
theorem WRows.del {s:Str} {f f':Str->List Nat} {o o':List (Nat × Option Ob)} {nx nx' wid mid:Nat} {rows:List (List V)} {L:List Nat} (h:WRows s f o nx wid mid rows L) (key:Str) (hn:nx<=nx') (ho:∀ id∈L,lookO o' id=lookO o id) (hf:∀ k,f' k=if k=key then [] else f k) :
  WRows s f' o' nx' wid mid (mdel key rows) L:=by
 refine ⟨zPP h.keys,zUq h.nd,fun k cs hg=>?_,fun k hg=>?_,fun k k' id hg hg'=>?_,fun id hi=>by obtain ⟨a,b⟩:=h.ids id hi;exact ⟨by omega,b⟩⟩
 ·rw [zGB _ _ _ h.nd] at hg;split at hg
  ·cases hg
  rename_i e;obtain ⟨id,rfl,h2,h3,h4⟩:=h.get k cs hg;exact ⟨id,rfl,h2,by rw [ho id h2,hf,if_neg e];exact h3,by rw [hf,if_neg e];exact h4⟩
 ·rw [zGB _ _ _ h.nd] at hg;rw [hf];split
  ·rfl
  rename_i e;rw [if_neg e] at hg;exact h.none k hg
 rw [zGB _ _ _ h.nd] at hg hg';split at hg
 ·cases hg
 split at hg'
 ·cases hg'
 exact h.dist k k' id hg hg'
def zDr (s:Str) (m:Nat) (k:Str):List Nat:=if m+4<=s.length/\grpB s m=k then zBS s m k++[m] else zBS s m k
theorem zIF (s:Str) (m:Nat) (k:Str):zBS s (m+1) k=if 255<=m/\m-255+4<=s.length/\grpB s (m-255)=k then (zDr s m k).tail else zDr s m k:=zQE s m k
theorem zSc {s:Str} {m:Nat} (h1:255<=m) (h2:m-255+4<=s.length):zBS s m (grpB s (m-255))≠[]:=by
 intro h
 have:(m-255)∈zBS s m (grpB s (m-255)):=by
  simp only [zBS,List.mem_filter,List.mem_range'_1,zV5,decide_eq_true_eq];exact ⟨by omega,h2,trivial⟩
 rw [h] at this;cases this
theorem zMh (s:Str) (m:Nat) (k:Str):(zBS s m k).length<=255:=by
 unfold zBS;refine zWR (List.length_filter_le _ _) ?_;rw [List.length_range'];omega
theorem zGt (l:List Nat):(zLA l).length=l.length:=by simp
theorem zPU (l:List Nat) (m:Nat):zLA l++[[V.int .i64 (m:Int)]]=zLA (l++[m]):=by simp
theorem zI0 {nx:Nat} {ob:List (Nat × Option Ob)} (wid mid:Nat) (s:Str) (n i:Nat) (L:List Nat) (hw:Win s n ob nx wid mid L) (hni:n<=i) (hi:i<=s.length) (hs:s.length<=100000) (hwm:wid<nx/\mid<nx/\wid≠mid) :
  InlC prog 186 [.ptr wid 3 0 0,.int .i64 i] nx ob fun r nx' ob'=>r=.tup []/\nx<=nx'/\∃ L',Win s i ob' nx' wid mid L'/\(∀ q∈L',q∈L\/nx<=q)/\∀ q,q<nx->q ∉ L->q≠wid->q≠mid->lookO ob' q=lookO ob q:=by
 have hw1:=hw.1;refine InlC.of func186 rfl (by kernel_rfl) rfl ?_
 simp only [ntmps186,St.startI,argT];refine au1 @hw1 ?_;(repeat intro K hK);apply wr
 refine zAX (i-n+1) ?_;refine zA5 (fun k st=>∃ (m nx':Nat) (T:List (Nat × V)) (o:List (Nat × Option Ob)) (L':List Nat),m+k=i/\st=⟨84,T,nx',o,nx⟩/\(lkT T 0=.ptr wid 3 0 0/\lkT T 1=.int .i64 i)/\nx<=nx'/\Win s m o nx' wid mid L'/\(∀ q∈L',q∈L\/nx<=q)/\∀ q,q<nx->q ∉ L->q≠wid->q≠mid->lookO o q=lookO ob q) ?_ _ _ ⟨n,nx,_,_,L,by omega,rfl,by simp [lkT],zV9 _,hw,fun q h=>.inl h,fun q _ _ _ _=>rfl⟩
 rintro k st ⟨m,nx',T,o,L',hk,rfl,⟨t0,t1⟩,hnx,⟨hW,rows,hM,hR⟩,hL,hq⟩ Kl hKl
 refine zBV [(0,.ptr wid 3 0 0),(1,.int .i64 i)] (by simp [t0,t1]) ?_
 simp;refine au1 @hW ?_;(repeat intro K hK);apply wr
 by_cases hlt:m<i
 ·have c1:(m:Int)<i:=by omega
  refine gT11 (kX2 @c1 @hlt) rfl @hW ?_;(repeat intro K hK);apply wr
  rename_i A hA B hB;have wm1:IntKind.i64.wrap ((m:Int)+1)=((m+1:Nat):Int):=by rw [zAA (by omega) (by omega)];omega
  obtain ⟨hw0,hm0,hwm'⟩:=hwm;have hmw:¬ mid=wid:=fun e=>hwm' e.symm
  have fin:∀ (T:List (Nat × V)) (o2:List (Nat × Option Ob)) (nx2:Nat) (L2:List Nat) (rows2:List (List V)),(lkT T 0=.ptr wid 3 0 0/\lkT T 1=.int .i64 i)->nx<=nx2->lookO o2 wid=some (cwO s (.omap mid) m)->lookO o2 mid=some (cmO rows2)->WRows s (zBS s (m+1)) o2 nx2 wid mid rows2 L2 ->
    (∀ q∈L2,q∈L\/nx<=q)->(∀ q,q<nx->q ∉ L->q≠wid->q≠mid->lookO o2 q=lookO ob q)->A ⟨84,T,nx2,o2,nx⟩:=by
   intro T o2 nx2 L2 rows2 ht hn2 hW2 hM2 hR2 hL2 hq2
   refine hA _ ?_;refine zBV [(0,.ptr wid 3 0 0),(1,.int .i64 i)] (by simp [ht]) ?_
   refine au1 (kX2 @hW2 @wm1) ?_;(repeat intro K hK);apply wr
   refine hKl (k-1) _ (by omega) ⟨m+1,nx2,_,_,L2,by omega,rfl,by simp [lkT],hn2,⟨by simp [lookO],rows2,by simp [lookO,hmw,hM2],hR2.congr (fun q hq=>by have:=(hR2.ids q hq).2.1;simp [lookO,this]) (zV9 _) (fun _=>rfl)⟩,hL2,fun q a b c d=>by simp [lookO,c,hq2 q a b c d]⟩
  clear hA;have rest:∀ (T:List (Nat × V)) (o1:List (Nat × Option Ob)) (nx1:Nat) (L1:List Nat) (rows1:List (List V)),(lkT T 0=.ptr wid 3 0 0/\lkT T 1=.int .i64 i)->nx<=nx1->lookO o1 wid=some (cwO s (.omap mid) m)->lookO o1 mid=some (cmO rows1)->WRows s (zDr s m) o1 nx1 wid mid rows1 L1 ->
    (∀ q∈L1,q∈L\/nx<=q)->(∀ q,q<nx->q ∉ L->q≠wid->q≠mid->lookO o1 q=lookO ob q)->B ⟨84,T,nx1,o1,nx⟩:=by
   intro T o1 nx1 L1 rows1 ht hn1 hW1 hM1 hR1 hL1 hq1
   refine hB _ ?_;refine zBV [(0,.ptr wid 3 0 0),(1,.int .i64 i)] (by simp [ht]) ?_
   by_cases hold:255<=m/\m-255+4<=s.length
   ·obtain ⟨g1,g2⟩:=hold;have wo:IntKind.i64.wrap ((m:Int)-255)=((m-255:Nat):Int):=by rw [zAA (by omega) (by omega)];omega
    refine au1 (kX2 @hW1 @wo) ?_;(repeat intro K hK);apply wr
    first|refine .inr ((zBp wid s (.omap mid) m (m-255) g2 hs hW1).mono fun r nx' ob' hp=>?_)|refine (zBp wid s (.omap mid) m (m-255) g2 hs hW1).mono fun r nx' ob' hp=>?_|refine ((zBp wid s (.omap mid) m (m-255) g2 hs hW1).mono fun r nx' ob' hp=>?_).2
    simp only [aftI];obtain ⟨rfl,rfl,rfl⟩:=hp;simp;have hne:zDr s m (grpB s (m-255))≠[]:=by
     unfold zDr;split
     ·simp
     exact zSc g1 g2
    have hst:∀ k,zBS s (m+1) k=if grpB s (m-255)=k then (zDr s m k).tail else zDr s m k:=fun k=>by
     rw [zIF];by_cases e:grpB s (m-255)=k
     ·rw [if_pos ⟨g1,g2,e⟩,if_pos e]
     rw [if_neg (fun z=>e z.2.2),if_neg e]
    obtain ⟨cs,hcs⟩:∃ cs,mget (grpB s (m-255)) rows1=some cs:=by
     cases h:mget (grpB s (m-255)) rows1 with
     | none=>exact absurd (hR1.none _ h) hne
     | some cs=>exact ⟨cs,rfl⟩
    obtain ⟨id,rfl,hidL,hido,-⟩:=hR1.get _ _ hcs;obtain ⟨hid1,hid2,hid3⟩:=hR1.ids id hidL;have hk1:=hR1.keys;generalize hkey:grpB s (m-255)=key at *
    have hll:(zLA (zDr s m key)).length=(zDr s m key).length:=zGt _;generalize hl:zDr s m key=l at *
    refine au ?_;(repeat intro K hK);apply wr
    refine gF01 rfl (kX6 @hW1 @hM1 @hcs @hk1 @hido @hll) ?_;(repeat intro K hK);apply wr
    by_cases hl1:1<l.length
    ·have c1:(1:Int)<l.length:=by omega
     refine gT10 (kX2 @c1 @hl1) rfl ?_;(repeat intro K hK);apply wr
     refine zAE 8 [0,1,3,7,0,0,32,127] [(7,([[],[0],[0,1],[0,1,2],[],[],[5]],[])),(1,([],[]))] ?_;refine af1 (kX8 @hW1 @hM1 @hcs @hk1 @hido @hll @c1 @hl1) ?_;(repeat intro K hK);apply wr
     simp [updV,hido,hll,hl1];refine ⟨fun e=>hid3 e.symm,by omega,?_⟩
     refine af ?_;(repeat intro K hK);apply wr
     have htl:∀ l:List Nat,(zLA l).tail=zLA l.tail:=fun l=>by cases l<;>rfl
     have e1:¬ mid=nx':=by omega
     have e2:¬ wid=nx':=by omega
     have e3:¬ wid=id:=fun e=>hid2 e.symm
     have e4:¬ nx'=mid:=by omega
     have hR2:=hR1.put (f':=zBS s (m+1)) (o':=(mid,some (cmO (mput key [.own nx'] rows1)))::(nx',some (ilO l.tail))::(id,none)::ob') (nx':=nx'+1) key nx' l.tail (zV9 _) (by omega) (by omega) (by omega) (by cases l with|nil=>simp at hl1|cons a l=>cases l with|nil=>simp at hl1|cons b l=>simp) (by simp [lookO,e4]) (fun k id2 hg hne=>by
      obtain ⟨id3,h1,h2,-⟩:=hR1.get k _ hg;simp only [List.cons.injEq,V.own.injEq,and_true] at h1;subst h1;have q1:=hR1.ids _ h2;have q2:¬ id2=id:=fun e=>hne (hR1.dist k key id (by rw [<- e];exact hg) hcs)
      simp [lookO,q1.2.2,q2,show ¬ id2=nx' by omega]) (fun k=>by
       rw [hst];by_cases e:k=key
       ·rw [if_pos e.symm,if_pos e,e,hl]
       rw [if_neg (fun z=>e z.symm),if_neg e])
     exact fin _ _ _ (nx'::L1) (mput key [.own nx'] rows1) (by simp [lkT]) (by omega) (by simp [lookO,hwm',e2,e3,hW1]) (by simp [lookO]) (by rw [htl];exact hR2) (fun q hq=>by
      rcases List.mem_cons.1 hq with rfl|hq
      ·exact .inr hn1
      exact hL1 q hq) (fun q a b c d=>by
      have q2:¬ q=id:=fun e=>by
       subst e;rcases hL1 _ hidL with z|z
       ·exact b z
       omega
      simp [lookO,d,q2,show ¬ q=nx' by omega,hq1 q a b c d])
    have c1:¬ (1:Int)<l.length:=by omega
    refine zEH (kX2 @c1 @hl1) rfl (kX5 @hW1 @hM1 @hcs @hk1 @hido) ?_;(repeat intro K hK);apply wr
    simp [delV,hM1,hk1];refine af ?_;(repeat intro K hK);apply wr
    have hl0:l.tail=[]:=by cases l with|nil=>rfl|cons a l=>cases l with|nil=>rfl|cons b l=>simp at hl1
    have hmL:∀ q∈L1,¬ q=mid:=fun q hq=>(hR1.ids q hq).2.2
    have hR2:=hR1.del (f':=zBS s (m+1)) (o':=(mid,some (cmO (mdel key rows1)))::ob') (nx':=nx') key (zV9 _) (fun q hq=>by simp [lookO,hmL q hq]) (fun k=>by
     rw [hst];by_cases e:k=key
     ·rw [if_pos e.symm,if_pos e,e,hl,hl0]
     rw [if_neg (fun z=>e z.symm),if_neg e])
    exact fin _ _ _ L1 (mdel key rows1) (by simp [lkT]) hn1 (by simp [lookO,hwm',hW1]) (by simp [lookO]) hR2 hL1 (fun q a b c d=>by simp [lookO,d,hq1 q a b c d])
   have hst:∀ k,zBS s (m+1) k=zDr s m k:=fun k=>by
    rw [zIF,if_neg (fun z=>hold ⟨z.1,z.2.1⟩)]
   have wo:IntKind.i64.wrap ((m:Int)-255)=(m:Int)-255:=zAA (by omega) (by omega)
   refine af1 (kX2 @hW1 @wo) ?_;(repeat intro K hK);apply wr
   first|refine .inr ((zBX wid s (.omap mid) m ((m:Int)-255) (by omega) (by omega) (by omega) hs hW1).mono fun r nx' ob' hp=>?_)|refine (zBX wid s (.omap mid) m ((m:Int)-255) (by omega) (by omega) (by omega) hs hW1).mono fun r nx' ob' hp=>?_|refine ((zBX wid s (.omap mid) m ((m:Int)-255) (by omega) (by omega) (by omega) hs hW1).mono fun r nx' ob' hp=>?_).2
   simp only [aftI];obtain ⟨rfl,rfl,rfl⟩:=hp;simp;refine af ?_;(repeat intro K hK);apply wr
   refine zOy rfl ?_;(repeat intro K hK);apply wr
   exact fin _ _ _ L1 rows1 (by simp [lkT]) hn1 hW1 hM1 (hR1.congr (fun _ _=>rfl) (zV9 _) hst) hL1 hq1
  clear hB;have hk0:=hR.keys;by_cases hm4:m+4<=s.length
  ·first|refine .inr ((zBp wid s (.omap mid) m m hm4 hs hW).mono fun r nx' ob' hp=>?_)|refine (zBp wid s (.omap mid) m m hm4 hs hW).mono fun r nx' ob' hp=>?_|refine ((zBp wid s (.omap mid) m m hm4 hs hW).mono fun r nx' ob' hp=>?_).2
   simp only [aftI];obtain ⟨rfl,rfl,rfl⟩:=hp;simp;refine af1 @hW ?_;(repeat intro K hK);apply wr
   refine zOy rfl ?_;(repeat intro K hK);apply wr
   have hs1:∀ k,zDr s m k=if k=grpB s m then zBS s m k++[m] else zBS s m k:=fun k=>by
    unfold zDr;by_cases e:k=grpB s m
    ·rw [if_pos ⟨hm4,e.symm⟩,if_pos e]
    rw [if_neg (fun z=>e z.2.symm),if_neg e]
   have hs2:∀ k,zDr s m k=if k=grpB s m then zBS s m (grpB s m)++[m] else zBS s m k:=fun k=>by
    rw [hs1];by_cases e:k=grpB s m
    ·rw [if_pos e,if_pos e,e]
    rw [if_neg e,if_neg e]
   have e1:¬ mid=nx':=by omega
   have e2:¬ mid=nx'+1:=by omega
   have e3:¬ wid=nx':=by omega
   have e4:¬ wid=nx'+1:=by omega
   generalize hkey:grpB s m=key at *
   cases hg:mget key rows with
   | none =>
    have hs0:=hR.none _ hg;refine zAE 18 [0,1,3,7,0,0,32,96,224,0,992,0,2048,6144,14336,30720,65504,131071] [(17,([[],[0],[0,1],[0,1,2],[],[],[5],[5,6],[5,6,7],[],[5,6,7,8,9],[],[11],[11,12],[11,12,13],[11,12,13,14],[5,6,7,8,9,10,11,12,13,14,15]],[(3,15),(3,16),(8,15),(10,15)])),(1,([],[]))] ?_;refine af1 (kX9 @hW @hM @hg @hk0 @maxLen.eq_1 @e1 @e2 @e3 @e4) ?_;(repeat intro K hK);apply wr
    simp [updV];refine af ?_;(repeat intro K hK);apply wr
    have hR1:=hR.put (f':=zDr s m) (o':=(mid,some (cmO (mput key [.own (nx'+1)] rows)))::(nx'+1,some (ilO [m]))::(nx',some (ilO [m]))::ob') (nx':=nx'+1+1) key (nx'+1) [m] (by omega) (by omega) (by omega) (by omega) (by simp) (by simp [lookO,show ¬ nx'+1=mid by omega]) (fun k id2 hg2 hne=>by
     obtain ⟨id3,h1,h2,-⟩:=hR.get k _ hg2;simp only [List.cons.injEq,V.own.injEq,and_true] at h1;subst h1;have q1:=hR.ids _ h2;simp [lookO,q1.2.2,show ¬ id2=nx' by omega,show ¬ id2=nx'+1 by omega]) (fun k=>by rw [hs2,hs0];rfl)
    exact rest _ _ _ ((nx'+1)::L') (mput key [.own (nx'+1)] rows) (by simp [lkT]) (by omega) (by simp [lookO,hwm',e3,e4,hW]) (by simp [lookO]) hR1 (fun q hq2=>by
     rcases List.mem_cons.1 hq2 with rfl|hq2
     ·exact .inr (by omega)
     exact hL q hq2) (fun q a b c d=>by simp [lookO,d,show ¬ q=nx' by omega,show ¬ q=nx'+1 by omega,hq q a b c d])
   | some cs =>
    obtain ⟨id,rfl,hidL,hido,-⟩:=hR.get _ _ hg;obtain ⟨hid1,hid2,hid3⟩:=hR.ids id hidL;have hll:=zMh s m key;have hnl:=zGt (zBS s m key);generalize zBS s m key=l at *
    have g1:¬ id=nx':=by omega
    have g2:¬ nx'=id:=by omega
    have g3:¬ mid=id:=fun e=>hid3 e.symm
    have g4:¬ wid=id:=fun e=>hid2 e.symm
    have c4:(l.length+1)*8<=140737488355328:=by omega
    have c5:l.length<=9223372036854775806:=by omega
    refine zAE 18 [0,1,3,7,0,0,32,96,224,0,992,0,2048,6144,14336,30720,65504,131071] [(17,([[],[0],[0,1],[0,1,2],[],[],[5],[5,6],[5,6,7],[],[5,6,7,8,9],[],[11],[11,12],[11,12,13],[11,12,13,14],[5,6,7,8,9,10,11,12,13,14,15]],[(3,15),(3,16),(8,15),(10,15)])),(1,([],[]))] ?_
    repeat (first|(with_reducible first|refine zAw fun K hK=>?_|refine zAl ?_)|((with_reducible first|refine zAe (by kernel_rfl) ?_|refine zA1 ?_|refine zAy ?_|refine zA0 ?_|refine zAz ?_|refine zCh ?_|refine zCe ?_|refine zCg ?_|refine zCf ?_|refine zAx ?_|refine zAv ?_);simp [hW,hM,hg,hk0,hido,hnl,maxLen,e1,e2,e3,e4,g1,g2,g3,g4,c4,c5])|((repeat ((fail_if_success ((with_reducible first|refine hK _ ?_|refine hK _ _ _ _ ?_)));clear hK));(with_reducible first|refine hK _ ?_|refine hK _ _ _ _ ?_);clear hK)|(with_reducible refine zDO fun K hK=>?_;simp [hW,hM,hg,hk0,hido,hnl,maxLen,e1,e2,e3,e4,g1,g2,g3,g4,c4,c5])|(with_reducible refine zDN ?_;try simp only [thn,blk])|(with_reducible refine zDP fun K hK=>?_;simp only [List.take_succ_cons,List.take_zero])|(with_reducible refine zCc fun K hK=>?_;simp [hW,hM,hg,hk0,hido,hnl,maxLen,e1,e2,e3,e4,g1,g2,g3,g4,c4,c5])|(with_reducible refine zDF ?_)|(with_reducible refine zCn ?_;simp only [List.drop_succ_cons,List.drop_zero];simp only [stS,eT,eO,zWM,zWa,cond_true,cond_false,Bool.and_true,Bool.and_false,Bool.true_and,Bool.false_and])|(with_reducible refine zB2 ?_ ?_;(· (simp [hW,hM,hg,hk0,hido,hnl,maxLen,e1,e2,e3,e4,g1,g2,g3,g4,c4,c5]<;>first|omega|grind)))|refine And.intro (by first|omega|assumption|grind) ?_)
    simp [updV];refine af ?_;(repeat intro K hK);apply wr
    have hR1:=hR.put (f':=zDr s m) (o':=(mid,some (cmO (mput key [.own (nx'+1)] rows)))::(nx'+1,some (ilO (l++[m])))::(id,none)::(nx',some (ilO [m]))::ob') (nx':=nx'+1+1) key (nx'+1) (l++[m]) (by omega) (by omega) (by omega) (by omega) (by simp) (by simp [lookO,show ¬ nx'+1=mid by omega]) (fun k id2 hg2 hne=>by
     obtain ⟨id3,h1,h2,-⟩:=hR.get k _ hg2;simp only [List.cons.injEq,V.own.injEq,and_true] at h1;subst h1;have q1:=hR.ids _ h2;have q2:¬ id2=id:=fun e=>hne (hR.dist k key id (by rw [<- e];exact hg2) hg)
     simp [lookO,q1.2.2,q2,show ¬ id2=nx' by omega,show ¬ id2=nx'+1 by omega]) hs2
    exact rest _ _ _ ((nx'+1)::L') (mput key [.own (nx'+1)] rows) (by simp [lkT]) (by omega) (by simp [lookO,hwm',e3,e4,g4,hW]) (by simp [lookO]) (by rw [zPU l m];exact hR1) (fun q hq2=>by
     rcases List.mem_cons.1 hq2 with rfl|hq2
     ·exact .inr (by omega)
     exact hL q hq2) (fun q a b c d=>by
     have q2:¬ q=id:=fun e=>by
      subst e;rcases hL _ hidL with z|z
      ·exact b z
      omega
     simp [lookO,d,q2,show ¬ q=nx' by omega,show ¬ q=nx'+1 by omega,hq q a b c d])
  first|refine .inr ((zBX wid s (.omap mid) m (m:Int) (by omega) (by omega) (by omega) hs hW).mono fun r nx' ob' hp=>?_)|refine (zBX wid s (.omap mid) m (m:Int) (by omega) (by omega) (by omega) hs hW).mono fun r nx' ob' hp=>?_|refine ((zBX wid s (.omap mid) m (m:Int) (by omega) (by omega) (by omega) hs hW).mono fun r nx' ob' hp=>?_).2
  simp only [aftI];obtain ⟨rfl,rfl,rfl⟩:=hp;simp;refine af ?_;(repeat intro K hK);apply wr
  refine zBy rfl ?_;(repeat intro K hK);apply wr
  exact rest _ _ _ L' rows (by simp [lkT]) hnx hW hM (hR.congr (fun _ _=>rfl) (zV9 _) (fun k=>by rw [zDr,if_neg (fun z=>hm4 z.1)])) hL hq
 have:m=i:=by omega
 subst this;refine zBO @hlt rfl ?_;(repeat intro K hK);apply wr
 exact ⟨L',⟨hW,rows,hM,hR⟩,hL,fun q a b c d=>hq q a b c d⟩
theorem zOE (s:Str) (i lim:Nat):∀ (l:List Nat) (b:Nat × Nat),¬ b.2<lim->zEK s i lim l b=b
 | [],_,_=>rfl
 | p::r,b,h=>by unfold zEK;rw [if_neg h]
theorem zLw (s:Str) (i p lim:Nat):∀ (f g n:Nat),lim<=n+f->lim<=n+g->extC s i p lim f n=extC s i p lim g n
 | 0,0,_,_,_=>rfl
 | 0,g+1,n,h,_=>by unfold extC;rw [if_neg (fun z=>by omega)]
 | f+1,0,n,_,h=>by unfold extC;rw [if_neg (fun z=>by omega)]
 | f+1,g+1,n,h1,h2=>by
  unfold extC;split
  ·exact zLw s i p lim f g (n+1) (by omega) (by omega)
  rfl
def extN (s:Str) (i p lim n:Nat):Nat:=extC s i p lim (lim-n) n
theorem zUZ {s:Str} {i p lim n:Nat} (h:n<lim) (he:s[i+n]? =s[p+n]?):extN s i p lim n=extN s i p lim (n+1):=by
 unfold extN;obtain ⟨f,hf⟩:∃ f,lim-n=f+1:=⟨lim-n-1,by omega⟩
 rw [hf,extC,if_pos ⟨h,he⟩,show lim-(n+1)=f by omega]
theorem zOn {s:Str} {i p lim n:Nat} (h:¬ (n<lim/\s[i+n]? =s[p+n]?)):extN s i p lim n=n:=by
 unfold extN;cases hf:lim-n with
 | zero=>rfl
 | succ f=>rw [extC,if_neg h]
theorem zTF (s:Str) (i p lim:Nat):extC s i p lim lim 4=extN s i p lim 4:=zLw _ _ _ _ _ _ _ (by omega) (by omega)
theorem zSl (l:List Nat) (c p:Nat) (h:l[c]? =some p):(l.take (c+1)).reverse=p::(l.take c).reverse:=by
 rw [List.take_add_one,h];simp
theorem zG8 {nx:Nat} {ob:List (Nat × Option Ob)} (wid mid:Nat) (s:Str) (i:Nat) (L:List Nat) (hw:Win s i ob nx wid mid L) (hi:i<s.length) (hs:s.length<=100000) :
  InlC prog 187 [.ptr wid 3 0 0,.int .i64 i] nx ob fun r nx' ob'=>r=.tup [.int .i64 (zBv s i).1,.int .i64 (zBv s i).2]/\nx'=nx/\ob'=ob:=by
 obtain ⟨hW,rows,hM,hR⟩:=hw;have hk0:=hR.keys;by_cases hm4:i+4<=s.length
 ·have hmt:zBv s i=zEK s i (limC s i) (zBS s i (grpB s i)).reverse (0,0):=by unfold zBv;rw [if_pos hm4]
  rw [hmt];have hlim:4<=limC s i/\limC s i<=67/\limC s i<=s.length-i:=by unfold limC;omega
  have hl1:(if (s.length:Int)-i<67 then (s.length:Int)-i else 67)=(limC s i:Nat):=by unfold limC;split<;>omega
  have w0:IntKind.i64.wrap ((s.length:Int)-i)=(s.length:Int)-i:=zAA (by omega) (by omega)
  generalize limC s i=lim at *
  refine InlC.of func187 rfl (by kernel_rfl) rfl ?_
  simp only [ntmps187,St.startI,argT];refine au1 (kX2 @hW @hM) ?_;(repeat intro K hK);apply wr
  first|refine .inr ((zBp wid s (.omap mid) i i hm4 hs hW).mono fun r nx' ob' hp=>?_)|refine (zBp wid s (.omap mid) i i hm4 hs hW).mono fun r nx' ob' hp=>?_|refine ((zBp wid s (.omap mid) i i hm4 hs hW).mono fun r nx' ob' hp=>?_).2
  simp only [aftI];obtain ⟨rfl,rfl,rfl⟩:=hp;simp;refine au ?_;(repeat intro K hK);apply wr
  refine cF0 rfl ?_;generalize hkey:grpB s i=key at *
  cases hg:mget key rows with
  | none =>
   have h0:=hR.none _ hg;have wn:IntKind.i64.wrap (-1)=-1:=by decide
   refine au1 (kX7 @hW @hM @hg @hk0 @w0 @hl1 @wn) ?_;(repeat intro K hK);apply wr
   refine zAX 1 ?_;refine zAk fun K hK=>?_
   refine au1 @wn ?_;(repeat intro K hK);apply wr
   refine gF10 @wn rfl ?_;(repeat intro K hK);apply wr
   refine zAB ?_;simp [h0,zEK]
  | some cs =>
   obtain ⟨id,rfl,hidL,hido,-⟩:=hR.get _ _ hg;have hll:=zMh s i key;have hnl:=zGt (zBS s i key);have hmem:∀ p,p∈zBS s i key->p<i:=fun p hp=>(zMi hp).1
   generalize zBS s i key=l at *
   have w1:IntKind.i64.wrap ((l.length:Int)-1)=(l.length:Int)-1:=zAA (by omega) (by omega)
   refine au1 (kX9 @hW @hM @hg @hk0 @hido @hnl @w0 @w1 @hl1) ?_;(repeat intro K hK);apply wr
   refine zAX (l.length+1) ?_;refine zA5 (fun c st=>∃ (T:List (Nat × V)) (d n:Nat),c<=l.length/\st=⟨87,T,nx',ob',nx'⟩/\(lkT T 0=.ptr wid 3 0 0/\lkT T 1=.int .i64 i/\lkT T 8=.int .i64 lim/\lkT T 9=.int .i64 d/\lkT T 10=.int .i64 n/\lkT T 11=.own id/\lkT T 12=.int .i64 ((c:Int)-1))/\zEK s i lim (l.take c).reverse (d,n)=zEK s i lim l.reverse (0,0)/\n<=67) ?_ _ _ ⟨_,0,0,zV9 _,rfl,by simp [lkT],by rw [List.take_length],by omega⟩
   rintro c st ⟨T,d,n,hc,rfl,⟨t0,t1,t8,t9,t10,t11,t12⟩,hE,hn67⟩ Kl hKl
   refine zBV [(0,.ptr wid 3 0 0),(1,.int .i64 i),(8,.int .i64 lim),(9,.int .i64 d),(10,.int .i64 n),(11,.own id),(12,.int .i64 ((c:Int)-1))] (by simp [t0,t1,t8,t9,t10,t11,t12]) ?_
   by_cases hgo:0<c/\n<lim
   ·obtain ⟨hc0,hnl2⟩:=hgo;have c1:(0:Int)<=(c:Int)-1:=by omega
    have c2:(n:Int)<lim:=by omega
    have c3:¬ (c:Int)<1:=by omega
    have c4:(1:Int)<=c:=by omega
    refine au1 (kX4 @c1 @c2 @c3 @c4) ?_;(repeat intro K hK);apply wr
    refine cT1 (kX5 @c1 @c2 @c3 @c4 @hnl2) rfl ?_;obtain ⟨p,hp⟩:∃ p,l[c-1]? =some p:=⟨_,zV3 (by omega)⟩
    have hpi:=hmem p (zWA hp);have htr:=zSl l (c-1) p hp;rw [show c-1+1=c by omega] at htr
    have wt:((c:Int)-1).toNat=c-1:=by omega
    have wk:IntKind.i64.wrap ((c:Int)-1-1)=((c-1:Nat):Int)-1:=by rw [zAA (by omega) (by omega)];omega
    have wd:IntKind.i64.wrap ((i:Int)-p)=((i-p:Nat):Int):=by rw [zAA (by omega) (by omega)];omega
    have cl:(c:Int)-1<l.length:=by omega
    refine au ?_;(repeat intro K hK);apply wr
    have rest:∀ (T2:List (Nat × V)) (m:Nat),(lkT T2 0=.ptr wid 3 0 0/\lkT T2 1=.int .i64 i/\lkT T2 8=.int .i64 lim/\lkT T2 9=.int .i64 d/\lkT T2 10=.int .i64 n/\lkT T2 11=.own id/\lkT T2 12=.int .i64 ((c:Int)-1)/\lkT T2 13=.int .i64 m)->m=extN s i p lim 4->m<=67->K ⟨87,T2,nx',ob',nx'⟩:=by
     intro T2 m ⟨u0,u1,u8,u9,u10,u11,u12,u13⟩ hm hm67
     refine hK _ ?_;refine zBV [(0,.ptr wid 3 0 0),(1,.int .i64 i),(8,.int .i64 lim),(9,.int .i64 d),(10,.int .i64 n),(11,.own id),(12,.int .i64 ((c:Int)-1)),(13,.int .i64 m)] (by simp [u0,u1,u8,u9,u10,u11,u12,u13]) ?_
     refine au ?_;(repeat intro K hK);apply wr
     by_cases hmn:n<m
     ·refine gT11 @hmn rfl (kX7 @hido @hp @wt @cl @c1 @wd @wk) ?_;(repeat intro K hK);apply wr
      refine hKl (c-1) _ (by omega) ⟨_,i-p,m,by omega,rfl,by simp [lkT],?_,hm67⟩
      rw [<- hE,htr,zEK,if_pos hnl2,zTF,<- hm,if_pos hmn]
     refine gF11 @hmn rfl @wk ?_;(repeat intro K hK);apply wr
     refine hKl (c-1) _ (by omega) ⟨_,d,n,by omega,rfl,by simp [lkT],?_,hn67⟩
     rw [<- hE,htr,zEK,if_pos hnl2,zTF,<- hm,if_neg hmn]
    clear hK;refine zAX (lim-4+1) ?_;refine zA5 (fun q st=>∃ (T2:List (Nat × V)) (m:Nat),m+q=lim/\st=⟨87,T2,nx',ob',nx'⟩/\(lkT T2 0=.ptr wid 3 0 0/\lkT T2 1=.int .i64 i/\lkT T2 8=.int .i64 lim/\lkT T2 9=.int .i64 d/\lkT T2 10=.int .i64 n/\lkT T2 11=.own id/\lkT T2 12=.int .i64 ((c:Int)-1)/\lkT T2 13=.int .i64 m)/\extN s i p lim m=extN s i p lim 4) ?_ _ _ ⟨_,4,by omega,rfl,by simp [lkT],rfl⟩
    rintro q st ⟨T2,m,hq,rfl,⟨u0,u1,u8,u9,u10,u11,u12,u13⟩,hEx⟩ Ki hKi
    refine zBV [(0,.ptr wid 3 0 0),(1,.int .i64 i),(8,.int .i64 lim),(9,.int .i64 d),(10,.int .i64 n),(11,.own id),(12,.int .i64 ((c:Int)-1)),(13,.int .i64 m)] (by simp [u0,u1,u8,u9,u10,u11,u12,u13]) ?_
    refine au ?_;(repeat intro K hK);apply wr
    by_cases hml:m<lim
    ·obtain ⟨x,hx⟩:∃ x,s[i+m]? =some x:=⟨_,zV3 (by omega)⟩
     obtain ⟨y,hy⟩:∃ y,s[p+m]? =some y:=⟨_,zV3 (by omega)⟩
     have m1:(m:Int)<lim:=by omega
     have m2:IntKind.i64.wrap ((i:Int)+m)=((i+m:Nat):Int):=by rw [zAA (by omega) (by omega)];omega
     have m3:IntKind.i64.wrap ((p:Int)+m)=((p+m:Nat):Int):=by rw [zAA (by omega) (by omega)];omega
     have m4:(i:Int)+m<s.length:=by omega
     have m5:(p:Int)+m<s.length:=by omega
     have m6:IntKind.i64.wrap ((m:Int)+1)=((m+1:Nat):Int):=by rw [zAA (by omega) (by omega)];omega
     have m7:((i:Int)+m).toNat=i+m:=by omega
     have m8:((p:Int)+m).toNat=p+m:=by omega
     refine zAE 25 [0,0,3,7,15,31,63,127,15,15,783,2047,15,4111,12303,28687,15,15,196623,458767,15,2031631,4190223,8388607,16777215] [(2,([[],[]],[])),(1,([],[])),(1,([],[])),(19,([[],[0],[0,1],[0,1,2],[],[],[4,5],[0,1,2,3,4,5,6],[],[8],[8,9],[8,9,10],[],[],[12,13],[12,13,14],[],[12,13,14,15,16],[8,9,10,11,12,13,14,15,16,17]],[])),(1,([],[])),(1,([],[]))] ?_;refine af1 (kX16 @hW @hido @hml @m1 @m2 @m3 @m4 @m5 @hx @hy @hp @wt @cl @c1 @m7 @m8) ?_;(repeat intro K hK);apply wr
     by_cases hxy:x=y
     ·refine zCw @hxy rfl @m6 ?_;(repeat intro K hK);apply wr
      refine hKi (q-1) _ (by omega) ⟨_,m+1,by omega,rfl,by simp [lkT],?_⟩
      rw [<- hEx,zUZ hml (by rw [hx,hy,hxy])]
     have hne:¬ (x.toNat:Int)=y.toNat:=fun e=>hxy (UInt8.toNat_inj.1 (by omega))
     have hne2:((x.toNat:Int)==(y.toNat:Int))=false:=by simpa using hne
     have hne3:¬ x.toNat=y.toNat:=by omega
     refine zBO (kX4 @hne @hne2 @hne3 @hxy) rfl ?_;(repeat intro K hK);apply wr
     exact rest _ m (by simp [lkT]) (by rw [<- hEx,zOn (fun z=>hxy (by have:=z.2;rw [hx,hy] at this;simpa using this))]) (by omega)
    have m1:¬ (m:Int)<lim:=by omega
    refine zAE 25 [0,0,3,7,15,31,63,127,15,15,783,2047,15,4111,12303,28687,15,15,196623,458767,15,2031631,4190223,8388607,16777215] [(2,([[],[]],[])),(1,([],[])),(1,([],[])),(19,([[],[0],[0,1],[0,1,2],[],[],[4,5],[0,1,2,3,4,5,6],[],[8],[8,9],[8,9,10],[],[],[12,13],[12,13,14],[],[12,13,14,15,16],[8,9,10,11,12,13,14,15,16,17]],[])),(1,([],[])),(1,([],[]))] ?_;refine af1 (kX8 @hW @hido @hml @m1 @hp @wt @cl @c1) ?_;(repeat intro K hK);apply wr
    refine zBO (kX2 @hml @m1) rfl ?_;(repeat intro K hK);apply wr
    exact rest _ m (by simp [lkT]) (by rw [<- hEx,zOn (fun z=>hml z.1)]) (by omega)
   have hres:zEK s i lim (l.take c).reverse (d,n)=(d,n):=by
    by_cases h0:c=0
    ·subst h0;rfl
    exact zOE _ _ _ _ _ (fun z=>hgo ⟨by omega,z⟩)
   rw [hE] at hres;have c1:¬ ((0:Int)<=(c:Int)-1/\(n:Int)<lim):=by omega
   refine af ?_;(repeat intro K hK);apply wr
   refine zAC rfl (fun hh=>?_) (fun hh=>?_)
   ·exfalso
    simp at hh;omega
   refine af ?_;(repeat intro K hK);apply wr
   refine zAB ?_;simp [hres]
 have hmt:zBv s i=(0,0):=by unfold zBv;rw [if_neg hm4]
 rw [hmt];refine InlC.of func187 rfl (by kernel_rfl) rfl ?_
 simp only [ntmps187,St.startI,argT];refine af1 (kX2 @hW @hM) ?_;(repeat intro K hK);apply wr
 first|refine .inr ((zBX wid s (.omap mid) i (i:Int) (by omega) (by omega) (by omega) hs hW).mono fun r nx' ob' hp=>?_)|refine (zBX wid s (.omap mid) i (i:Int) (by omega) (by omega) (by omega) hs hW).mono fun r nx' ob' hp=>?_|refine ((zBX wid s (.omap mid) i (i:Int) (by omega) (by omega) (by omega) hs hW).mono fun r nx' ob' hp=>?_).2
 simp only [aftI];obtain ⟨rfl,rfl,rfl⟩:=hp;simp;refine af ?_;(repeat intro K hK);apply wr
 refine zOy rfl ?_;(repeat intro K hK);apply wr
 refine zAB ?_;simp
theorem zR5 {s:Str} (c i st:Nat) (out:Str) (h:¬ i<s.length):zFw s c i st out=out++litC (s.drop st):=by
 cases c with
 | zero=>rfl
 | succ c=>unfold zFw;rw [if_neg h]
theorem zLk (s:Str):(zAL s).map zDW=s:=by
 induction s with
 | nil=>rfl
 | cons b s ih =>
  have:zAL (b::s)=[V.int .u8 (b.toNat:Int)]::zAL s:=rfl;rw [this,zWP,ih]
  congr 1
  simp [zDW]
theorem zS4 (s:Str):∀ y∈zAL s,zB0 y:=fun y hy=>by
 obtain ⟨b,-,rfl⟩:=List.mem_map.1 hy;exact ⟨b,rfl⟩
theorem zT7 (s:Str) (hs:s.length<=100000):zAD prog 139 [.str s] (.str (zEP s)):=by
 refine sX func139 ntmps139 ?_;intros;apply wr;refine zAT 4 5 1 (by decide) rfl ?_
 simp;refine zAX (s.length+1) ?_;refine zA5 (fun c stt=>∃ (T:List (Nat × V)) (i st wn:Nat) (out:Str) (id nx:Nat) (o:List (Nat × Option Ob)) (L:List Nat),stt=⟨54,T,nx,o,0⟩/\(lkT T 0=.str s/\lkT T 3=.ptr 1 3 0 0/\lkT T 6=.int .i64 i/\lkT T 5=.int .i64 st/\lkT T 4=.own id)/\(i<=s.length/\st<=i/\s.length<=i+c/\wn<=i)/\zFw s c i st out=zEP s/\Win s wn o nx 1 0 L/\(lookO o id=some (byO out)/\id ∉ L/\2<=id/\id<nx)/\out.length<=2*st) ?_ _ _ ⟨_,0,0,0,[],2,3,_,[],rfl,by simp [lkT],by omega,rfl,⟨by simp [lookO],[],by simp [lookO],⟨by simp [mkeys],by simp [mnd],by simp [mget,midx],by simp [zBS],by simp [mget,midx],by simp⟩⟩,by simp [lookO,zAL],by simp⟩
 rintro c stt ⟨T,i,st,wn,out,id,nx,o,L,rfl,⟨t0,t3,t6,t5,t4⟩,⟨b1,b2,b3,b4⟩,hE,hW,⟨hid,hidL,hid2,hidn⟩,hol⟩ Kl hKl
 refine zBV [(0,.str s),(3,.ptr 1 3 0 0),(6,.int .i64 i),(5,.int .i64 st),(4,.own id)] (by simp [t0,t3,t6,t5,t4]) ?_
 by_cases hlt:i<s.length
 ·have c1:(i:Int)<s.length:=by omega
  obtain ⟨f,rfl⟩:∃ f,c=f+1:=⟨c-1,by omega⟩
  refine au ?_;intros;apply wr;refine gT10 (kX2 @hlt @c1) rfl ?_;intros;apply wr
  first|refine .inr ((zI0 1 0 s wn i L hW b4 b1 hs ⟨by omega,by omega,by decide⟩).mono fun r nx' ob' hp=>?_)|refine (zI0 1 0 s wn i L hW b4 b1 hs ⟨by omega,by omega,by decide⟩).mono fun r nx' ob' hp=>?_|refine ((zI0 1 0 s wn i L hW b4 b1 hs ⟨by omega,by omega,by decide⟩).mono fun r nx' ob' hp=>?_).2
  simp only [aftI];obtain ⟨rfl,hn1,L1,hW1,hL1,hq1⟩:=hp;have hid1:lookO ob' id=some (byO out):=by rw [hq1 id hidn hidL (by omega) (by omega)];exact hid
  have hidL1:id ∉ L1:=fun z=>by
   rcases hL1 id z with z|z
   ·exact hidL z
   omega
  clear hq1 hW hid hidL;simp;refine au ?_;intros;apply wr
  first|refine .inr ((zG8 1 0 s i L1 hW1 hlt hs).mono fun r nx' ob' hp=>?_)|refine (zG8 1 0 s i L1 hW1 hlt hs).mono fun r nx' ob' hp=>?_|refine ((zG8 1 0 s i L1 hW1 hlt hs).mono fun r nx' ob' hp=>?_).2
  simp only [aftI];obtain ⟨rfl,rfl,rfl⟩:=hp;have hmo:=zIo s i;rw [zFw,if_pos hlt] at hE;generalize zBv s i=dl at *
  obtain ⟨d,l⟩:=dl;simp only at hmo hE;simp;refine au ?_;intros;apply wr;by_cases hl0:l=0
  ·subst hl0;have w1:IntKind.i64.wrap ((i:Int)+1)=((i+1:Nat):Int):=by rw [zAA (by omega) (by omega)];omega
   rw [if_pos rfl] at hE;refine gT01 rfl @w1 ?_;intros;apply wr;exact hKl f _ rfl ⟨_,i+1,st,i,out,id,_,_,L1,rfl,by simp [lkT],by omega,hE,hW1,⟨hid1,hidL1,hid2,by omega⟩,hol⟩
  rw [if_neg hl0] at hE;rcases hmo with hmo|hmo
  ·exact absurd hmo hl0
  obtain ⟨l4,l67,il,d1,d255,di,-⟩:=hmo;have hli:(litC ((s.take i).drop st)).length<=2*(i-st):=by
   refine zWR (zIh _ _) ?_;rw [zWF,zWE];omega
  refine gF10 @hl0 rfl ?_;intros;apply wr
  first|refine .inr ((zD9 id out ((s.take i).drop st) hid1 (by omega) (by omega) (by rw [zWF,zWE];omega)).mono fun r nx' ob' hp=>?_)|refine (zD9 id out ((s.take i).drop st) hid1 (by omega) (by omega) (by rw [zWF,zWE];omega)).mono fun r nx' ob' hp=>?_|refine ((zD9 id out ((s.take i).drop st) hid1 (by omega) (by omega) (by rw [zWF,zWE];omega)).mono fun r nx' ob' hp=>?_).2
  simp only [aftI];obtain ⟨id',rfl,ho',hn2,hid'n,hid'o,hq2⟩:=hp;simp;have hsid:id' ∉ L1:=fun z=>by
   rcases hid'o with rfl|h
   ·exact hidL1 z
   obtain ⟨-,rows,-,hR⟩:=hW1;have:=(hR.ids id' z).1;omega
  obtain ⟨hWw,rows,hWm,hR⟩:=hW1;have hW2:lookO ob' 1=some (cwO s (.omap 0) i):=by rw [hq2 1 (by omega) (by omega)];exact hWw
  have hM2:lookO ob' 0=some (cmO rows):=by rw [hq2 0 (by omega) (by omega)];exact hWm
  have hR2:WRows s (zBS s i) ob' nx' 1 0 rows L1:=hR.congr (fun q hq=>hq2 q (hR.ids q hq).1 (fun e=>hidL1 (e ▸ hq))) hn2 (fun _=>rfl)
  clear hWw hWm hR hq2;obtain ⟨x,hx'⟩:∃ x,x=UInt8.ofNat (124+l):=⟨_,rfl⟩;obtain ⟨y,hy'⟩:∃ y,y=UInt8.ofNat d:=⟨_,rfl⟩;have hx:x.toNat=124+l:=by rw [hx'];exact zEy (by omega)
  have hy:y.toNat=d:=by rw [hy'];exact zEy (by omega)
  have w1:IntKind.i64.wrap (124+(l:Int))=124+(l:Int):=zAA (by omega) (by omega)
  have w2:IntKind.u8.wrap (124+(l:Int))=(x.toNat:Int):=by rw [hx,IntKind.wrap_u8];omega
  have w3:IntKind.u8.wrap (d:Int)=(y.toNat:Int):=by rw [hy,IntKind.wrap_u8];omega
  have w4:IntKind.i64.wrap ((i:Int)+l)=((i+l:Nat):Int):=by rw [zAA (by omega) (by omega)];omega
  have d1:¬ id'=nx':=by omega
  have d2:¬ nx'=id':=by omega
  have hP:(zAL (out++litC ((s.take i).drop st))).length<=400000:=by rw [zIN,zV7];omega
  have hP2:(zAL (out++litC ((s.take i).drop st))).length<=9223372036854775805:=by omega
  have hP3:(zAL (out++litC ((s.take i).drop st))).length<=140737488355326:=by omega
  have hap:zAL (out++litC ((s.take i).drop st))++[[V.int .u8 (x.toNat:Int)],[V.int .u8 (y.toNat:Int)]]=zAL (out++litC ((s.take i).drop st)++[x,y]):=by simp [zAL]
  rw [<- hx',<- hy'] at hE;have hlE:(out++litC ((s.take i).drop st)++[x,y]).length<=2*(i+l):=by
   simp only [zV7,zWG,List.length_nil];omega
  obtain ⟨out2,ho2⟩:∃ out2,out2=out++litC ((s.take i).drop st)++[x,y]:=⟨_,rfl⟩;rw [<- ho2] at hE hlE hap;refine au1 (kX11 @ho' @maxLen.eq_1 @w1 @w2 @w3 @w4 @d1 @d2 @hP2 @hP3 @hap) ?_;intros;apply wr;refine hKl f _ rfl ⟨_,i+l,i+l,i,out2,nx'+1,_,_,L1,rfl,by simp [lkT],by omega,hE,⟨by simp [lookO,show ¬ nx'=0 by omega,show ¬ 1=nx' by omega,show ¬ 1=nx'+1 by omega,show ¬ 1=id' by omega,hW2],rows,by simp [lookO,show ¬ nx'=0 by omega,show ¬ id'=0 by omega,show ¬ 0=nx' by omega,show ¬ 0=id' by omega,hM2],hR2.congr (fun q hq=>?_) (by omega) (fun _=>rfl)⟩,⟨by simp [lookO],fun z=>?_,by omega,by omega⟩,hlE⟩
  ·have a:=(hR2.ids q hq).1;simp [lookO,show ¬ q=nx' by omega,show ¬ q=nx'+1 by omega,show ¬ q=id' from fun e=>hsid (e ▸ hq)]
  have a:=(hR2.ids _ z).1;omega
 rw [zR5 _ _ _ _ hlt] at hE;refine au ?_;intros;apply wr;refine gF10 @hlt rfl ?_;intros;apply wr
 first|refine .inr ((zD9 id out (s.drop st) hid hidn (by omega) (by rw [zWF];omega)).mono fun r nx' ob' hp=>?_)|refine (zD9 id out (s.drop st) hid hidn (by omega) (by rw [zWF];omega)).mono fun r nx' ob' hp=>?_|refine ((zD9 id out (s.drop st) hid hidn (by omega) (by rw [zWF];omega)).mono fun r nx' ob' hp=>?_).2
 simp only [aftI];obtain ⟨id',rfl,ho',-⟩:=hp;rw [hE] at ho';have hbk:=zLk (zEP s);have hbi:=zS4 (zEP s);simp [ho',hbk];refine ⟨hbi,?_⟩;refine au ?_;intros;apply wr;refine zAB ?_;simp
theorem zE0:∀ (f:Nat) (t o x:Str),unpF f t o=some x->o.length<=x.length
 | 0,_,_,_,h=>by simp [unpF] at h
 | f+1,[],o,x,h=>by simp [unpF] at h;subst h;exact zV9 _
 | f+1,c::t,o,x,h=>by
  rw [zEz] at h;split at h
  ·split at h
   ·cases h
   have:=zE0 f _ _ _ h;rw [zV7] at this;omega
  split at h
  ·cases t with
   | nil=>simp at h
   | cons d t' =>
    simp only at h;split at h
    ·cases h
    have:=zE0 f _ _ _ h;rw [zIP] at this;omega
  cases h
theorem zOI {s:Str} {i:Nat} {b:UInt8} (h:s[i]? =some b):(zAL s)[i]? =some [.int .u8 (b.toNat:Int)]:=by simp [zAL,h]
theorem unp_ok (t x:Str) (most:Int) (f:Nat) (hu:unpF f t []=some x) (ht:t.length<=400000) (hx:(x.length:Int)<=most) (hm:most<=1000000):zAD prog 192 [.str t,iv most] (.tup [.str x,iv 0]):=by
 have hx0:x.length<=1000000:=by omega
 have hmx:(if most<0 then 0 else most)=most:=by split<;>omega
 have hmx2:(if (0:Int)<most then most else 0)=most:=by split<;>omega
 refine sX func192 ntmps192 ?_;intros;apply wr;refine au1 (kX2 @hmx @hmx2) ?_;intros;apply wr;refine zAT 6 5 1 (by decide) rfl ?_
 refine zAX (t.length+1) ?_;refine zA5 (fun c stt=>∃ (T:List (Nat × V)) (i g:Nat) (out:Str) (id nx:Nat) (o:List (Nat × Option Ob)),stt=⟨97,T,nx,o,0⟩/\(lkT T 0=.str t/\lkT T 1=iv most/\lkT T 7=.int .i64 i/\lkT T 6=.own id)/\(i<=t.length/\t.length<=i+c)/\unpF g (t.drop i) out=some x/\lookO o id=some (byO out)/\id<nx) ?_ _ _ ⟨_,0,f,[],0,1,_,rfl,by simp [lkT];omega,by omega,hu,by simp [lookO,zAL],by omega⟩
 rintro c stt ⟨T,i,g,out,id,nx,o,rfl,⟨t0,t1,t7,t6⟩,⟨b1,b2⟩,hE,hid,hidn⟩ Kl hKl
 refine zBV [(0,.str t),(1,iv most),(7,.int .i64 i),(6,.own id)] (by simp [t0,t1,t7,t6]) ?_
 have hol:=zE0 _ _ _ _ hE;have hbl:=zIN out;by_cases hlt:i<t.length
 ·have c1:(i:Int)<t.length:=by omega
  obtain ⟨e,rfl⟩:∃ e,c=e+1:=⟨c-1,by omega⟩
  obtain ⟨g',rfl⟩:∃ g',g=g'+1:=by
   cases g with
   | zero=>simp [unpF] at hE
   | succ g'=>exact ⟨g',rfl⟩
  obtain ⟨b,hb,hd⟩:=zDz hlt;rw [hd,zEz] at hE;have hb8:=b.toNat_lt;have w1:IntKind.i64.wrap ((i:Int)+1)=(i:Int)+1:=zAA (by omega) (by omega)
  have w2:IntKind.i64.wrap (b.toNat:Int)=b.toNat:=zAA (by omega) (by omega)
  refine au ?_;intros;apply wr;refine gT11 (kX2 @hlt @c1) rfl (kX4 @hb @c1 @w1 @w2) ?_;intros;apply wr;have hdl:(t.drop (i+1)).length=t.length-(i+1):=zWF;by_cases hl:b.toNat<128
  ·have c2:(b.toNat:Int)<128:=by omega
   rw [if_pos hl] at hE;split at hE
   ·cases hE
   rename_i hsh;have hl2:=zE0 _ _ _ _ hE;rw [zV7,zWE,hdl,Nat.min_eq_left (by omega)] at hl2
   have w3:IntKind.i64.wrap ((b.toNat:Int)+1)=(b.toNat:Int)+1:=zAA (by omega) (by omega)
   have w4:IntKind.i64.wrap ((t.length:Int)-((i:Int)+1))=(t.length:Int)-((i:Int)+1):=zAA (by omega) (by omega)
   have c3:¬ (t.length:Int)-((i:Int)+1)<(b.toNat:Int)+1:=by omega
   have w5:IntKind.i64.wrap ((out.length:Int)+((b.toNat:Int)+1))=(out.length:Int)+((b.toNat:Int)+1):=zAA (by omega) (by omega)
   have c4:¬ most<(out.length:Int)+((b.toNat:Int)+1):=by omega
   have w6:IntKind.i64.wrap ((i:Int)+1+((b.toNat:Int)+1))=(i:Int)+1+((b.toNat:Int)+1):=zAA (by omega) (by omega)
   have c5:((i:Int)+1+((b.toNat:Int)+1)).toNat=i+1+(b.toNat+1):=by omega
   have c6:((i:Int)+1).toNat=i+1:=by omega
   have c7:(0:Int)<=(i:Int)+1:=by omega
   have c8:(i:Int)+1<=(i:Int)+1+((b.toNat:Int)+1):=by omega
   have c9:(i:Int)+1+((b.toNat:Int)+1)<=t.length:=by omega
   have hsl:(t.take (i+1+(b.toNat+1))).drop (i+1)=(t.drop (i+1)).take (b.toNat+1):=by rw [List.drop_take];congr 1;omega
   have hmn:min (i+1+(b.toNat+1)) t.length-(i+1)=b.toNat+1:=by omega
   have hml:out.length+(b.toNat+1)<=maxLen:=by simp [maxLen];omega
   refine gT11 (kX2 @hl @c2) rfl (kX2 @w3 @w4) ?_;intros;apply wr;refine gF11 @c3 rfl (kX3 @hid @hbl @w5) ?_;intros;apply wr;refine gF11 @c4 rfl (kX11 @hid @hbl @w6 @c5 @c6 @c7 @c8 @c9 @hml @hmn @hsl) ?_;intros;apply wr;refine hKl e _ rfl ⟨_,i+1+(b.toNat+1),g',out++(t.drop (i+1)).take (b.toNat+1),nx,nx+1,_,rfl,by simp [lkT],⟨by omega,by omega⟩,?_,by simp [lookO,zKo],by omega⟩
   rw [<- hE,List.drop_drop]
  have c2:¬ (b.toNat:Int)<128:=by omega
  rw [if_neg hl] at hE;split at hE
  case isFalse=>cases hE
  rename_i hl2;have c3:(b.toNat:Int)<=191:=by omega
  obtain ⟨hi1,d,hd'⟩:i+1<t.length/\∃ d,t[i+1]? =some d:=by
   by_cases hi:i+1<t.length
   ·exact ⟨hi,_,zV3 hi⟩
   rw [List.drop_eq_nil_of_le (by omega)] at hE;simp at hE
  obtain ⟨d',hd2,hd3⟩:=zDz hi1;obtain rfl:d=d':=by rw [hd'] at hd2;exact Option.some.inj hd2
  rw [hd3] at hE;simp only at hE;split at hE
  ·cases hE
  rename_i hdd;have hl2:=zE0 _ _ _ _ hE;rw [zIP] at hl2;have hd8:=d.toNat_lt;have hbd:=zOI hd';have c4:((i:Int)+1==(t.length:Int))=false:=by simp;omega
  have c5:¬ (i:Int)+1=t.length:=by omega
  have c6:((i:Int)+1).toNat=i+1:=by omega
  have c7:(0:Int)<=(i:Int)+1:=by omega
  have c8:(i:Int)+1<t.length:=by omega
  obtain ⟨n,hn⟩:∃ n,n=b.toNat-124:=⟨_,rfl⟩;rw [<- hn] at hE hl2;have w3:IntKind.i64.wrap ((b.toNat:Int)-124)=(n:Int):=by rw [zAA (by omega) (by omega)];omega
  have w4:IntKind.i64.wrap ((i:Int)+1+1)=(i:Int)+1+1:=zAA (by omega) (by omega)
  have w5:IntKind.i64.wrap (d.toNat:Int)=d.toNat:=zAA (by omega) (by omega)
  have c9:((d.toNat:Int)==0)=false:=by simp;omega
  have c10:¬ (out.length:Int)<d.toNat:=by omega
  have c11:¬ (d.toNat:Int)=0:=by omega
  have w6:IntKind.i64.wrap ((out.length:Int)+(n:Int))=(out.length:Int)+(n:Int):=zAA (by omega) (by omega)
  have c12:¬ most<(out.length:Int)+(n:Int):=by omega
  refine gF10 (kX2 @hl @c2) rfl ?_;intros;apply wr;refine gT10 (kX2 @c3 @hl2) rfl ?_;intros;apply wr;refine gF10 (kX2 @c4 @c5) rfl ?_;intros;apply wr;refine zAE 8 [0,1,0,0,12,28,3,127] [(7,([[],[0],[],[],[2,3],[2,3,4],[0,1]],[])),(1,([],[]))] ?_;refine af1 (kX10 @hd' @hbd @c6 @c7 @c8 @w3 @w4 @w5 @hid @hbl) ?_;intros;apply wr;refine af1 (kX10 @hd' @hbd @c6 @c7 @c8 @w3 @w4 @w5 @hid @hbl) ?_;intros;apply wr;have c13:¬ out.length<d.toNat:=by omega
  refine zEH (kX4 @c9 @c10 @c11 @c13) rfl (kX3 @hid @hbl @w6) ?_;intros;apply wr;refine zBO @c12 rfl ?_;intros;apply wr;refine zAX (n+1) ?_;refine zA5 (fun q st=>∃ (T2:List (Nat × V)) (k:Nat) (O:Str) (id2 nx2:Nat) (o2:List (Nat × Option Ob)),k+q=n/\st=⟨97,T2,nx2,o2,0⟩/\(lkT T2 0=.str t/\lkT T2 1=iv most/\lkT T2 7=.int .i64 ((i:Int)+1+1)/\lkT T2 6=.own id2/\lkT T2 11=.int .i64 d.toNat/\lkT T2 81=.int .i64 n/\lkT T2 82=.int .i64 k)/\O.length=out.length+k/\zGV q d.toNat O=zGV n d.toNat out/\lookO o2 id2=some (byO O)/\id2<nx2) ?_ _ _ ⟨_,0,out,id,nx,_,by omega,rfl,by simp [lkT],by omega,rfl,hid,hidn⟩
  rintro q st ⟨T2,k,O,id2,nx2,o2,hkq,rfl,⟨u0,u1,u7,u6,u11,u81,u82⟩,hO,hC,hid2,hn2⟩ Ki hKi
  refine zBV [(0,.str t),(1,iv most),(7,.int .i64 ((i:Int)+1+1)),(6,.own id2),(11,.int .i64 d.toNat),(81,.int .i64 n),(82,.int .i64 k)] (by simp [u0,u1,u7,u6,u11,u81,u82]) ?_
  have hbl2:=zIN O;refine af ?_;intros;apply wr;by_cases hkn:k<n
  ·have k1:(k:Int)<n:=by omega
   obtain ⟨q',rfl⟩:∃ q',q=q'+1:=⟨q-1,by omega⟩
   obtain ⟨y,hy⟩:∃ y,O[O.length-d.toNat]? =some y:=⟨_,zV3 (by omega)⟩
   have hby:=zOI hy;have v1:IntKind.i64.wrap ((O.length:Int)-d.toNat)=(O.length:Int)-d.toNat:=zAA (by omega) (by omega)
   have v2:(0:Int)<=(O.length:Int)-d.toNat:=by omega
   have v3:(O.length:Int)-d.toNat<O.length:=by omega
   have v4:((O.length:Int)-d.toNat).toNat=O.length-d.toNat:=by omega
   have v5:IntKind.i64.wrap ((k:Int)+1)=(k:Int)+1:=zAA (by omega) (by omega)
   have d1:¬ nx2=id2:=by omega
   have d2:¬ id2=nx2:=by omega
   refine zCw (kX2 @k1 @hkn) rfl (kX14 @hid2 @hbl2 @maxLen.eq_1 @v1 @v2 @v3 @v4 @v5 @hy @hby @d1 @d2 @zOJ @zKo) ?_;intros;apply wr;refine hKi q' _ rfl ⟨_,k+1,O++[y],nx2+1,nx2+1+1,_,by omega,rfl,by simp [lkT],by simp;omega,?_,by simp [lookO],by omega⟩
   rw [<- hC,zGV,zV1,hy];rfl
  have k1:¬ (k:Int)<n:=by omega
  obtain rfl:q=0:=by omega
  rw [zGV] at hC;refine zBO (kX2 @k1 @hkn) rfl ?_;intros;apply wr;refine hKl e _ rfl ⟨_,i+2,g',O,id2,nx2,_,rfl,by simp [lkT];omega,⟨by omega,by omega⟩,?_,hid2,hn2⟩
  rw [hC];exact hE
 have he:t.drop i=[]:=List.drop_eq_nil_of_le (by omega)
 have hox:out=x:=by
  cases g with
  | zero=>simp [unpF] at hE
  | succ g=>rw [he] at hE;simpa [unpF] using hE
 subst hox;have hbk:=zLk out;have hbi:=zS4 out;refine af ?_;intros;apply wr;refine zEH @hlt rfl (kX2 @hid @hbk) ?_;intros;apply wr;refine zAB ?_;simp
end Go.Proofs.YthjpcmecgjfilaaGreat
end
