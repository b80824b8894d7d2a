/- A part of the proof of ReplicaFollows. -/
import Derived.Test.YthjpcmecgjfilaaGreatB07
import Derived.Test.YthjpcmecgjfilaaGreatB14
import Derived.Test.YthjpcmecgjfilaaGreatB15
import Derived.Lib.AppendZerosOnto
import Derived.Lib.SliceRun
import Derived.Lib.Walk
set_option linter.unusedSimpArgs false
set_option linter.unusedVariables false
set_option maxHeartbeats 16000000
set_option maxRecDepth 100000
section
namespace Go.Proofs.YthjpcmecgjfilaaGreat
open Go.Ab Go.RowKit Tryz
theorem zBF (l:List OutD):(outs l).length=l.length:=by simp [outs]
theorem zCX (l:List SegD):(segs l).length=l.length:=by simp [segs]
theorem zJo (l:List (Int × SegD)):(zGg l).length=l.length:=by simp [zGg]
theorem zCQ {l:List EntD} {i:Nat} {x:EntD} (h:l[i]? =some x):(ents l)[i]? =some x.row:=by simp [ents,h]
theorem zUb {l:List EvD} {i:Nat} {x:EvD} (h:l[i]? =some x):(evs l)[i]? =some x.row:=by simp [evs,h]
theorem zED {l:List OutD} {i:Nat} {x:OutD} (h:l[i]? =some x):(outs l)[i]? =some x.row:=by simp [outs,h]
theorem zE4 {l:List SegD} {i:Nat} {x:SegD} (h:l[i]? =some x):(segs l)[i]? =some x.row:=by simp [segs,h]
theorem zOr {l:List (Int × SegD)} {i:Nat} {x:Int × SegD} (h:l[i]? =some x):(zGg l)[i]? =some [lv x.1,lv x.2.from_,lv x.2.known,zBV x.2.ents]:=by simp [zGg,h]
theorem zIa (a b:List EntD):ents (a++b)=ents a++ents b:=by simp [ents]
theorem zUa (a b:List EvD):evs (a++b)=evs a++evs b:=by simp [evs]
theorem zGN (a b:List OutD):outs (a++b)=outs a++outs b:=by simp [outs]
theorem zCW (a b:List SegD):segs (a++b)=segs a++segs b:=by simp [segs]
theorem zL6 (a:EntD):ents [a]=[a.row]:=rfl
theorem zSF (a:OutD):outs [a]=[a.row]:=rfl
theorem zAs (a:SegD):segs [a]=[a.row]:=rfl
theorem get_at {α:Type} {l:List α} {i:Nat} (h:i<l.length):∃ x,l[i]? =some x/\l.drop i=x::l.drop (i+1)/\l.take (i+1)=l.take i++[x]/\x∈l :=
 ⟨l[i],zWH h,zWo h,(List.take_append_getElem h).symm,zWp h⟩
theorem getE {α:Type} {L:List α} {i:Nat} {x:α} (h:L[i]? =some x) (h':i<L.length):L[i]'h'=x:=by rw [zWH h'] at h;exact Option.some.inj h
theorem zBd {α:Type} {l:List α} {i:Nat} (h:l.length<=i):l.drop i=[]:=List.drop_eq_nil_of_le h
theorem zGW {α:Type} {l:List α} {i:Nat} (h:l.length<=i):l.take i=l:=List.take_of_length_le h
theorem zUs (o:OutD):zAD prog 156 [.st o.row] (.bool (fitsD o)):=by
 refine sZ func156 ntmps156 ?_;exact wx1 trivial trivial @fitsD.eq_1
theorem zK8 (g:GateD):zAD prog 106 [.st g.row] (.bool (zCE g)):=by
 have hl:=zBF g.held;refine zAD.lens (by kernel_rfl) fun hlens=>?_
 simp [zLE,zLF,zEm,maxLen] at hlens;refine sY func106 ntmps106 @hl ?_;intros;apply wr;simp only [hl] at hlens;obtain ⟨I,hI⟩:∃ I:Nat->St->Prop,I=(fun kk ss=>∃ (i:Nat) (la:Int),i<=g.held.length/\kk=g.held.length-i/\(heldOk g.acked g.held=heldOk la (g.held.drop i))/\ss=⟨27,[(11,.int .i64 i),(10,.int .i64 g.held.length),(9,.sl 4 false (outs g.held)),(3,lv la)],1,[],0⟩):=⟨_,rfl⟩
 refine lX I (id) (by rw [hI];exact ⟨0,g.acked,by simp,rfl,rfl,rfl⟩) ?_
 intro kk ss hIk _
 rw [hI] at hIk;obtain ⟨i,la,hi,rfl,hx,rfl⟩:=hIk;refine au1 @hl ?_;intros;apply wr;refine zAC rfl (fun hh=>?_) (fun hh=>?_)
 ·simp at hh;obtain ⟨o,ho,hd,-,-⟩:=get_at hh;have hget:=zED ho;rw [hd,heldOk] at hx;refine au1 @hget ?_;intros;apply wr
  (refine au1 (kX2 @zCE.eq_1 @hx) ?_;intros;apply wr)
  repeat' ((first|(refine zAC rfl (fun h=>?_) (fun h=>?_)<;>(first|(simp [zCE,hx] at h;done)|(simp [zCE,hx] at h)|skip)<;>(first|(exfalso;omega)|skip))|refine cc1 (zUs o) (kX2 @zCE.eq_1 @hx) ?_|exact rt1 (kX2 @zCE.eq_1 @hx)|fail)<;>(refine au1 (kX2 @zCE.eq_1 @hx) ?_;intros;apply wr))
  exact aX (id) (by rw [hI];exact ⟨i+1,o.at_,by omega,rfl,(by simpa [h] using hx),rfl⟩) (zAA (n:=(i:Int)+1) (by omega) (by omega))
 simp at hh;rw [zBd hh,heldOk] at hx;refine au ?_;intros;apply wr;refine zAB ?_;simp [zCE,hx]
theorem zPI (g:GateD) (l:List OutD) (h1:g.held.length<=50000) (h2:l.length<=10000):zAD prog 76 [.st g.row,.sl 4 false (outs l)] (.tup [.st (zDj g l).1.row,.bool (zDj g l).2]):=by
 have hl:=zBF g.held;have hl2:=zBF l;have hc:=zLx (outs g.held) false 4 (.inl rfl) (by omega)
 have hv:=zK8 g;cases hg:zCE g with
 | false =>
  rw [hg] at hv;refine sY func76 ntmps76 @hl ?_;intros;apply wr;exact wx1 (qX2 (hc) (hv)) trivial (kX2 @zDj.eq_1 @hg)
 | true =>
  rw [hg] at hv;refine sY func76 ntmps76 @hl ?_;intros;apply wr;refine cX (hc) ?_;intros;apply wr;refine cX (hv) ?_;intros;apply wr;refine gF00 rfl ?_;intros;apply wr;refine cY (hc) @hl2 ?_;intros;apply wr;obtain ⟨I,hI⟩:∃ I:Nat->St->Prop,I=(fun kk ss=>∃ (i:Nat) (x:GateD),i<=l.length/\kk=l.length-i/\(x=(l.take i).foldl zCJ g/\x.acked=g.acked/\x.held.length<=50000+i)/\ss=⟨62,[(26,.int .i64 i),(25,.int .i64 l.length),(24,.sl 4 false (outs l)),(2,.ptr 0 3 0 0),(7,.ptr 5 3 0 0),(6,.ptr 2 3 0 0),(4,.ptr 1 3 0 0)],7,[(0,some ⟨51,3,true,false,[g.row]⟩),(1,some ⟨51,3,true,false,[[.sl 0 true [],lv 0,lv 0]]⟩),(2,some ⟨51,3,true,false,[[.own 3,lv g.acked,lv g.bytes]]⟩),(3,some ⟨90,4,false,false,outs g.held⟩),(5,some ⟨51,3,true,false,[[.own 6,lv x.acked,lv x.bytes]]⟩),(6,some ⟨90,4,false,false,outs x.held⟩)],0⟩):=⟨_,rfl⟩
  refine lX I (id) (by rw [hI];exact ⟨0,g,by simp,rfl,⟨rfl,rfl,by omega⟩,rfl⟩) ?_
  intro kk ss hIk _
  rw [hI] at hIk;obtain ⟨i,x,hi,rfl,hx,rfl⟩:=hIk;obtain ⟨hx1,hx2,hx3⟩:=hx;refine au1 @hl2 ?_;intros;apply wr;refine zAC rfl (fun hh=>?_) (fun hh=>?_)
  ·simp at hh;obtain ⟨o,ho,-,ht,-⟩:=get_at hh;have hget:=zED ho;have hnx:(l.take (i+1)).foldl zCJ g=zCJ x o:=by rw [ht,List.foldl_append,<- hx1];rfl
   have hlx:=zBF x.held;refine au1 @hget ?_;intros;apply wr;by_cases hk:o.kind≠1/\o.kind≠2
   ·have hE:zCJ x o=x:=by unfold zCJ;rw [if_pos hk]
    rw [hE] at hnx;obtain ⟨k1,k2⟩:=hk
    (refine au1 (kX2 @k1 @k2) ?_;intros;apply wr)
    repeat' ((first|(refine zAC rfl (fun h=>?_) (fun h=>?_)<;>(first|(simp [k1,k2] at h;done)|(simp [k1,k2] at h)|skip)<;>(first|(exfalso;omega)|skip))|exact rt1 (kX2 @k1 @k2)|fail)<;>(refine au1 (kX2 @k1 @k2) ?_;intros;apply wr))
    exact aX (id) (by rw [hI];exact ⟨i+1,x,by omega,rfl,⟨hnx.symm,hx2,by omega⟩,rfl⟩) (zAA (n:=(i:Int)+1) (by omega) (by omega))
   by_cases ha:g.acked<=o.at_
   ·have hE:zCJ x o={x with held:=x.held++[o]}:=by unfold zCJ;rw [if_neg hk,hx2,if_pos ha]
    rw [hE] at hnx
    (refine au1 (kX3 @ha @hlx @maxLen.eq_1) ?_;intros;apply wr)
    repeat' ((first|(refine zAC rfl (fun h=>?_) (fun h=>?_)<;>(first|(simp [ha,hlx,maxLen] at h;done)|(simp [ha,hlx,maxLen] at h)|skip)<;>(first|(exfalso;omega)|skip))|exact rt1 (kX3 @ha @hlx @maxLen.eq_1)|fail)<;>(refine au1 (kX3 @ha @hlx @maxLen.eq_1) ?_;intros;apply wr))
    exact aX (fun x=>if x=6 then 9 else x) (by rw [hI];exact ⟨i+1,({x with held:=x.held++[o]}),by omega,rfl,⟨hnx.symm,hx2,by simp;omega⟩,rfl⟩) (kX3 (zAA (n:=(i:Int)+1) (by omega) (by omega)) @zGN @zSF)
   by_cases hb:o.kind=1
   ·have hE:zCJ x o={x with bytes:=lw (x.bytes+1)}:=by unfold zCJ;rw [if_neg hk,hx2,if_neg ha,if_pos hb]
    rw [hE] at hnx
    (refine au1 (kX2 @ha @hb) ?_;intros;apply wr)
    repeat' ((first|(refine zAC rfl (fun h=>?_) (fun h=>?_)<;>(first|(simp [ha,hb] at h;done)|(simp [ha,hb] at h)|skip)<;>(first|(exfalso;omega)|skip))|exact rt1 (kX2 @ha @hb)|fail)<;>(refine au1 (kX2 @ha @hb) ?_;intros;apply wr))
    exact aX (id) (by rw [hI];exact ⟨i+1,({x with bytes:=lw (x.bytes+1)}),by omega,rfl,⟨hnx.symm,hx2,by simp;omega⟩,rfl⟩) (zAA (n:=(i:Int)+1) (by omega) (by omega))
   have hE:zCJ x o=x:=by unfold zCJ;rw [if_neg hk,hx2,if_neg ha,if_neg hb]
   rw [hE] at hnx;have hk2:o.kind=2:=by omega
   (refine au1 (kX2 @ha @hk2) ?_;intros;apply wr)
   repeat' ((first|(refine zAC rfl (fun h=>?_) (fun h=>?_)<;>(first|(simp [ha,hk2] at h;done)|(simp [ha,hk2] at h)|skip)<;>(first|(exfalso;omega)|skip))|exact rt1 (kX2 @ha @hk2)|fail)<;>(refine au1 (kX2 @ha @hk2) ?_;intros;apply wr))
   exact aX (id) (by rw [hI];exact ⟨i+1,x,by omega,rfl,⟨hnx.symm,hx2,by omega⟩,rfl⟩) (zAA (n:=(i:Int)+1) (by omega) (by omega))
  simp at hh;rw [zGW hh] at hx1;have hv2:=zK8 x;refine au ?_;intros;apply wr;exact wx1 (qX1 (hv2)) trivial (kX2 @zDj.eq_1 @hg)
def rels (l:List (OutD × Int)):List (List V):=l.map fun p=>[iv p.1.kind,lv p.1.at_,uv p.1.block,.str p.1.data,lv p.2]
@[simp] theorem nil_rels:rels []=[]:=rfl
theorem zMq (l:List (OutD × Int)):(rels l).length=l.length:=by simp [rels]
theorem zGS (a b:List (OutD × Int)):rels (a++b)=rels a++rels b:=by simp [rels]
theorem zP7 (o:OutD) (k:Int):zAD prog 108 [.st o.row,.iptr [lv k]] (.bool (decide (k<=o.at_))):=by
 refine sZ func108 ntmps108 ?_;exact wx trivial trivial
theorem zVb (k:Int) (l:List OutD):(relN k l).length<=l.length:=(List.takeWhile_sublist _).length_le
theorem zKU (k:Int):∀ l:List OutD,relN k l=l.take (relN k l).length
 | []=>rfl
 | o::l=>by
  unfold relN at *
  rw [List.takeWhile_cons];split
  ·rw [zWU,List.take_succ_cons];exact congrArg _ (zKU k l)
  rfl
theorem zRq (l:List OutD) (k:Int):zAD prog 107 [.sl 4 false (outs l),.clo 108 [.iptr [lv k]]] (iv (if (relN k l).length<l.length then ((relN k l).length:Int) else -1)):=by
 have hl:=zBF l;refine zAD.lens (by kernel_rfl) fun hlens=>?_
 simp [zLE,zLF,zEm,maxLen] at hlens;refine sY func107 ntmps107 @hl ?_;intros;apply wr;simp only [hl] at hlens;obtain ⟨I,hI⟩:∃ I:Nat->St->Prop,I=(fun kk ss=>∃ (i:Nat) ,i<=l.length/\kk=l.length-i/\((relN k l).length=i+(relN k (l.drop i)).length)/\ss=⟨19,[(8,.int .i64 i),(7,.int .i64 l.length),(1,.clo 108 [.iptr [lv k]]),(0,.sl 4 false (outs l))],0,[],0⟩):=⟨_,rfl⟩
 refine lX I (id) (by rw [hI];exact ⟨0,by simp,rfl,by simp,rfl⟩) ?_
 intro kk ss hIk _
 rw [hI] at hIk;obtain ⟨i,hi,rfl,hx,rfl⟩:=hIk;refine au1 @hl ?_;intros;apply wr;refine zAC rfl (fun hh=>?_) (fun hh=>?_)
 ·simp at hh;obtain ⟨o,ho,hd,-,-⟩:=get_at hh;have hget:=zED ho;rw [hd] at hx;have ht:relN k (o::l.drop (i+1))=if o.at_<k then o::relN k (l.drop (i+1)) else []:=by
   unfold relN;rw [List.takeWhile_cons];simp
  rw [ht] at hx;by_cases hk:k<=o.at_
  ·rw [if_neg (by omega)] at hx
   simp at hx;refine au1 (kX2 @hget @hl) ?_;intros;apply wr;exact wx1 (qX1 (zP7 o k)) trivial (kX5 @hk @hget @hl @hx @hh)
  rw [if_pos (by omega)] at hx
  simp at hx;refine au1 (kX2 @hget @hl) ?_;intros;apply wr
  (refine au1 (kX3 @hk @hget @hl) ?_;intros;apply wr)
  repeat' ((first|(refine zAC rfl (fun h=>?_) (fun h=>?_)<;>(first|(simp [hk,hget,hl] at h;done)|(simp [hk,hget,hl] at h)|skip)<;>(first|(exfalso;omega)|skip))|refine cc1 (zP7 o k) (kX3 @hk @hget @hl) ?_|exact rt1 (kX3 @hk @hget @hl)|fail)<;>(refine au1 (kX3 @hk @hget @hl) ?_;intros;apply wr))
  exact aX (id) (by rw [hI];exact ⟨i+1,by omega,rfl,by omega,rfl⟩) (zAA (n:=(i:Int)+1) (by omega) (by omega))
 simp at hh;rw [zBd hh] at hx;have hn:¬ (relN k l).length<l.length:=by rw [hx];simp [relN];omega
 refine au ?_;intros;apply wr;refine zAB ?_;simp [hn]
theorem zVK (l:List OutD) (n:Nat):(outs l).take n=outs (l.take n):=by simp [outs,List.map_take]
theorem zVJ (l:List OutD) (n:Nat):(outs l).drop n=outs (l.drop n):=by simp [outs,List.map_drop]
theorem zIJ (g:GateD) (k:Int) (h1:g.held.length<=50000):zAD prog 51 [.st g.row,lv k] (.tup [.st (relD g k).1.row,.sl 5 false (rels (relD g k).2)]):=by
 have hl:=zBF g.held;have hc:=zLx (outs g.held) false 4 (.inl rfl) (by omega)
 have hv:=zK8 g;by_cases hg:zCE g=true/\g.acked<k
 ·obtain ⟨hg1,hg2⟩:=hg;have hE:relD g k=(⟨g.held.drop (relN k g.held).length,k,(relL g.bytes (relN k g.held)).1⟩,(relL g.bytes (relN k g.held)).2):=by unfold relD;rw [if_pos ⟨hg1,hg2⟩]
  rw [hE,zKU k g.held];have hi:=zRq g.held k;have hle:=zVb k g.held;generalize (relN k g.held).length=n at *
  have hmin:min n g.held.length=n:=Nat.min_eq_left hle;rw [hg1] at hv;have hc2:=zLx (outs (g.held.drop n)) false 4 (.inl rfl) (by rw [zBF];simp;omega)
  have hlt:(g.held.take n).length=n:=by simp;omega
  obtain ⟨L,hL⟩:∃ L,L=g.held.take n:=⟨_,rfl⟩;rw [<- hL] at hlt ⊢;have hLl:=zBF L;have htd:=zVK g.held n;have hdd:=zVJ g.held n;rw [<- hL] at htd;have hg3:¬ k<=g.acked:=by omega
  have hdl:(outs (g.held.drop n)).length=g.held.length-n:=by rw [zBF,zWT]
  have hdl2:(outs g.held).drop g.held.length=[]:=by rw [<- hl];exact List.drop_length
  have htl:(outs g.held).take g.held.length=outs g.held:=by rw [<- hl];exact List.take_length
  by_cases hn:n<g.held.length
  ·have hn0:¬ (n:Int)<0:=by omega
   simp only [hn,if_true] at hi;refine sY func51 ntmps51 @hl ?_;intros;apply wr;refine cY (hv) @hg3 ?_;intros;apply wr;refine gF10 @hg3 rfl ?_;intros;apply wr;refine cX (hi) ?_;intros;apply wr;refine gF11 @hn0 rfl (kX6 @htd @hdd @hmin @hle @hl @htl) ?_;intros;apply wr;refine cY (hc2) (kX7 @htd @hdd @hmin @hle @hl @htl @hLl) ?_;intros;apply wr;refine zAT 8 206 5 (by decide) rfl ?_
   obtain ⟨I,hI⟩:∃ I:Nat->St->Prop,I=(fun kk ss=>∃ (i:Nat) (b:Int) (acc:List (OutD × Int)),i<=L.length/\kk=L.length-i/\(relL g.bytes L=((relL b (L.drop i)).1,acc++(relL b (L.drop i)).2)/\acc.length<=i)/\ss=⟨71,[(49,.int .i64 i),(48,.int .i64 L.length),(47,.sl 4 false (outs L)),(6,.ptr 3 3 0 0),(4,.ptr 2 3 0 0),(8,.own 7)],8,[(3,some ⟨51,3,true,false,[[.own 6,lv k,lv b]]⟩),(2,some ⟨51,3,true,false,[[.sl 0 true [],lv 0,lv 0]]⟩),(6,some ⟨90,4,false,false,outs (g.held.drop n)⟩),(7,some ⟨206,5,false,false,rels acc⟩)],0⟩):=⟨_,rfl⟩
   refine lX I (id) (by rw [hI];exact ⟨0,g.bytes,[],by simp,rfl,⟨by simp,by simp⟩,rfl⟩) ?_
   intro kk ss hIk _
   rw [hI] at hIk;obtain ⟨i,b,acc,hi,rfl,hx,rfl⟩:=hIk;obtain ⟨hx1,hx2⟩:=hx;refine au1 @hLl ?_;intros;apply wr;refine zAC rfl (fun hh=>?_) (fun hh=>?_)
   ·simp at hh;obtain ⟨o,ho,hd,-,-⟩:=get_at hh;have hget:=zED ho;rw [hd] at hx1;have hla:=zMq acc;have hLl3:L.length<=50000:=by omega
    by_cases hk:o.kind=1
    ·have hE:relL b (o::L.drop (i+1))=((relL (lw (b+1)) (L.drop (i+1))).1,(o,b)::(relL (lw (b+1)) (L.drop (i+1))).2):=by rw [relL,if_pos hk]
     rw [hE] at hx1;refine au1 @hget ?_;intros;apply wr
     (refine au1 (kX3 @hk @hla @maxLen.eq_1) ?_;intros;apply wr)
     repeat' ((first|(refine zAC rfl (fun h=>?_) (fun h=>?_)<;>(first|(simp [hk,hla,maxLen] at h;done)|(simp [hk,hla,maxLen] at h)|skip)<;>(first|(exfalso;omega)|skip))|exact rt1 (kX3 @hk @hla @maxLen.eq_1)|fail)<;>(refine au1 (kX3 @hk @hla @maxLen.eq_1) ?_;intros;apply wr))
     exact aX (fun x=>if x=7 then 10 else x) (by rw [hI];exact ⟨i+1,(lw (b+1)),(acc++[(o,b)]),by omega,rfl,⟨by simpa using hx1,by simp;omega⟩,rfl⟩) (kX4 (zAA (n:=(i:Int)+1) (by omega) (by omega)) @zGS @rels.eq_1 @hk)
    have hE:relL b (o::L.drop (i+1))=((relL b (L.drop (i+1))).1,(o,0)::(relL b (L.drop (i+1))).2):=by rw [relL,if_neg hk]
    rw [hE] at hx1;refine au1 @hget ?_;intros;apply wr
    (refine au1 (kX3 @hk @hla @maxLen.eq_1) ?_;intros;apply wr)
    repeat' ((first|(refine zAC rfl (fun h=>?_) (fun h=>?_)<;>(first|(simp [hk,hla,maxLen] at h;done)|(simp [hk,hla,maxLen] at h)|skip)<;>(first|(exfalso;omega)|skip))|exact rt1 (kX3 @hk @hla @maxLen.eq_1)|fail)<;>(refine au1 (kX3 @hk @hla @maxLen.eq_1) ?_;intros;apply wr))
    exact aX (fun x=>if x=7 then 10 else x) (by rw [hI];exact ⟨i+1,b,(acc++[(o,0)]),by omega,rfl,⟨by simpa using hx1,by simp;omega⟩,rfl⟩) (kX4 (zAA (n:=(i:Int)+1) (by omega) (by omega)) @zGS @rels.eq_1 @hk)
   simp at hh;rw [zBd hh] at hx1;refine au ?_;intros;apply wr;refine zAI ?_;refine zAB ?_;simp [hx1,relL,hlt]
  have hn2:n=g.held.length:=by omega
  simp only [hn,if_false] at hi;subst hn2;rw [List.take_length] at hL;subst hL;rw [List.drop_length] at hc2 ⊢;simp only [zR7] at hc2 ⊢;refine sY func51 ntmps51 @hl ?_;intros;apply wr;refine cY (hv) @hg3 ?_;intros;apply wr;refine gF10 @hg3 rfl ?_;intros;apply wr;refine cX (hi) ?_;intros;apply wr;refine gT01 rfl (kX3 @hl @htl @hdl2) ?_;intros;apply wr;refine cY (hc2) (kX4 @hl @htl @hdl2 @hLl) ?_;intros;apply wr;refine zAT 8 206 5 (by decide) rfl ?_
  obtain ⟨I,hI⟩:∃ I:Nat->St->Prop,I=(fun kk ss=>∃ (i:Nat) (b:Int) (acc:List (OutD × Int)),i<=g.held.length/\kk=g.held.length-i/\(relL g.bytes g.held=((relL b (g.held.drop i)).1,acc++(relL b (g.held.drop i)).2)/\acc.length<=i)/\ss=⟨71,[(49,.int .i64 i),(48,.int .i64 g.held.length),(47,.sl 4 false (outs g.held)),(6,.ptr 3 3 0 0),(4,.ptr 2 3 0 0),(8,.own 7)],8,[(3,some ⟨51,3,true,false,[[.own 6,lv k,lv b]]⟩),(2,some ⟨51,3,true,false,[[.sl 0 true [],lv 0,lv 0]]⟩),(6,some ⟨90,4,false,false,[]⟩),(7,some ⟨206,5,false,false,rels acc⟩)],0⟩):=⟨_,rfl⟩
  refine lX I (id) (by rw [hI];exact ⟨0,g.bytes,[],by simp,rfl,⟨by simp,by simp⟩,rfl⟩) ?_
  intro kk ss hIk _
  rw [hI] at hIk;obtain ⟨i,b,acc,hi,rfl,hx,rfl⟩:=hIk;obtain ⟨hx1,hx2⟩:=hx;refine au1 @hLl ?_;intros;apply wr;refine zAC rfl (fun hh=>?_) (fun hh=>?_)
  ·simp at hh;obtain ⟨o,ho,hd,-,-⟩:=get_at hh;have hget:=zED ho;rw [hd] at hx1;have hla:=zMq acc;have hLl3:g.held.length<=50000:=by omega
   by_cases hk:o.kind=1
   ·have hE:relL b (o::g.held.drop (i+1))=((relL (lw (b+1)) (g.held.drop (i+1))).1,(o,b)::(relL (lw (b+1)) (g.held.drop (i+1))).2):=by rw [relL,if_pos hk]
    rw [hE] at hx1;refine au1 @hget ?_;intros;apply wr
    (refine au1 (kX3 @hk @hla @maxLen.eq_1) ?_;intros;apply wr)
    repeat' ((first|(refine zAC rfl (fun h=>?_) (fun h=>?_)<;>(first|(simp [hk,hla,maxLen] at h;done)|(simp [hk,hla,maxLen] at h)|skip)<;>(first|(exfalso;omega)|skip))|exact rt1 (kX3 @hk @hla @maxLen.eq_1)|fail)<;>(refine au1 (kX3 @hk @hla @maxLen.eq_1) ?_;intros;apply wr))
    exact aX (fun x=>if x=7 then 10 else x) (by rw [hI];exact ⟨i+1,(lw (b+1)),(acc++[(o,b)]),by omega,rfl,⟨by simpa using hx1,by simp;omega⟩,rfl⟩) (kX4 (zAA (n:=(i:Int)+1) (by omega) (by omega)) @zGS @rels.eq_1 @hk)
   have hE:relL b (o::g.held.drop (i+1))=((relL b (g.held.drop (i+1))).1,(o,0)::(relL b (g.held.drop (i+1))).2):=by rw [relL,if_neg hk]
   rw [hE] at hx1;refine au1 @hget ?_;intros;apply wr
   (refine au1 (kX3 @hk @hla @maxLen.eq_1) ?_;intros;apply wr)
   repeat' ((first|(refine zAC rfl (fun h=>?_) (fun h=>?_)<;>(first|(simp [hk,hla,maxLen] at h;done)|(simp [hk,hla,maxLen] at h)|skip)<;>(first|(exfalso;omega)|skip))|exact rt1 (kX3 @hk @hla @maxLen.eq_1)|fail)<;>(refine au1 (kX3 @hk @hla @maxLen.eq_1) ?_;intros;apply wr))
   exact aX (fun x=>if x=7 then 10 else x) (by rw [hI];exact ⟨i+1,b,(acc++[(o,0)]),by omega,rfl,⟨by simpa using hx1,by simp;omega⟩,rfl⟩) (kX4 (zAA (n:=(i:Int)+1) (by omega) (by omega)) @zGS @rels.eq_1 @hk)
  simp at hh;rw [zBd hh] at hx1;refine au ?_;intros;apply wr;refine zAI ?_;refine zAB ?_;simp [hx1,relL,hl]
 have hE:relD g k=(g,[]):=by unfold relD;rw [if_neg hg]
 rw [hE];cases hg1:zCE g with
 | true =>
  rw [hg1] at hv;have hg2:¬ g.acked<k:=fun z=>hg ⟨hg1,z⟩
  refine sY func51 ntmps51 @hl ?_;intros;apply wr;exact wx1 (qX2 (hc) (hv)) trivial @hg2
 | false =>
  rw [hg1] at hv;refine sY func51 ntmps51 @hl ?_;intros;apply wr;exact wx (qX2 (hc) (hv)) trivial
theorem zKj {C D E G:Prop} (c:C) (d:D) (e:E) (t:C->D->E->G:=by intro c d e;(refine au1 e ?_;(repeat intro K hK);apply wr);repeat' ((first|(refine zAC rfl (fun h=>?_) (fun h=>?_)<;>(first|(simp [e] at h;done)|(simp [e] at h)|skip)<;>(first|(exfalso;omega)|skip))|((first|refine .inl ⟨1,_,d.1,?_⟩|refine ⟨1,_,d.1,?_⟩);simp [aftC,aftE,noX,noXc,noX1,e];first|refine And.intro zAO ?_|skip)|((first|refine .inl ⟨1,_,d.2.1,?_⟩|refine ⟨1,_,d.2.1,?_⟩);simp [aftC,aftE,noX,noXc,noX1,e];first|refine And.intro zAO ?_|skip)|refine cc1 c.1 e ?_|refine cc1 c.2.1 e ?_|refine cc1 c.2.2.1 e ?_|refine cc1 c.2.2.2.1 e ?_|refine cc1 c.2.2.2.2.1 e ?_|refine cc1 c.2.2.2.2.2.1 e ?_|refine zAW 3 ?_|refine zAj fun K hK=>?_|exact rt1 e|fail)<;>(refine au1 e ?_;(repeat intro K hK);apply wr))):G:=t c d e
theorem infoE:∃ (j:TypeInfo) (z:Value),prog.info? 84=some j/\j.size=4/\j.bytes=40/\j.zero=some z/\z.cells.size=4:=by
 have h:(prog.info? 84).map (fun j=>(j.size,j.bytes,j.zero.map fun z=>z.cells.size))=some (4,40,some 4):=by kernel_rfl
 obtain ⟨j,hj,e⟩:=Option.map_eq_some_iff.1 h;simp only [Prod.mk.injEq] at e;obtain ⟨z,hz,e3⟩:=Option.map_eq_some_iff.1 e.2.2;exact ⟨j,z,hj,e.1,e.2.1,hz,e3⟩
theorem zRk (n:Nat) (h0:0<n) (hn:n<=100000) (w:World):Calls prog 132 #[.slice none 0 0,.int .i64 n] w fun e w' =>
  ∃ (cap:Nat) (cur:Array Value),e=.returned (.slice (some ⟨w.heap.size,0,none⟩) 0 cap)/\cap<=maxLen/\cur.size=cap*4/\w'=w.drew.alloc (.cells cur 84):=by
 obtain ⟨j,z,hj,hs,hb,hz,hzs⟩:=infoE;have h1:¬ ((n:Int)<0):=by omega
 have h2:wrap64 ((0:Int)-(0:Int))=0:=by unfold wrap64;omega
 have h3:wrap64 ((n:Int)-0)=(n:Int):=by unfold wrap64;omega
 have h4:(n:Int) > 0:=by omega
 have hrz:∀ ty,(Builtin.append_ #[43,3] ty #[.slice none 0 0,.int .i64 (n:Int)]).run prog w =
   .ok (.slice (some ⟨w.heap.size,0,none⟩) n (grownCap w n 0 84)) (w.drew.alloc (.cells (Builtin.zeroCells z.cells n++Builtin.zeroCells z.cells (grownCap w n 0 84-n)) 84)):=fun ty=>by
  have h:=Lib.run_append_grow_zeros w 43 3 ty 84 j z .i64 .i64 Tryz.underlying43 Tryz.underlying3 hj hz none 0 0 [] (run_firstCells_none w.drew j.size 0 0 0) n h0 (by omega) (by omega) (by omega)
   (by rw [hb];omega) (by rw [hb];exact growslice_fits (by omega) (by omega))
  simpa using h
 clear hz;generalize z.cells=zc at *
 have hGn:n<=grownCap w n 0 84:=grownCap_ge w _ _ _;have hG63:=grownCap_le_maxLen w n 0 84 (by unfold maxLen;omega)
 generalize grownCap w n 0 84=G at *
 have hG':G<=9223372036854775807:=by unfold maxLen at hG63;omega
 go_enter func132,ntmps132
 go_wp2_with (at_builtin;refine Lib.wpList_append_run _ rfl _ _ _ _ rfl _ _ rfl rfl _ _ (hrz _) ?_)
 all_goals (go_ret;exact ⟨G,rfl,hG63,_,by simp only [Array.size_append,size_zeroCells,hzs];omega,rfl⟩)
theorem zUw (n:Nat) (h0:0<n) (hn:n<=100000):zAD prog 132 [.sl 0 true [],iv n] (.new 84 4 []):=by
 refine ⟨by kernel_rfl,fun w Xa vals M hXa hs hrr=>?_⟩
 obtain ⟨A,c',f,hu,_,_,_,hnil,_⟩:=R_sl (hrr 0 _ rfl);obtain ⟨rfl,rfl⟩:=hnil rfl;have hv1:=zCC (hrr 1 _ rfl);have hv:vals=#[.slice none 0 0,.int .i64 (n:Int)]:=by
  apply Array.ext
  ·simpa using hs
  intro i hi hi'
  have:i=0\/i=1:=by simp at hi';omega
  rcases this with rfl|rfl
  ·simpa [Array.getD,hi] using hu
  simpa [Array.getD,hi] using hv1
 rw [hv];refine (zRk n h0 hn w).mono ?_;rintro e w' ⟨cap,cur,rfl,hcap,hcur,rfl⟩;have hB:Below w.heap.size w (w.drew.alloc (.cells cur 84)):=⟨rfl,rfl,rfl,by simp,fun k hk=>by
  rw [Below.heap_alloc _ _ _ (by simpa using hk)];rfl⟩
 have hnew:(w.drew.alloc (.cells cur 84)).heap[w.heap.size]? =some (.cells cur 84 (0,0)):=World.alloc_heap_new w.drew _;refine ⟨_,rfl,hB,fun M n' hM=>?_⟩
 have hM0:=hM 0 (by simp [V.fcells,V.cells])
 simp [zHU,Value.cells] at hM0;refine ⟨?_,?_,?_⟩
 ·exact .own _ _ _ _ _ (by simp [V.fcells,V.cells]) hM0
 ·intro id o ho
  simp [V.fcells,V.cells,obsL,lookO] at ho;obtain ⟨rfl,rfl⟩:=ho;refine ⟨fun _=>by decide,fun _=>by rw [hM0];rfl,by simp,[],?_,by simp,fun j u h=>by simp at h⟩
  rw [hM0];exact ⟨by simp,.inr (.inl ⟨w.heap.size,0,cap,cur,rfl,zWN _,.plain hnew,Nat.zero_le _,hcap,by rw [zWi];exact hcur,by simp⟩)⟩
 intro id id' o o' g ho ho' hne
 simp [V.fcells,V.cells,obsL,lookO] at ho ho';omega
theorem zGd (a b:List EntD) (ha:a.length<=50000) (hb:b.length<=50000):zAD prog 78 [.sl 1 false [[zBV a],[zBV b]]] (zBV (a++b)):=by
 rcases Nat.eq_zero_or_pos (a.length+b.length) with hz|hpos
 ·obtain rfl:a=[]:=List.length_eq_zero_iff.1 (by omega)
  obtain rfl:b=[]:=List.length_eq_zero_iff.1 (by omega)
  have hg0:zAD prog 132 [.sl 0 true [],iv 0] (.sl 0 true []):=by
   refine sZ func132 ntmps132 ?_;exact wx1 trivial trivial @i64c
  refine sX func78 ntmps78 ?_;intros;apply wr;exact zKj (qX1 (hg0)) trivial @i64c
 have la:=zAn a;have lb:=zAn b;have hab:=zIa a b;have hg:=zUw (a.length+b.length) hpos (by omega)
 push_cast at hg
 have w1:IntKind.i64.wrap (a.length:Int)=a.length:=zAA (by omega) (by omega)
 have w2:IntKind.i64.wrap ((a.length:Int)+b.length)=a.length+b.length:=zAA (by omega) (by omega)
 have n1:¬ (a.length:Int)<0:=by omega
 have n2:¬ (a.length:Int)+b.length<0:=by omega
 refine sX func78 ntmps78 ?_;intros;apply wr;exact zKj (qX1 (hg)) trivial (kX9 @la @lb @w1 @w2 @n1 @n2 @maxLen.eq_1 @hab @i64c)
end Go.Proofs.YthjpcmecgjfilaaGreat
end
