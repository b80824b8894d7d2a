/- A part of the proof of ReplicaBare+ReplicaWindow. -/
import Derived.Test.YtoondlebmacanaaGreatB06
import Derived.Test.YtoondlebmacanaaGreatB07
import Derived.Test.YtoondlebmacanaaGreatB20
import Derived.Test.YtoondlebmacanaaGreatB34
import Derived.Test.YtoondlebmacanaaGreatB38
import Derived.Test.YtoondlebmacanaaGreatB39
set_option linter.unusedSimpArgs false
set_option linter.unusedVariables false
set_option maxHeartbeats 16000000
set_option maxRecDepth 100000
section
namespace Go.Proofs.YtoondlebmacanaaGreat
open Go.Ab Go.RowKit
def relL (bytes:Int):List OutD→Int × List (OutD × Int)
 | []=>(bytes,[])
 | o::r=>if o.kind=1 then ((relL (lw (bytes+1)) r).1,(o,bytes)::(relL (lw (bytes+1)) r).2) else ((relL bytes r).1,(o,0)::(relL bytes r).2)
def relN (acked:Int) (l:List OutD):List OutD:=l.takeWhile fun o=>decide (o.at_<acked)
def relD (g:GateD) (acked:Int):GateD × List (OutD × Int) :=
 if zCO g=true∧g.acked<acked then (⟨g.held.drop (relN acked g.held).length,acked,(relL g.bytes (relN acked g.held)).1⟩,(relL g.bytes (relN acked g.held)).2) else (g,[])
theorem zMT (l:List (OutD × Int)):(rels l).length=l.length:=by simp [rels]
theorem zGQ (a b:List (OutD × Int)):rels (a++b)=rels a++rels b:=by simp [rels]
theorem zQE (o:OutD) (k:Int):zAD Tryz.prog 101 [.st o.row,.iptr [lv k]] (.bool (decide (k≤o.at_))):=by
 refine sZ Tryz.func101 Tryz.ntmps101 ?_;exact wx trivial trivial
theorem zVj (k:Int) (l:List OutD):(relN k l).length≤l.length:=(List.takeWhile_sublist _).length_le
theorem zJ6 (k:Int):∀ l:List OutD,relN k l=l.take (relN k l).length
 | []=>rfl
 | o::l=>by
  unfold relN at *
  rw [List.takeWhile_cons];split
  ·rw [zWx,List.take_succ_cons];exact congrArg _ (zJ6 k l)
  rfl
theorem zR5 (l:List OutD) (k:Int):zAD Tryz.prog 100 [.sl 4 false (outs l),.clo 101 [.iptr [lv k]]] (iv (if (relN k l).length<l.length then ((relN k l).length:Int) else -1)):=by
 have hl:=zAw l;refine zAD.lens (by kernel_rfl) fun hlens=>?_
 simp [zKp,zKq,zEu,maxLen] at hlens;refine sY Tryz.func100 Tryz.ntmps100 @hl ?_;intros;apply wr;simp only [hl] at hlens;obtain ⟨I,hI⟩:∃ I:Nat→St→Prop,I=(fun kk ss=>∃ (i:Nat) ,i≤l.length∧kk=l.length-i∧((relN k l).length=i+(relN k (l.drop i)).length)∧ss=⟨19,[(8,.int .i64 i),(7,.int .i64 l.length),(1,.clo 101 [.iptr [lv k]]),(0,.sl 4 false (outs l))],0,[],0⟩):=⟨_,rfl⟩
 refine lX I (id) (by rw [hI];exact ⟨0,by simp,rfl,by simp,rfl⟩) ?_
 intro kk ss hIk _
 rw [hI] at hIk;obtain ⟨i,hi,rfl,hx,rfl⟩:=hIk;refine au1 @hl ?_;intros;apply wr;refine zAC rfl (fun hh=>?_) (fun hh=>?_)
 ·simp at hh;obtain ⟨o,ho,hd,-,-⟩:=get_at hh;have hget:=zC5 ho;rw [hd] at hx;have ht:relN k (o::l.drop (i+1))=if o.at_<k then o::relN k (l.drop (i+1)) else []:=by
   unfold relN;rw [List.takeWhile_cons];simp
  rw [ht] at hx;by_cases hk:k≤o.at_
  ·rw [if_neg (by omega)] at hx
   simp at hx;refine au1 (kX2 @hget @hl) ?_;intros;apply wr;exact wx1 (qX1 (zQE o k)) trivial (kX5 @hk @hget @hl @hx @hh)
  rw [if_pos (by omega)] at hx
  simp at hx;refine au1 (kX2 @hget @hl) ?_;intros;apply wr
  (refine au1 (kX3 @hk @hget @hl) ?_;intros;apply wr)
  repeat' ((first|(refine zAC rfl (fun h=>?_) (fun h=>?_)<;>(first|(simp [hk,hget,hl] at h;done)|(simp [hk,hget,hl] at h)|skip)<;>(first|(exfalso;omega)|skip))|refine cc1 (zQE o k) (kX3 @hk @hget @hl) ?_|exact rt1 (kX3 @hk @hget @hl)|fail)<;>(refine au1 (kX3 @hk @hget @hl) ?_;intros;apply wr))
  exact aX (id) (by rw [hI];exact ⟨i+1,by omega,rfl,by omega,rfl⟩) (zAB (n:=(i:Int)+1) (by omega) (by omega))
 simp at hh;rw [zB6 hh] at hx;have hn:¬ (relN k l).length<l.length:=by rw [hx];simp [relN];omega
 refine au ?_;intros;apply wr;refine zAA ?_;simp [hn]
theorem zVW (l:List OutD) (n:Nat):(outs l).take n=outs (l.take n):=by simp [outs,List.map_take]
theorem zVV (l:List OutD) (n:Nat):(outs l).drop n=outs (l.drop n):=by simp [outs,List.map_drop]
theorem zNs (g:GateD) (k:Int) (h1:g.held.length≤50000):zAD Tryz.prog 52 [.st g.row,lv k] (.tup [.st (relD g k).1.row,.sl 5 false (rels (relD g k).2)]):=by
 have hl:=zAw g.held;have hc:=zFs (outs g.held) false 4 (.inl rfl) (by omega)
 have hv:=zKi g;by_cases hg:zCO g=true∧g.acked<k
 ·obtain ⟨hg1,hg2⟩:=hg;have hE:relD g k=(⟨g.held.drop (relN k g.held).length,k,(relL g.bytes (relN k g.held)).1⟩,(relL g.bytes (relN k g.held)).2):=by unfold relD;rw [if_pos ⟨hg1,hg2⟩]
  rw [hE,zJ6 k g.held];have hi:=zR5 g.held k;have hle:=zVj k g.held;generalize (relN k g.held).length=n at *
  have hmin:min n g.held.length=n:=zWb hle;rw [hg1] at hv;have hc2:=zFs (outs (g.held.drop n)) false 4 (.inl rfl) (by rw [zAw];simp;omega)
  have hlt:(g.held.take n).length=n:=by simp;omega
  obtain ⟨L,hL⟩:∃ L,L=g.held.take n:=⟨_,rfl⟩;rw [← hL] at hlt ⊢;have hLl:=zAw L;have htd:=zVW g.held n;have hdd:=zVV g.held n;rw [← hL] at htd;have hg3:¬ k≤g.acked:=by omega
  have hdl:(outs (g.held.drop n)).length=g.held.length-n:=by rw [zAw,zW3]
  have hdl2:(outs g.held).drop g.held.length=[]:=by rw [← hl];exact List.drop_length
  have htl:(outs g.held).take g.held.length=outs g.held:=by rw [← hl];exact List.take_length
  by_cases hn:n<g.held.length
  ·have hn0:¬ (n:Int)<0:=by omega
   simp only [hn,if_true] at hi;refine sY Tryz.func52 Tryz.ntmps52 @hl ?_;intros;apply wr;refine cY (hv) @hg3 ?_;intros;apply wr;refine gF10 @hg3 rfl ?_;intros;apply wr;refine cX (hi) ?_;intros;apply wr;refine gF11 @hn0 rfl (kX6 @htd @hdd @hmin @hle @hl @htl) ?_;intros;apply wr;refine cY (hc2) (kX7 @htd @hdd @hmin @hle @hl @htl @hLl) ?_;intros;apply wr;refine zAW 8 201 5 (by decide) rfl ?_
   obtain ⟨I,hI⟩:∃ I:Nat→St→Prop,I=(fun kk ss=>∃ (i:Nat) (b:Int) (acc:List (OutD × Int)),i≤L.length∧kk=L.length-i∧(relL g.bytes L=((relL b (L.drop i)).1,acc++(relL b (L.drop i)).2)∧acc.length≤i)∧ss=⟨71,[(49,.int .i64 i),(48,.int .i64 L.length),(47,.sl 4 false (outs L)),(6,.ptr 3 3 0 0),(4,.ptr 2 3 0 0),(8,.own 7)],8,[(3,some ⟨51,3,true,false,[[.own 6,lv k,lv b]]⟩),(2,some ⟨51,3,true,false,[[.sl 0 true [],lv 0,lv 0]]⟩),(6,some ⟨81,4,false,false,outs (g.held.drop n)⟩),(7,some ⟨201,5,false,false,rels acc⟩)],0⟩):=⟨_,rfl⟩
   refine lX I (id) (by rw [hI];exact ⟨0,g.bytes,[],by simp,rfl,⟨by simp,by simp⟩,rfl⟩) ?_
   intro kk ss hIk _
   rw [hI] at hIk;obtain ⟨i,b,acc,hi,rfl,hx,rfl⟩:=hIk;obtain ⟨hx1,hx2⟩:=hx;refine au1 @hLl ?_;intros;apply wr;refine zAC rfl (fun hh=>?_) (fun hh=>?_)
   ·simp at hh;obtain ⟨o,ho,hd,-,-⟩:=get_at hh;have hget:=zC5 ho;rw [hd] at hx1;have hla:=zMT acc;have hLl3:L.length≤50000:=by omega
    by_cases hk:o.kind=1
    ·have hE:relL b (o::L.drop (i+1))=((relL (lw (b+1)) (L.drop (i+1))).1,(o,b)::(relL (lw (b+1)) (L.drop (i+1))).2):=by rw [relL,if_pos hk]
     rw [hE] at hx1;refine au1 @hget ?_;intros;apply wr
     (refine au1 (kX3 @hk @hla @maxLen.eq_1) ?_;intros;apply wr)
     repeat' ((first|(refine zAC rfl (fun h=>?_) (fun h=>?_)<;>(first|(simp [hk,hla,maxLen] at h;done)|(simp [hk,hla,maxLen] at h)|skip)<;>(first|(exfalso;omega)|skip))|exact rt1 (kX3 @hk @hla @maxLen.eq_1)|fail)<;>(refine au1 (kX3 @hk @hla @maxLen.eq_1) ?_;intros;apply wr))
     exact aX (fun x=>if x=7 then 10 else x) (by rw [hI];exact ⟨i+1,(lw (b+1)),(acc++[(o,b)]),by omega,rfl,⟨by simpa using hx1,by simp;omega⟩,rfl⟩) (kX4 (zAB (n:=(i:Int)+1) (by omega) (by omega)) @zGQ @rels.eq_1 @hk)
    have hE:relL b (o::L.drop (i+1))=((relL b (L.drop (i+1))).1,(o,0)::(relL b (L.drop (i+1))).2):=by rw [relL,if_neg hk]
    rw [hE] at hx1;refine au1 @hget ?_;intros;apply wr
    (refine au1 (kX3 @hk @hla @maxLen.eq_1) ?_;intros;apply wr)
    repeat' ((first|(refine zAC rfl (fun h=>?_) (fun h=>?_)<;>(first|(simp [hk,hla,maxLen] at h;done)|(simp [hk,hla,maxLen] at h)|skip)<;>(first|(exfalso;omega)|skip))|exact rt1 (kX3 @hk @hla @maxLen.eq_1)|fail)<;>(refine au1 (kX3 @hk @hla @maxLen.eq_1) ?_;intros;apply wr))
    exact aX (fun x=>if x=7 then 10 else x) (by rw [hI];exact ⟨i+1,b,(acc++[(o,0)]),by omega,rfl,⟨by simpa using hx1,by simp;omega⟩,rfl⟩) (kX4 (zAB (n:=(i:Int)+1) (by omega) (by omega)) @zGQ @rels.eq_1 @hk)
   simp at hh;rw [zB6 hh] at hx1;refine au ?_;intros;apply wr;refine zAI ?_;refine zAA ?_;simp [hx1,relL,hlt]
  have hn2:n=g.held.length:=by omega
  simp only [hn,if_false] at hi;subst hn2;rw [List.take_length] at hL;subst hL;rw [List.drop_length] at hc2 ⊢;simp only [zSR] at hc2 ⊢;refine sY Tryz.func52 Tryz.ntmps52 @hl ?_;intros;apply wr;refine cY (hv) @hg3 ?_;intros;apply wr;refine gF10 @hg3 rfl ?_;intros;apply wr;refine cX (hi) ?_;intros;apply wr;refine gT01 rfl (kX3 @hl @htl @hdl2) ?_;intros;apply wr;refine cY (hc2) (kX4 @hl @htl @hdl2 @hLl) ?_;intros;apply wr;refine zAW 8 201 5 (by decide) rfl ?_
  obtain ⟨I,hI⟩:∃ I:Nat→St→Prop,I=(fun kk ss=>∃ (i:Nat) (b:Int) (acc:List (OutD × Int)),i≤g.held.length∧kk=g.held.length-i∧(relL g.bytes g.held=((relL b (g.held.drop i)).1,acc++(relL b (g.held.drop i)).2)∧acc.length≤i)∧ss=⟨71,[(49,.int .i64 i),(48,.int .i64 g.held.length),(47,.sl 4 false (outs g.held)),(6,.ptr 3 3 0 0),(4,.ptr 2 3 0 0),(8,.own 7)],8,[(3,some ⟨51,3,true,false,[[.own 6,lv k,lv b]]⟩),(2,some ⟨51,3,true,false,[[.sl 0 true [],lv 0,lv 0]]⟩),(6,some ⟨81,4,false,false,[]⟩),(7,some ⟨201,5,false,false,rels acc⟩)],0⟩):=⟨_,rfl⟩
  refine lX I (id) (by rw [hI];exact ⟨0,g.bytes,[],by simp,rfl,⟨by simp,by simp⟩,rfl⟩) ?_
  intro kk ss hIk _
  rw [hI] at hIk;obtain ⟨i,b,acc,hi,rfl,hx,rfl⟩:=hIk;obtain ⟨hx1,hx2⟩:=hx;refine au1 @hLl ?_;intros;apply wr;refine zAC rfl (fun hh=>?_) (fun hh=>?_)
  ·simp at hh;obtain ⟨o,ho,hd,-,-⟩:=get_at hh;have hget:=zC5 ho;rw [hd] at hx1;have hla:=zMT acc;have hLl3:g.held.length≤50000:=by omega
   by_cases hk:o.kind=1
   ·have hE:relL b (o::g.held.drop (i+1))=((relL (lw (b+1)) (g.held.drop (i+1))).1,(o,b)::(relL (lw (b+1)) (g.held.drop (i+1))).2):=by rw [relL,if_pos hk]
    rw [hE] at hx1;refine au1 @hget ?_;intros;apply wr
    (refine au1 (kX3 @hk @hla @maxLen.eq_1) ?_;intros;apply wr)
    repeat' ((first|(refine zAC rfl (fun h=>?_) (fun h=>?_)<;>(first|(simp [hk,hla,maxLen] at h;done)|(simp [hk,hla,maxLen] at h)|skip)<;>(first|(exfalso;omega)|skip))|exact rt1 (kX3 @hk @hla @maxLen.eq_1)|fail)<;>(refine au1 (kX3 @hk @hla @maxLen.eq_1) ?_;intros;apply wr))
    exact aX (fun x=>if x=7 then 10 else x) (by rw [hI];exact ⟨i+1,(lw (b+1)),(acc++[(o,b)]),by omega,rfl,⟨by simpa using hx1,by simp;omega⟩,rfl⟩) (kX4 (zAB (n:=(i:Int)+1) (by omega) (by omega)) @zGQ @rels.eq_1 @hk)
   have hE:relL b (o::g.held.drop (i+1))=((relL b (g.held.drop (i+1))).1,(o,0)::(relL b (g.held.drop (i+1))).2):=by rw [relL,if_neg hk]
   rw [hE] at hx1;refine au1 @hget ?_;intros;apply wr
   (refine au1 (kX3 @hk @hla @maxLen.eq_1) ?_;intros;apply wr)
   repeat' ((first|(refine zAC rfl (fun h=>?_) (fun h=>?_)<;>(first|(simp [hk,hla,maxLen] at h;done)|(simp [hk,hla,maxLen] at h)|skip)<;>(first|(exfalso;omega)|skip))|exact rt1 (kX3 @hk @hla @maxLen.eq_1)|fail)<;>(refine au1 (kX3 @hk @hla @maxLen.eq_1) ?_;intros;apply wr))
   exact aX (fun x=>if x=7 then 10 else x) (by rw [hI];exact ⟨i+1,b,(acc++[(o,0)]),by omega,rfl,⟨by simpa using hx1,by simp;omega⟩,rfl⟩) (kX4 (zAB (n:=(i:Int)+1) (by omega) (by omega)) @zGQ @rels.eq_1 @hk)
  simp at hh;rw [zB6 hh] at hx1;refine au ?_;intros;apply wr;refine zAI ?_;refine zAA ?_;simp [hx1,relL,hl]
 have hE:relD g k=(g,[]):=by unfold relD;rw [if_neg hg]
 rw [hE];cases hg1:zCO g with
 | true =>
  rw [hg1] at hv;have hg2:¬ g.acked<k:=fun z=>hg ⟨hg1,z⟩
  refine sY Tryz.func52 Tryz.ntmps52 @hl ?_;intros;apply wr;exact wx1 (qX2 (hc) (hv)) trivial @hg2
 | false =>
  rw [hg1] at hv;refine sY Tryz.func52 Tryz.ntmps52 @hl ?_;intros;apply wr;exact wx (qX2 (hc) (hv)) trivial
theorem zGK (l:List EntD) (hb:l.length≤100000):zAD Tryz.prog 45 [.sl 4 false (ents l),.sl 4 false (ents l)] (.bool true):=by
 have hl:=zA8 l;refine sY Tryz.func45 Tryz.ntmps45 @hl ?_;intros;apply wr;refine gF01 rfl @hl ?_;intros;apply wr;obtain ⟨I,hI⟩:∃ I:Nat→St→Prop,I=(fun kk ss=>∃ (i:Nat) ,i≤l.length∧kk=l.length-i∧(True)∧ss=⟨26,[(5,.int .i64 i),(0,.sl 4 false (ents l)),(1,.sl 4 false (ents l))],0,[],0⟩):=⟨_,rfl⟩
 refine lX I (id) (by rw [hI];exact ⟨0,by simp,rfl,trivial,rfl⟩) ?_
 intro kk ss hIk _
 rw [hI] at hIk;obtain ⟨i,hi,rfl,hx,rfl⟩:=hIk;refine au1 @hl ?_;intros;apply wr;refine zAC rfl (fun h=>?_) (fun h=>?_)
 ·simp at h;obtain ⟨x,hx,-,-,-⟩:=get_at h;have hg:=zBO hx;refine au1 @hg ?_;intros;apply wr;refine zAG 9 [0,0,3,7,0,0,48,112,255] [(8,([[],[],[0,1],[0,1,2],[],[],[4,5],[4,5,6]],[])),(1,([],[]))] ?_;refine afm1 (kX3 @hl @hg @eqCs.eq_1) ?_;intros;apply wr;refine zBE rfl ?_;intros;apply wr;exact aX (id) (by rw [hI];exact ⟨i+1,by omega,rfl,trivial,rfl⟩) (zAB (n:=(i:Int)+1) (by omega) (by omega))
 simp at h;refine af ?_;intros;apply wr;refine zAA ?_;simp
theorem zRx (l:List SegD) (hb:l.length≤100000) (h:∀ g∈l,g.ents.length≤100000):zAD Tryz.prog 94 [.sl 3 false (segs l),.sl 3 false (segs l)] (.bool true):=by
 have hl:=zCb l;refine sY Tryz.func94 Tryz.ntmps94 @hl ?_;intros;apply wr;refine gF01 rfl @hl ?_;intros;apply wr;obtain ⟨I,hI⟩:∃ I:Nat→St→Prop,I=(fun kk ss=>∃ (i:Nat) ,i≤l.length∧kk=l.length-i∧(True)∧ss=⟨55,[(5,.int .i64 i),(0,.sl 3 false (segs l)),(1,.sl 3 false (segs l))],0,[],0⟩):=⟨_,rfl⟩
 refine lX I (id) (by rw [hI];exact ⟨0,by simp,rfl,trivial,rfl⟩) ?_
 intro kk ss hIk _
 rw [hI] at hIk;obtain ⟨i,hi,rfl,hx,rfl⟩:=hIk;refine au1 @hl ?_;intros;apply wr;refine zAC rfl (fun hh=>?_) (fun hh=>?_)
 ·simp at hh;obtain ⟨x,hx,-,-,hm⟩:=get_at hh;have hg:=zFD hx;refine au1 @hg ?_;intros;apply wr;refine zAG 38 [0,0,3,7,15,0,0,96,224,480,1023,2047,4095,4095,16383,32767,65535,4095,4095,397311,921599,1970175,4194303,8388607,16777215,33554431,33554431,134217727,268435455,536870911,33554431,33554431,3254779903,7549747199,16139681791,34359738367,68719476735,137438953471] [(10,([[],[],[0,1],[0,1,2],[0,1,2,3],[],[],[5,6],[5,6,7],[5,6,7,8]],[])),(1,([],[])),(1,([],[])),(10,([[],[],[0,1],[0,1,2],[0,1,2,3],[],[],[5,6],[5,6,7],[5,6,7,8]],[])),(1,([],[])),(1,([],[])),(1,([],[])),(10,([[],[],[0,1],[0,1,2],[0,1,2,3],[],[],[5,6],[5,6,7],[5,6,7,8]],[])),(1,([],[])),(1,([],[])),(1,([],[]))] ?_;refine afm1 (kX2 @hl @hg) ?_;intros;apply wr;refine cXf (zGK x.ents (h x hm)) ?_;intros;apply wr;refine zBE rfl ?_;intros;apply wr;exact aX (id) (by rw [hI];exact ⟨i+1,by omega,rfl,trivial,rfl⟩) (zAB (n:=(i:Int)+1) (by omega) (by omega))
 simp at hh;refine af ?_;intros;apply wr;refine zAA ?_;simp
theorem zO6 (g:GateD) (hb:g.held.length≤100000):zAD Tryz.prog 42 [.st g.row,.st g.row] (.bool true):=by
 refine sZ Tryz.func42 Tryz.ntmps42 ?_;exact wx (qX1 (zLq g.held hb)) trivial
theorem zRy (s:SndD) (hb:s.queue.length≤100000) (h:∀ g∈s.queue,g.ents.length≤100000):zAD Tryz.prog 43 [.st s.row,.st s.row] (.bool true):=by
 refine sZ Tryz.func43 Tryz.ntmps43 ?_;exact wx (qX1 (zRx s.queue hb h)) trivial
theorem zRw (r:RplD) (h1:r.m.mem.length≤100000) (h2:r.log.length≤100000):zAD Tryz.prog 41 [.st r.row,.st r.row] (.bool true):=by
 refine sZ Tryz.func41 Tryz.ntmps41 ?_;exact wx (qX2 (zIm r.m h1) (zGK r.log h2)) trivial
theorem zRu (r:RecD) (h1:r.m.mem.length≤100000) (h2:r.log.length≤100000) (h3:r.queue.length≤100000):zAD Tryz.prog 40 [.st r.row,.st r.row] (.bool true):=by
 have hl:=zEb r.queue;refine sX Tryz.func40 Tryz.ntmps40 ?_;intros;apply wr;refine cX (zIm r.m h1) ?_;intros;apply wr;refine cY (zGK r.log h2) @hl ?_;intros;apply wr;refine gF01 rfl @hl ?_;intros;apply wr;obtain ⟨I,hI⟩:∃ I:Nat→St→Prop,I=(fun kk ss=>∃ (i:Nat) ,i≤r.queue.length∧kk=r.queue.length-i∧(True)∧ss=⟨54,[(5,.int .i64 i),(2,.ptr 0 52 0 0),(3,.ptr 1 52 0 0)],2,[(0,some ⟨46,52,true,false,[r.row]⟩),(1,some ⟨46,52,true,false,[r.row]⟩)],0⟩):=⟨_,rfl⟩
 refine lX I (id) (by rw [hI];exact ⟨0,by simp,rfl,trivial,rfl⟩) ?_
 intro kk ss hIk _
 rw [hI] at hIk;obtain ⟨i,hi,rfl,hx,rfl⟩:=hIk;refine au1 @hl ?_;intros;apply wr;refine zAC rfl (fun hh=>?_) (fun hh=>?_)
 ·simp at hh;obtain ⟨x,hx,-,-,hm⟩:=get_at hh;have hg:=zOm hx;refine au1 @hg ?_;intros;apply wr;refine zAG 11 [0,1,0,7,15,0,32,0,224,480,1023] [(10,([[],[0],[],[0,1,2],[0,1,2,3],[],[5],[],[5,6,7],[5,6,7,8]],[])),(1,([],[]))] ?_;refine afm1 (kX3 @hl @hg @eqCs.eq_1) ?_;intros;apply wr;refine zBE rfl ?_;intros;apply wr;exact aX (id) (by rw [hI];exact ⟨i+1,by omega,rfl,trivial,rfl⟩) (zAB (n:=(i:Int)+1) (by omega) (by omega))
 simp at hh;refine af ?_;intros;apply wr;refine zAA ?_;simp
theorem zRv (r:RepD) (h:OkP r 40000) (he:r.inn.early=[]):zAD Tryz.prog 16 [.st r.row,.st r.row] (.bool true):=by
 have c1:=zRu r.rec_ (by have:=h.c.m.n;omega) (by have:=h.c.l;omega) (by have:=h.c.q;omega)
 have c2:=zRw r.rpl (by have:=h.p.n;omega) (by have:=h.pl;omega)
 have c3:=zO6 r.gate (by have:=h.g;omega)
 have c4:=zRy r.out (by have:=h.on;omega) (fun g hg=>by have:=(h.o g hg).n;omega)
 have c5:zAD Tryz.prog 44 [.st r.inn.row,.st r.inn.row] (.bool true):=by
  have q:=zNz r.inn.next r.inn.known;rwa [← he] at q
 have c6:=zGK r.hist (by have:=h.h;omega)
 refine sZ Tryz.func16 Tryz.ntmps16 ?_;exact wx1 (qX6 (c1) (c2) (c3) (c4) (c5) (c6)) trivial @eqCs.eq_1
theorem prim_l {m:MchD} (hM:OkM m) (limit:Int):OkL (zDm 0 m 1 limit) 0:=by
 refine ⟨rfl,rfl,rfl,hM,zA1,rfl,rfl,zUD,rfl,by simp [zDm,zDv],by simp [zDm],by simp [zDm],zHE hM,by simp [zDm,zDv],by simp [zDm,zDv]⟩
theorem OkL.input {r:RepD} {i:Nat} (h:OkL r i) (n:Int):zDh r (balE n)=({r with rec_:={r.rec_ with queue:=[balE n]}},true):=by
 have hl:zEv r=true:=by unfold zEv;rw [h.role];rfl
 unfold zDh zCE;rw [if_pos ⟨hl,.inr (.inr rfl)⟩,if_pos ⟨by rfl,by simp,by rw [h.q];simp⟩,h.q]
 rfl
theorem prim_y {m:MchD} (hM:OkM m) (hm:mayD m=true) (hs:m.dk.state=0) (limit:Int):OkY (zDm 0 m 1 limit) 0 m.count:=by
 refine ⟨prim_l hM limit,hm,rfl,rfl,rfl,rfl,rfl,Int.le_refl _,rfl,fun z=>?_,.inl rfl⟩
 have z:m.dk.state=1:=z;omega
theorem okP_q {r:RepD} {i:Nat} (h:OkL r i) (hi:i≤100) {n:Int} (hn:W32 n):OkP {r with rec_:={r.rec_ with queue:=[balE n]}} 400:=by
 have q:=h.okP hi;exact ⟨⟨h.m,h.c,q.c.l,by simp,fun e he=>by rw [List.mem_singleton.1 he];exact ⟨hn,by simp⟩,q.c.t⟩,q.p,q.pl,q.g,q.o,q.on,q.i,q.en,q.h⟩
theorem OkY.due {r:RepD} {i:Nat} {b:Int} (h:OkY r i b):¬ (zHD r=true∧r.cmd=0∧r.cmdAt<r.out.known):=by
 rintro ⟨q,-,z⟩
 unfold zHD at q;simp only [zWd,decide_eq_true_eq] at q;have:=h.dk q.2;rw [h.kn] at z;omega
theorem cloneT (xs:List (List V)) (hb:xs.length≤100000):zAD Tryz.prog 95 [.sl 1 false xs] (.new 9 1 xs):=by
 refine sX Tryz.func95 Tryz.ntmps95 ?_;intros;apply wr;refine ⟨?_,fun hx=>?_⟩
 ·refine au ?_;intros;apply wr;refine cF0 rfl ?_;refine aum1 @maxLen.eq_1 ?_;intros;apply wr;refine zAA ?_;simp
 subst hx;refine au ?_;intros;apply wr;refine gT00 rfl ?_;intros;apply wr;refine zAW 2 9 1 (by decide) rfl ?_
 refine zAA ?_;simp
theorem zOY (bs:List (List UInt8)) (g o:Int) (hb:bs.length≤100000):zAD Tryz.prog 46 [.st [.sl 1 false (strs bs),lv g,iv o]] (.st [.sl 1 false (strs bs),lv g,iv o]):=by
 refine sZ Tryz.func46 Tryz.ntmps46 ?_;exact wx (qX1 (cloneT (strs bs) (by rw [zC7];exact hb))) trivial
theorem zQj {bs:List (List UInt8)} {i:Nat} {s:List UInt8} (h:bs[i]? =some s):(strs bs)[i]? =some [.str s]:=by simp [strs,h]
theorem zR0 (l:List (List UInt8)) (hb:l.length≤100000):zAD Tryz.prog 53 [.sl 1 false (strs l),.sl 1 false (strs l)] (.bool true):=by
 have hl:=zC7 l;refine sY Tryz.func53 Tryz.ntmps53 @hl ?_;intros;apply wr;refine gF01 rfl @hl ?_;intros;apply wr;obtain ⟨I,hI⟩:∃ I:Nat→St→Prop,I=(fun kk ss=>∃ (i:Nat) ,i≤l.length∧kk=l.length-i∧(True)∧ss=⟨26,[(5,.int .i64 i),(0,.sl 1 false (strs l)),(1,.sl 1 false (strs l))],0,[],0⟩):=⟨_,rfl⟩
 refine lX I (id) (by rw [hI];exact ⟨0,by simp,rfl,trivial,rfl⟩) ?_
 intro kk ss hIk _
 rw [hI] at hIk;obtain ⟨i,hi,rfl,hx,rfl⟩:=hIk;refine au1 @hl ?_;intros;apply wr;refine zAC rfl (fun h=>?_) (fun h=>?_)
 ·simp at h;obtain ⟨x,hx,-,-,-⟩:=get_at h;have hg:=zQj hx;refine au1 @hg ?_;intros;apply wr;refine zAG 9 [0,0,3,7,0,0,48,112,255] [(8,([[],[],[0,1],[0,1,2],[],[],[4,5],[4,5,6]],[])),(1,([],[]))] ?_;refine afm1 (kX2 @hl @hg) ?_;intros;apply wr;refine zBE rfl ?_;intros;apply wr;exact aX (id) (by rw [hI];exact ⟨i+1,by omega,rfl,trivial,rfl⟩) (zAB (n:=(i:Int)+1) (by omega) (by omega))
 simp at h;refine af ?_;intros;apply wr;refine zAA ?_;simp
theorem zRz (bs:List (List UInt8)) (g o:Int) (hb:bs.length≤100000):zAD Tryz.prog 18 [.st [.sl 1 false (strs bs),lv g,iv o],.st [.sl 1 false (strs bs),lv g,iv o]] (.bool true):=by
 refine sZ Tryz.func18 Tryz.ntmps18 ?_;exact wx (qX1 (zR0 bs hb)) trivial
theorem zVk (r:RepD) (bs:List (List UInt8)) (g o:Int) (hb:bs.length≤100000) (h:OkP r 40000) (hro:r.role=1) (hk:r.out.known=r.gate.acked) (hd:¬ (zHD r=true∧r.cmd=0∧r.cmdAt<r.out.known)) :
  zAD Tryz.prog 17 [.st r.row,.st [.sl 1 false (strs bs),lv g,iv o]] (.tup [.st r.row,.st [.sl 1 false (strs bs),lv g,iv o],.sl 5 false []]):=by
 have hcl:=zH6 r h;have hcs:=zOY bs g o hb;have hlv:=zEe r;have hl:zEv r=true:=by unfold zEv;rw [hro];rfl
 rw [hl] at hlv;have hbu:=zH5 r;have hrel:=zNs r.gate r.out.known (by have:=h.g;omega)
 have hE:relD r.gate r.out.known=(r.gate,[]):=by unfold relD;rw [if_neg (by rw [hk];rintro ⟨-,q⟩;omega)]
 rw [hE] at hrel;simp only [zSS] at hrel;have hrd:zAD Tryz.prog 48 [.st r.row] (lv r.out.known):=by
  refine sX Tryz.func48 Tryz.ntmps48 ?_;intros;apply wr;refine gT10 @hro rfl ?_;intros;apply wr;refine zAA ?_;simp
 have r1:(r.role==3)=false:=by rw [hro];rfl
 have r2:decide (r.role=3)=false:=by rw [hro];rfl
 refine sX Tryz.func17 Tryz.ntmps17 ?_;intros;apply wr;refine zAG 6 [0,1,0,7,15,31] [(3,([[],[0],[]],[(2,1)])),(1,([],[])),(1,([],[])),(1,([],[]))] ?_;refine af ?_;intros;apply wr;refine cXf (hcl) ?_;intros;apply wr;refine cXf (hcs) ?_;intros;apply wr;refine cXf (hlv) ?_;intros;apply wr;refine zBE rfl ?_;intros;apply wr;cases hq:zHD r with
 | false =>
  rw [hq] at hbu;refine zAG 19 [0,1,3,7,15,31,63,127,255,511,1023,2047,4095,8191,4095,20479,65535,131071,262143] [(1,([],[])),(1,([],[])),(1,([],[])),(1,([],[])),(1,([],[])),(1,([],[])),(1,([],[])),(1,([],[])),(1,([],[])),(1,([],[])),(1,([],[])),(1,([],[])),(4,([[],[0],[],[2]],[(1,3)])),(1,([],[])),(1,([],[])),(1,([],[]))] ?_;refine af1 (kX2 @r1 @r2) ?_;intros;apply wr;refine cYf (hbu) (kX2 @r1 @r2) ?_;intros;apply wr;refine zBE rfl ?_;intros;apply wr;refine zAG 11 [0,1,0,4,15,31,63,63,127,383,1023] [(4,([[],[0],[],[2]],[(1,3)])),(1,([],[])),(1,([],[])),(4,([[],[],[0],[0,2]],[])),(1,([],[]))] ?_;refine af ?_;intros;apply wr;refine cXf (hrd) ?_;intros;apply wr;refine cXf (hrel) ?_;intros;apply wr;refine zAG 6 [0,0,0,1,11,31] [(5,([[],[],[],[0],[0,1,3]],[(1,3)])),(1,([],[]))] ?_;refine af ?_;intros;apply wr;refine zAI ?_;refine zAA ?_;simp
 | true =>
  rw [hq] at hbu;by_cases hc:r.cmd=0
  ·have hx:¬ r.cmdAt<r.out.known:=fun z=>hd ⟨hq,hc,z⟩
   have d1:(r.cmd==0)=true:=by rw [hc];rfl
   have d2:decide (r.cmd=0)=true:=by rw [hc];rfl
   have x2:decide (r.cmdAt<r.out.known)=false:=by simp only [decide_eq_false_iff_not];exact hx
   refine zAG 19 [0,1,3,7,15,31,63,127,255,511,1023,2047,4095,8191,4095,20479,65535,131071,262143] [(1,([],[])),(1,([],[])),(1,([],[])),(1,([],[])),(1,([],[])),(1,([],[])),(1,([],[])),(1,([],[])),(1,([],[])),(1,([],[])),(1,([],[])),(1,([],[])),(4,([[],[0],[],[2]],[(1,3)])),(1,([],[])),(1,([],[])),(1,([],[]))] ?_;refine af1 (kX4 @d1 @d2 @r1 @r2) ?_;intros;apply wr;refine cYf (hbu) (kX4 @d1 @d2 @r1 @r2) ?_;intros;apply wr;refine cYf (hrd) @x2 ?_;intros;apply wr;refine zBE rfl ?_;intros;apply wr;refine zAG 11 [0,1,0,4,15,31,63,63,127,383,1023] [(4,([[],[0],[],[2]],[(1,3)])),(1,([],[])),(1,([],[])),(4,([[],[],[0],[0,2]],[])),(1,([],[]))] ?_;refine af ?_;intros;apply wr;refine cXf (hrd) ?_;intros;apply wr;refine cXf (hrel) ?_;intros;apply wr;refine zAG 6 [0,0,0,1,11,31] [(5,([[],[],[],[0],[0,1,3]],[(1,3)])),(1,([],[]))] ?_;refine af ?_;intros;apply wr;refine zAI ?_;refine zAA ?_;simp
  have d1:(r.cmd==0)=false:=by simp [hc]
  have d2:decide (r.cmd=0)=false:=by simp [hc]
  refine zAG 19 [0,1,3,7,15,31,63,127,255,511,1023,2047,4095,8191,4095,20479,65535,131071,262143] [(1,([],[])),(1,([],[])),(1,([],[])),(1,([],[])),(1,([],[])),(1,([],[])),(1,([],[])),(1,([],[])),(1,([],[])),(1,([],[])),(1,([],[])),(1,([],[])),(4,([[],[0],[],[2]],[(1,3)])),(1,([],[])),(1,([],[])),(1,([],[]))] ?_;refine af1 (kX4 @d1 @d2 @r1 @r2) ?_;intros;apply wr;refine cYf (hbu) (kX4 @d1 @d2 @r1 @r2) ?_;intros;apply wr;refine zBE rfl ?_;intros;apply wr;refine zAG 11 [0,1,0,4,15,31,63,63,127,383,1023] [(4,([[],[0],[],[2]],[(1,3)])),(1,([],[])),(1,([],[])),(4,([[],[],[0],[0,2]],[])),(1,([],[]))] ?_;refine af ?_;intros;apply wr;refine cXf (hrd) ?_;intros;apply wr;refine cXf (hrel) ?_;intros;apply wr;refine zAG 6 [0,0,0,1,11,31] [(5,([[],[],[],[0],[0,1,3]],[(1,3)])),(1,([],[]))] ?_;refine af ?_;intros;apply wr;refine zAI ?_;refine zAA ?_;simp
end Go.Proofs.YtoondlebmacanaaGreat
end
