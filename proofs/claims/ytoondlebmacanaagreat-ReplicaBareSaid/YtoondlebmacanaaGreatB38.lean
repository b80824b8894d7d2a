/- A part of the proof of ReplicaBare+ReplicaWindow. -/
import Derived.Test.YtoondlebmacanaaGreatB06
import Derived.Test.YtoondlebmacanaaGreatB20
import Derived.Test.YtoondlebmacanaaGreatB36
import Derived.Test.YtoondlebmacanaaGreatB37
set_option linter.unusedSimpArgs false
set_option linter.unusedVariables false
set_option maxHeartbeats 16000000
set_option maxRecDepth 100000
section
namespace Go.Proofs.YtoondlebmacanaaGreat
open Go.Ab Go.RowKit
theorem zU9 (g:GateD) (l:List OutD) (h1:g.held.length≤50000) (h2:l.length≤10000):zAD Tryz.prog 74 [.st g.row,.sl 4 false (outs l)] (.tup [.st (zF6 g l).1.row,.bool (zF6 g l).2]):=by
 have hl:=zAw g.held;have hl2:=zAw l;have hc:=zFs (outs g.held) false 4 (.inl rfl) (by omega)
 have hv:=zKi g;cases hg:zCO g with
 | false =>
  rw [hg] at hv;refine sY Tryz.func74 Tryz.ntmps74 @hl ?_;intros;apply wr;exact wx1 (qX2 (hc) (hv)) trivial (kX2 @zF6.eq_1 @hg)
 | true =>
  rw [hg] at hv;refine sY Tryz.func74 Tryz.ntmps74 @hl ?_;intros;apply wr;refine cX (hc) ?_;intros;apply wr;refine cX (hv) ?_;intros;apply wr;refine gF00 rfl ?_;intros;apply wr;refine cY (hc) @hl2 ?_;intros;apply wr;obtain ⟨I,hI⟩:∃ I:Nat→St→Prop,I=(fun kk ss=>∃ (i:Nat) (x:GateD),i≤l.length∧kk=l.length-i∧(x=(l.take i).foldl zCR g∧x.acked=g.acked∧x.held.length≤50000+i)∧ss=⟨62,[(26,.int .i64 i),(25,.int .i64 l.length),(24,.sl 4 false (outs l)),(2,.ptr 0 3 0 0),(7,.ptr 5 3 0 0),(6,.ptr 2 3 0 0),(4,.ptr 1 3 0 0)],7,[(0,some ⟨51,3,true,false,[g.row]⟩),(1,some ⟨51,3,true,false,[[.sl 0 true [],lv 0,lv 0]]⟩),(2,some ⟨51,3,true,false,[[.own 3,lv g.acked,lv g.bytes]]⟩),(3,some ⟨81,4,false,false,outs g.held⟩),(5,some ⟨51,3,true,false,[[.own 6,lv x.acked,lv x.bytes]]⟩),(6,some ⟨81,4,false,false,outs x.held⟩)],0⟩):=⟨_,rfl⟩
  refine lX I (id) (by rw [hI];exact ⟨0,g,by simp,rfl,⟨rfl,rfl,by omega⟩,rfl⟩) ?_
  intro kk ss hIk _
  rw [hI] at hIk;obtain ⟨i,x,hi,rfl,hx,rfl⟩:=hIk;obtain ⟨hx1,hx2,hx3⟩:=hx;refine au1 @hl2 ?_;intros;apply wr;refine zAC rfl (fun hh=>?_) (fun hh=>?_)
  ·simp at hh;obtain ⟨o,ho,-,ht,-⟩:=get_at hh;have hget:=zC5 ho;have hnx:(l.take (i+1)).foldl zCR g=zCR x o:=by rw [ht,List.foldl_append,← hx1];rfl
   have hlx:=zAw x.held;refine au1 @hget ?_;intros;apply wr;by_cases hk:o.kind≠1∧o.kind≠2
   ·have hE:zCR x o=x:=by unfold zCR;rw [if_pos hk]
    rw [hE] at hnx;obtain ⟨k1,k2⟩:=hk
    (refine au1 (kX2 @k1 @k2) ?_;intros;apply wr)
    repeat' ((first|(refine zAC rfl (fun h=>?_) (fun h=>?_)<;>(first|(simp [k1,k2] at h;done)|(simp [k1,k2] at h)|skip)<;>(first|(exfalso;omega)|skip))|exact rt1 (kX2 @k1 @k2)|fail)<;>(refine au1 (kX2 @k1 @k2) ?_;intros;apply wr))
    exact aX (id) (by rw [hI];exact ⟨i+1,x,by omega,rfl,⟨hnx.symm,hx2,by omega⟩,rfl⟩) (zAB (n:=(i:Int)+1) (by omega) (by omega))
   by_cases ha:g.acked≤o.at_
   ·have hE:zCR x o={x with held:=x.held++[o]}:=by unfold zCR;rw [if_neg hk,hx2,if_pos ha]
    rw [hE] at hnx
    (refine au1 (kX3 @ha @hlx @maxLen.eq_1) ?_;intros;apply wr)
    repeat' ((first|(refine zAC rfl (fun h=>?_) (fun h=>?_)<;>(first|(simp [ha,hlx,maxLen] at h;done)|(simp [ha,hlx,maxLen] at h)|skip)<;>(first|(exfalso;omega)|skip))|exact rt1 (kX3 @ha @hlx @maxLen.eq_1)|fail)<;>(refine au1 (kX3 @ha @hlx @maxLen.eq_1) ?_;intros;apply wr))
    exact aX (fun x=>if x=6 then 9 else x) (by rw [hI];exact ⟨i+1,({x with held:=x.held++[o]}),by omega,rfl,⟨hnx.symm,hx2,by simp;omega⟩,rfl⟩) (kX3 (zAB (n:=(i:Int)+1) (by omega) (by omega)) @zBI @zId)
   by_cases hb:o.kind=1
   ·have hE:zCR x o={x with bytes:=lw (x.bytes+1)}:=by unfold zCR;rw [if_neg hk,hx2,if_neg ha,if_pos hb]
    rw [hE] at hnx
    (refine au1 (kX2 @ha @hb) ?_;intros;apply wr)
    repeat' ((first|(refine zAC rfl (fun h=>?_) (fun h=>?_)<;>(first|(simp [ha,hb] at h;done)|(simp [ha,hb] at h)|skip)<;>(first|(exfalso;omega)|skip))|exact rt1 (kX2 @ha @hb)|fail)<;>(refine au1 (kX2 @ha @hb) ?_;intros;apply wr))
    exact aX (id) (by rw [hI];exact ⟨i+1,({x with bytes:=lw (x.bytes+1)}),by omega,rfl,⟨hnx.symm,hx2,by simp;omega⟩,rfl⟩) (zAB (n:=(i:Int)+1) (by omega) (by omega))
   have hE:zCR x o=x:=by unfold zCR;rw [if_neg hk,hx2,if_neg ha,if_neg hb]
   rw [hE] at hnx;have hk2:o.kind=2:=by omega
   (refine au1 (kX2 @ha @hk2) ?_;intros;apply wr)
   repeat' ((first|(refine zAC rfl (fun h=>?_) (fun h=>?_)<;>(first|(simp [ha,hk2] at h;done)|(simp [ha,hk2] at h)|skip)<;>(first|(exfalso;omega)|skip))|exact rt1 (kX2 @ha @hk2)|fail)<;>(refine au1 (kX2 @ha @hk2) ?_;intros;apply wr))
   exact aX (id) (by rw [hI];exact ⟨i+1,x,by omega,rfl,⟨hnx.symm,hx2,by omega⟩,rfl⟩) (zAB (n:=(i:Int)+1) (by omega) (by omega))
  simp at hh;rw [zFE hh] at hx1;have hv2:=zKi x;refine au ?_;intros;apply wr;exact wx1 (qX1 (hv2)) trivial (kX2 @zF6.eq_1 @hg)
def rels (l:List (OutD × Int)):List (List V):=l.map fun p=>[iv p.1.kind,lv p.1.at_,uv p.1.block,.str p.1.data,lv p.2]
@[simp] theorem zSS:rels []=[]:=rfl
theorem cut_ok (r:RecD) (h1:r.m.mem.length≤100000) (h2:r.log.length≤100000) (h3:r.queue.length≤100000):zAD Tryz.prog 75 [.st r.row] (.tup [.st (cutD r).row,zBu r.log,lv r.m.count]):=by
 refine sZ Tryz.func75 Tryz.ntmps75 ?_
 (refine af1 @cutD.eq_1 ?_;intros;apply wr)
 repeat' ((first|(refine zAC rfl (fun h=>?_) (fun h=>?_)<;>(first|(simp [cutD] at h;done)|(simp [cutD] at h)|skip)<;>(first|(exfalso;omega)|skip))|refine cc1 (zE8 r h1 h2 h3) @cutD.eq_1 ?_|(refine zAG 8 [0,0,0,4,12,1,35,127] [(7,([[],[],[],[2],[2,3],[0],[0,1,5]],[(4,5)])),(1,([],[]))] ?_)|exact rt1 @cutD.eq_1|fail)<;>(refine af1 @cutD.eq_1 ?_;intros;apply wr))
theorem zVa (s:SndD) (g:SegD) (hs:∀ g∈s.queue,OkG g) (hg:OkG g) (hn:s.queue.length≤1000):zAD Tryz.prog 77 [.st s.row,.st g.row] (.tup [.st (zDJ s g).1.row,iv (zDJ s g).2]):=by
 have hc:=zNE s (fun g h=>by have:=(hs g h).n;omega) hn
 have hse:=zN1 s hs;have hE:=zJQ g hg;have hcg:=zJI g (by have:=hg.n;omega)
 have hl:=zCb s.queue;by_cases h1:g.from_≠s.tail∨zDM s=false
 ·have hR:zDJ s g=(s,2400):=by unfold zDJ;rw [if_pos h1]
  have h1b:(g.from_ != s.tail||!zDM s)=true:=by rcases h1 with q|q<;>simp [q]
  rw [hR];refine sX Tryz.func77 Tryz.ntmps77 ?_;intros;apply wr;refine cX (hc) ?_;intros;apply wr;refine cX (hse) ?_;intros;apply wr;refine gT10 @h1b rfl ?_;intros;apply wr;refine zAI ?_;refine zAA ?_;simp
 have h2:g.from_=s.tail:=by simpa using fun z=>h1 (.inl z)
 have h3:zDM s=true:=by simpa using fun z=>h1 (.inr z)
 rw [h3] at hse;refine sX Tryz.func77 Tryz.ntmps77 ?_;intros;apply wr;refine cX (hc) ?_;intros;apply wr;refine cX (hse) ?_;intros;apply wr;refine cF1 @h2 rfl ?_;by_cases h4:(zCJ g).2≠0
 ·have hR:zDJ s g=(s,(zCJ g).2):=by unfold zDJ;rw [if_neg h1,if_pos h4]
  rw [hR]
  (refine af1 @h4 ?_;intros;apply wr)
  repeat' ((first|(refine zAC rfl (fun h=>?_) (fun h=>?_)<;>(first|(simp [h4] at h;done)|(simp [h4] at h)|skip)<;>(first|(exfalso;omega)|skip))|refine cc1 (hE) @h4 ?_|(refine zAG 8 [0,1,0,4,12,31,63,127] [(5,([[],[0],[],[2],[2,3]],[(1,3),(1,4)])),(1,([],[])),(1,([],[])),(1,([],[]))] ?_)|exact rt1 @h4|fail)<;>(refine af1 @h4 ?_;intros;apply wr))
 have h4':(zCJ g).2=0:=by simpa using h4
 rw [h4'] at hE;by_cases h5:8≤s.queue.length
 ·have hR:zDJ s g=(s,2401):=by unfold zDJ;rw [if_neg h1,if_neg h4,if_pos h5]
  rw [hR];have h6:(8:Int)≤s.queue.length:=by omega
  (refine af1 (kX2 @h6 @hl) ?_;intros;apply wr)
  repeat' ((first|(refine zAC rfl (fun h=>?_) (fun h=>?_)<;>(first|(simp [h6,hl] at h;done)|(simp [h6,hl] at h)|skip)<;>(first|(exfalso;omega)|skip))|refine cc1 (hE) (kX2 @h6 @hl) ?_|(refine zAG 8 [0,1,0,4,12,31,63,127] [(5,([[],[0],[],[2],[2,3]],[(1,3),(1,4)])),(1,([],[])),(1,([],[])),(1,([],[]))] ?_)|exact rt1 (kX2 @h6 @hl)|fail)<;>(refine af1 (kX2 @h6 @hl) ?_;intros;apply wr))
 have hR:zDJ s g=({s with queue:=s.queue++[g],tail:=g.known},0):=by unfold zDJ;rw [if_neg h1,if_neg h4,if_neg h5]
 rw [hR];have h6:¬ (8:Int)≤s.queue.length:=by omega
 (refine af1 (kX5 @h6 @hl @zCa @zCQ @maxLen.eq_1) ?_;intros;apply wr)
 repeat' ((first|(refine zAC rfl (fun h=>?_) (fun h=>?_)<;>(first|(simp [h6,hl,zCa,zCQ,maxLen] at h;done)|(simp [h6,hl,zCa,zCQ,maxLen] at h)|skip)<;>(first|(exfalso;omega)|skip))|refine cc1 (hE) (kX5 @h6 @hl @zCa @zCQ @maxLen.eq_1) ?_|refine cc1 (hcg) (kX5 @h6 @hl @zCa @zCQ @maxLen.eq_1) ?_|(refine zAG 8 [0,1,0,4,12,31,63,127] [(5,([[],[0],[],[2],[2,3]],[(1,3),(1,4)])),(1,([],[])),(1,([],[])),(1,([],[]))] ?_)|exact rt1 (kX5 @h6 @hl @zCa @zCQ @maxLen.eq_1)|fail)<;>(refine af1 (kX5 @h6 @hl @zCa @zCQ @maxLen.eq_1) ?_;intros;apply wr))
 refine zAI ?_;refine zAA ?_;simp [hR,zCa,zCQ]
theorem zEe (r:RepD):zAD Tryz.prog 19 [.st r.row] (.bool (zEv r)):=by
 refine sZ Tryz.func19 Tryz.ntmps19 ?_;exact wx1 trivial trivial @zEv.eq_1
theorem zH5 (r:RepD):zAD Tryz.prog 47 [.st r.row] (.bool (zHD r)):=by
 refine sZ Tryz.func47 Tryz.ntmps47 ?_;exact wx1 (qX1 (zEe r)) trivial @zHD.eq_1
theorem zCL (m:MchD) (h1:m.mem.length≤100000):zAD Tryz.prog 33 [.st m.row] (.st m.row):=by
 refine sZ Tryz.func33 Tryz.ntmps33 ?_;exact wx (qX1 (zBi (ints .u32 m.mem) false 1 (.inl rfl) (by rw [zAN];exact h1))) trivial
theorem zGF (g:SegD) (h:g.ents.length≤100000):zAD Tryz.prog 68 [.st g.row] (.st g.row):=by
 refine sZ Tryz.func68 Tryz.ntmps68 ?_;exact wx (qX1 (zDC (ents g.ents) false 4 (.inl rfl) (by rw [zA8];exact h))) trivial
theorem zMd {α:Type} {L:List α} {i:Nat} {x:α} (h:L[i]? =some x):L.set i x=L:=by
 apply List.ext_getElem?;intro j;rw [List.getElem?_set];split
 ·rename_i e;subst e;split
  ·exact h.symm
  rw [zWy (by omega)]
 rfl
structure OkP (r:RepD) (k:Nat):Prop where
 c:OkR r.rec_ k
 p:OkM r.rpl.m
 pl:r.rpl.log.length≤50000
 g:r.gate.held.length≤40000
 o:∀ g∈r.out.queue,OkG g
 on:r.out.queue.length≤100
 i:∀ e∈r.inn.early,OkG e.2
 en:r.inn.early.length≤100
 h:r.hist.length≤40000
abbrev repC (r:RepD) (a b c d e f g:V):List V:=[iv r.host,iv r.role,lv r.gen]++(r.rec_.m.row++([uv r.rec_.clock,a,b]++(r.rpl.m.row++[c,lv r.rpl.known,uv r.rpl.clock,d,lv r.gate.acked,lv r.gate.bytes,lv r.mark,lv r.out.base,lv r.out.tail,lv r.out.known,e,lv r.inn.next,lv r.inn.known,f,iv r.watch.limit,iv r.watch.silent,lv r.watch.seen,lv r.beats,iv r.cmd,lv r.cmdAt,g])))
abbrev zRR:List V:=[iv 0,iv 0,lv 0]++(zMR++([uv 0,.sl 0 true [],.sl 0 true []]++(zMR++[.sl 0 true [],lv 0,uv 0,.sl 0 true [],lv 0,lv 0,lv 0,lv 0,lv 0,lv 0,.sl 0 true [],lv 0,lv 0,.sl 0 true [],iv 0,iv 0,lv 0,lv 0,iv 0,lv 0,.sl 0 true []])))
abbrev repO (cs:List V):Ob:=⟨61,125,true,false,[cs]⟩
theorem zLq (l:List OutD) (hb:l.length≤100000):zAD Tryz.prog 15 [.sl 4 false (outs l),.sl 4 false (outs l)] (.bool true):=by
 have hl:=zAw l;refine sY Tryz.func15 Tryz.ntmps15 @hl ?_;intros;apply wr;refine gF01 rfl @hl ?_;intros;apply wr;obtain ⟨I,hI⟩:∃ I:Nat→St→Prop,I=(fun kk ss=>∃ (i:Nat) ,i≤l.length∧kk=l.length-i∧(True)∧ss=⟨26,[(5,.int .i64 i),(0,.sl 4 false (outs l)),(1,.sl 4 false (outs l))],0,[],0⟩):=⟨_,rfl⟩
 refine lX I (id) (by rw [hI];exact ⟨0,by simp,rfl,trivial,rfl⟩) ?_
 intro kk ss hIk _
 rw [hI] at hIk;obtain ⟨i,hi,rfl,hx,rfl⟩:=hIk;refine au1 @hl ?_;intros;apply wr;refine zAC rfl (fun h=>?_) (fun h=>?_)
 ·simp at h;obtain ⟨x,hx,-,-,-⟩:=get_at h;have hg:=zC5 hx;refine au1 @hg ?_;intros;apply wr;refine zAG 9 [0,0,3,7,0,0,48,112,255] [(8,([[],[],[0,1],[0,1,2],[],[],[4,5],[4,5,6]],[])),(1,([],[]))] ?_;refine afm1 (kX3 @hl @hg @eqCs.eq_1) ?_;intros;apply wr;refine zBE rfl ?_;intros;apply wr;exact aX (id) (by rw [hI];exact ⟨i+1,by omega,rfl,trivial,rfl⟩) (zAB (n:=(i:Int)+1) (by omega) (by omega))
 simp at h;refine af ?_;intros;apply wr;refine zAA ?_;simp
end Go.Proofs.YtoondlebmacanaaGreat
end
