/- A part of the proof of ReplicaHalts. -/
import Derived.Test.YthjpcmecgjfilaaGreatH03
import Derived.Test.YthjpcmecgjfilaaGreatH12
import Derived.Test.YthjpcmecgjfilaaGreatH26
import Derived.Test.YthjpcmecgjfilaaGreatH30
set_option linter.unusedSimpArgs false
set_option linter.unusedVariables false
set_option maxHeartbeats 16000000
set_option maxRecDepth 100000
section
namespace Go.Proofs.YthjpcmecgjfilaaGreat
open Go.Ab Go.RowKit Tryz
theorem cut_ok (r:RecD) (h1:r.m.mem.length<=100000) (h2:r.log.length<=100000) (h3:r.queue.length<=100000):zAD prog 77 [.st r.row] (.tup [.st (cutD r).row,zBZ r.log,lv r.m.count]):=by
 refine sZ func77 ntmps77 ?_
 (refine af1 @cutD.eq_1 ?_;intros;apply wr)
 repeat' ((first|(refine zAC rfl (fun h=>?_) (fun h=>?_)<;>(first|(simp [cutD] at h;done)|(simp [cutD] at h)|skip)<;>(first|(exfalso;omega)|skip))|refine cc1 (zKI r h1 h2 h3) @cutD.eq_1 ?_|(refine zAE 8 [0,0,0,4,12,1,35,127] [(7,([[],[],[],[2],[2,3],[0],[0,1,5]],[(4,5)])),(1,([],[]))] ?_)|exact rt1 @cutD.eq_1|fail)<;>(refine af1 @cutD.eq_1 ?_;intros;apply wr))
theorem zU6 (s:SndD) (g:SegD) (hs:∀ g∈s.queue,OkG g) (hg:OkG g) (hn:s.queue.length<=1000):zAD prog 79 [.st s.row,.st g.row] (.tup [.st (zCP s g).1.row,iv (zCP s g).2]):=by
 have hc:=zDw s (fun g h=>by have:=(hs g h).n;omega) hn
 have hse:=zED s hs;have hE:=zGY g hg;have hcg:=zJX g (by have:=hg.n;omega)
 have hl:=zB5 s.queue;by_cases h1:g.from_≠s.tail\/zBQ s=false
 ·have hR:zCP s g=(s,2400):=by unfold zCP;rw [if_pos h1]
  have h1b:(g.from_ != s.tail||!zBQ s)=true:=by rcases h1 with q|q<;>simp [q]
  rw [hR];refine sX func79 ntmps79 ?_;intros;apply wr;refine cX (hc) ?_;intros;apply wr;refine cX (hse) ?_;intros;apply wr;refine gT10 @h1b rfl ?_;intros;apply wr;refine zAI ?_;refine zAB ?_;simp
 have h2:g.from_=s.tail:=by simpa using fun z=>h1 (.inl z)
 have h3:zBQ s=true:=by simpa using fun z=>h1 (.inr z)
 rw [h3] at hse;refine sX func79 ntmps79 ?_;intros;apply wr;refine cX (hc) ?_;intros;apply wr;refine cX (hse) ?_;intros;apply wr;refine cF1 @h2 rfl ?_;by_cases h4:(zAY g).2≠0
 ·have hR:zCP s g=(s,(zAY g).2):=by unfold zCP;rw [if_neg h1,if_pos h4]
  rw [hR]
  (refine af1 @h4 ?_;intros;apply wr)
  repeat' ((first|(refine zAC rfl (fun h=>?_) (fun h=>?_)<;>(first|(simp [h4] at h;done)|(simp [h4] at h)|skip)<;>(first|(exfalso;omega)|skip))|refine cc1 (hE) @h4 ?_|(refine zAE 8 [0,1,0,4,12,31,63,127] [(5,([[],[0],[],[2],[2,3]],[(1,3),(1,4)])),(1,([],[])),(1,([],[])),(1,([],[]))] ?_)|exact rt1 @h4|fail)<;>(refine af1 @h4 ?_;intros;apply wr))
 have h4':(zAY g).2=0:=by simpa using h4
 rw [h4'] at hE;by_cases h5:8<=s.queue.length
 ·have hR:zCP s g=(s,2401):=by unfold zCP;rw [if_neg h1,if_neg h4,if_pos h5]
  rw [hR];have h6:(8:Int)<=s.queue.length:=by omega
  (refine af1 (kX2 @h6 @hl) ?_;intros;apply wr)
  repeat' ((first|(refine zAC rfl (fun h=>?_) (fun h=>?_)<;>(first|(simp [h6,hl] at h;done)|(simp [h6,hl] at h)|skip)<;>(first|(exfalso;omega)|skip))|refine cc1 (hE) (kX2 @h6 @hl) ?_|(refine zAE 8 [0,1,0,4,12,31,63,127] [(5,([[],[0],[],[2],[2,3]],[(1,3),(1,4)])),(1,([],[])),(1,([],[])),(1,([],[]))] ?_)|exact rt1 (kX2 @h6 @hl)|fail)<;>(refine af1 (kX2 @h6 @hl) ?_;intros;apply wr))
 have hR:zCP s g=({s with queue:=s.queue++[g],tail:=g.known},0):=by unfold zCP;rw [if_neg h1,if_neg h4,if_neg h5]
 rw [hR];have h6:¬ (8:Int)<=s.queue.length:=by omega
 (refine af1 (kX5 @h6 @hl @zCS @zAr @maxLen.eq_1) ?_;intros;apply wr)
 repeat' ((first|(refine zAC rfl (fun h=>?_) (fun h=>?_)<;>(first|(simp [h6,hl,zCS,zAr,maxLen] at h;done)|(simp [h6,hl,zCS,zAr,maxLen] at h)|skip)<;>(first|(exfalso;omega)|skip))|refine cc1 (hE) (kX5 @h6 @hl @zCS @zAr @maxLen.eq_1) ?_|refine cc1 (hcg) (kX5 @h6 @hl @zCS @zAr @maxLen.eq_1) ?_|(refine zAE 8 [0,1,0,4,12,31,63,127] [(5,([[],[0],[],[2],[2,3]],[(1,3),(1,4)])),(1,([],[])),(1,([],[])),(1,([],[]))] ?_)|exact rt1 (kX5 @h6 @hl @zCS @zAr @maxLen.eq_1)|fail)<;>(refine af1 (kX5 @h6 @hl @zCS @zAr @maxLen.eq_1) ?_;intros;apply wr))
 refine zAI ?_;refine zAB ?_;simp [hR,zCS,zAr]
theorem zGm (r:RepD):zAD prog 22 [.st r.row] (.bool (zFK r)):=by
 refine sZ func22 ntmps22 ?_;exact wx1 trivial trivial @zFK.eq_1
theorem zIM (r:RepD):zAD prog 45 [.st r.row] (.bool (zEG r)):=by
 refine sZ func45 ntmps45 ?_;exact wx1 (qX1 (zGm r)) trivial @zEG.eq_1
theorem zF3 (m:MchD) (h1:m.mem.length<=100000):zAD prog 39 [.st m.row] (.st m.row):=by
 refine sZ func39 ntmps39 ?_;exact wx (qX1 (zCH (ints .u32 m.mem) false 1 (.inl rfl) (by rw [zAN];exact h1))) trivial
theorem zLn (g:SegD) (h:g.ents.length<=100000):zAD prog 70 [.st g.row] (.st g.row):=by
 refine sZ func70 ntmps70 ?_;exact wx (qX1 (zFf (ents g.ents) false 4 (.inl rfl) (by rw [zAt];exact h))) trivial
theorem zMj {α:Type} {L:List α} {i:Nat} {x:α} (h:L[i]? =some x):L.set i x=L:=by
 apply List.ext_getElem?;intro j;rw [List.getElem?_set];split
 ·rename_i e;subst e;split
  ·exact h.symm
  rw [List.getElem?_eq_none (by omega)]
 rfl
structure OkP (r:RepD) (k:Nat):Prop where
 c:OkR r.rec_ k
 p:OkM r.rpl.m
 pl:r.rpl.log.length<=50000
 g:r.gate.held.length<=40000
 o:∀ g∈r.out.queue,OkG g
 on:r.out.queue.length<=100
 i:∀ e∈r.inn.early,OkG e.2
 en:r.inn.early.length<=100
 h:r.hist.length<=40000
abbrev repC (r:RepD) (a b c d e f g:V):List V:=[iv r.host,iv r.role,lv r.gen]++(r.rec_.m.row++([uv r.rec_.clock,a,b]++(r.rpl.m.row++[c,lv r.rpl.known,uv r.rpl.clock,d,lv r.gate.acked,lv r.gate.bytes,lv r.mark,lv r.out.base,lv r.out.tail,lv r.out.known,e,lv r.inn.next,lv r.inn.known,f,iv r.watch.limit,iv r.watch.silent,lv r.watch.seen,lv r.beats,iv r.cmd,lv r.cmdAt,g])))
abbrev zRR:List V:=[iv 0,iv 0,lv 0]++(zMR++([uv 0,.sl 0 true [],.sl 0 true []]++(zMR++[.sl 0 true [],lv 0,uv 0,.sl 0 true [],lv 0,lv 0,lv 0,lv 0,lv 0,lv 0,.sl 0 true [],lv 0,lv 0,.sl 0 true [],iv 0,iv 0,lv 0,lv 0,iv 0,lv 0,.sl 0 true []])))
abbrev repO (cs:List V):Ob:=⟨61,125,true,false,[cs]⟩
theorem zB4 (r:RepD) (h:OkP r 40000):zAD prog 28 [.st r.row] (.st r.row):=by
 have c1:=zF3 r.rec_.m (by have:=h.c.m.n;omega)
 have c2:=zF3 r.rpl.m (by have:=h.p.n;omega)
 have c3:=zFf (ents r.rec_.log) false 4 (.inl rfl) (by rw [zAt];have:=h.c.l;omega)
 have c4:=zOO (evs r.rec_.queue) false 3 (.inl rfl) (by rw [zGb];have:=h.c.q;omega)
 have c5:=zFf (ents r.rpl.log) false 4 (.inl rfl) (by rw [zAt];have:=h.pl;omega)
 have c6:=zLm (outs r.gate.held) false 4 (.inl rfl) (by rw [zBD];have:=h.g;omega)
 have c7:=cloneS (segs r.out.queue) false 3 (.inl rfl) (by rw [zB5];have:=h.on;omega)
 have c8:=cloneY (zGX r.inn.early) false 4 (.inl rfl) (by rw [zJh];have:=h.en;omega)
 have c9:=zFf (ents r.hist) false 4 (.inl rfl) (by rw [zAt];have:=h.h;omega)
 have hl1:=zB5 r.out.queue;have hl2:=zJh r.inn.early;have hon:=h.on;have hen:=h.en;refine sX func28 ntmps28 ?_;intros;apply wr;refine cX (c1) ?_;intros;apply wr;refine cX (c3) ?_;intros;apply wr;refine cX (c4) ?_;intros;apply wr;refine cX (c2) ?_;intros;apply wr;refine cX (c5) ?_;intros;apply wr;refine cX (c6) ?_;intros;apply wr;refine cY (c7) @hl1 ?_;intros;apply wr;obtain ⟨I,hI⟩:∃ I:Nat->St->Prop,I=(fun kk ss=>∃ (i:Nat) ,i<=r.out.queue.length/\kk=r.out.queue.length-i/\(True)/\ss=⟨96,[(53,.int .i64 i),(52,.int .i64 r.out.queue.length),(51,.own 104),(1,.ptr 0 125 0 0),(2,.ptr 1 125 0 0)],105,[(0,some (repO (repC r (.own 51) (.own 52) (.own 102) (.own 103) (.own 104) (.sl 4 false (zGX r.inn.early)) (zBZ r.hist)))),(1,some (repO zRR)),(51,some (logO r.rec_.log)),(52,some ⟨72,3,false,false,evs r.rec_.queue⟩),(102,some (logO r.rpl.log)),(103,some ⟨90,4,false,false,outs r.gate.held⟩),(104,some ⟨150,3,false,false,segs r.out.queue⟩)],0⟩):=⟨_,rfl⟩
 refine lX I (id) (by rw [hI];exact ⟨0,by simp,rfl,trivial,rfl⟩) ?_
 intro kk ss hIk _
 rw [hI] at hIk;obtain ⟨i,hi,rfl,hx,rfl⟩:=hIk;refine au1 @hl1 ?_;intros;apply wr;refine zAC rfl (fun hh=>?_) (fun hh=>?_)
 ·simp at hh;obtain ⟨g,hg,-,-,hmem⟩:=get_at hh;have hget:=zEB hg;have hset:=zMj hget;have cg:=zLn g (by have:=(h.o g hmem).n;omega)
  refine au1 @hget ?_;intros;apply wr;refine zAE 8 [0,1,3,0,0,16,63,127] [(6,([[],[0],[0,1],[],[],[4]],[(2,5)])),(1,([],[])),(1,([],[]))] ?_;refine af ?_;intros;apply wr;refine cYf (cg) @hl1 ?_;intros;apply wr;exact aX (id) (by rw [hI];exact ⟨i+1,by omega,rfl,trivial,rfl⟩) (kX3 (zAA (n:=(i:Int)+1) (by omega) (by omega)) @hget @hset)
 simp at hh;refine af ?_;intros;apply wr;refine cYf (c8) @hl2 ?_;intros;apply wr;obtain ⟨Ij,hIj⟩:∃ I:Nat->St->Prop,I=(fun kk ss=>∃ (j:Nat) ,j<=r.inn.early.length/\kk=r.inn.early.length-j/\(True)/\ss=⟨96,[(76,.int .i64 j),(75,.int .i64 r.inn.early.length),(74,.own 105),(1,.ptr 0 125 0 0),(2,.ptr 1 125 0 0)],106,[(0,some (repO (repC r (.own 51) (.own 52) (.own 102) (.own 103) (.own 104) (.own 105) (zBZ r.hist)))),(1,some (repO zRR)),(51,some (logO r.rec_.log)),(52,some ⟨72,3,false,false,evs r.rec_.queue⟩),(102,some (logO r.rpl.log)),(103,some ⟨90,4,false,false,outs r.gate.held⟩),(104,some ⟨150,3,false,false,segs r.out.queue⟩),(105,some ⟨154,4,false,false,zGX r.inn.early⟩)],0⟩):=⟨_,rfl⟩
 refine lX Ij (id) (by rw [hIj];exact ⟨0,by simp,rfl,trivial,rfl⟩) ?_
 intro kk ss hIk _
 rw [hIj] at hIk;obtain ⟨j,hj,rfl,hxj,rfl⟩:=hIk;refine af1 @hl2 ?_;intros;apply wr;refine zAC rfl (fun hh2=>?_) (fun hh2=>?_)
 ·simp at hh2;obtain ⟨e,he,-,-,hmem⟩:=get_at hh2;have hget:=zOa he;have hset:=zMj hget;have cg:=zLn e.2 (by have:=(h.i e hmem).n;omega)
  refine af1 @hget ?_;intros;apply wr;refine zAE 10 [0,1,3,0,0,16,48,127,255,511] [(7,([[],[0],[0,1],[],[],[4],[4,5]],[(2,6)])),(1,([],[])),(1,([],[])),(1,([],[]))] ?_;refine af ?_;intros;apply wr;refine cYf (cg) @hl2 ?_;intros;apply wr;exact aX (id) (by rw [hIj];exact ⟨j+1,by omega,rfl,trivial,rfl⟩) (kX3 (zAA (n:=(j:Int)+1) (by omega) (by omega)) @hget @hset)
 simp at hh2;refine af ?_;intros;apply wr;refine cXf (c9) ?_;intros;apply wr;refine zAI ?_;refine zAB ?_;simp
end Go.Proofs.YthjpcmecgjfilaaGreat
end
