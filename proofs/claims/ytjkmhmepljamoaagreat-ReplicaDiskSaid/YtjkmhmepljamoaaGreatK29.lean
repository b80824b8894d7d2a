/- A part of the proof of ReplicaDisk. -/
import Derived.Test.YtjkmhmepljamoaaGreatK06
import Derived.Test.YtjkmhmepljamoaaGreatK14
import Derived.Test.YtjkmhmepljamoaaGreatK27
set_option linter.all false
set_option maxHeartbeats 16000000
set_option maxRecDepth 100000
section
namespace Go.Proofs.YtjkmhmepljamoaaGreat
open Go.Ab Go.RowKit Tryz
theorem cut_ok(r:RecD)(h1:r.m.mem.length<=100000)(h2:r.log.length<=100000)(h3:r.queue.length<=100000):AC prog 68 [.st r.row] (.tup [.st (Qz r).row,Bo r.log,lv r.m.count]):=by
 refine sZ func68 ntmps68 ?_
 (refine af1 @Qz.eq_1 ?_;intros;apply wr)
 repeat' ((first|(refine AB rfl (fun h=>?_) (fun h=>?_)<;>(first|(simp[Qz]at h;done)|(simp[Qz]at h)|skip)<;>(first|(exfalso;omega)|skip))|refine cc1 (NQ r h1 h2 h3) @Qz.eq_1 ?_|(refine AD 8 [0,0,0,4,12,1,35,127] [(7,([[],[],[],[2],[2,3],[0],[0,1,5]],[(4,5)])),(1,([],[]))] ?_)|exact rt1 @Qz.eq_1|fail)<;>(refine af1 @Qz.eq_1 ?_;intros;apply wr))
theorem dH(s:SndD)(g:SegD)(hs:∀g∈s.queue,OkG g)(hg:OkG g)(hn:s.queue.length<=1000):AC prog 70 [.st s.row,.st g.row] (.tup [.st (Dc s g).1.row,iv (Dc s g).2]):=by
 have hc:=Fb s (fun g h=>by have:=(hs g h).n;omega) hn;have hse:=Fz s hs;have hE:=JA g hg;have hcg:=MS g (by have:=hg.n;omega);have hl:=Df s.queue;by_cases h1:g.from_≠s.tail\/CH s=false
 ·have hR:Dc s g=(s,2400):=by unfold Dc;rw[if_pos h1]
  have h1b:(g.from_ != s.tail||!CH s)=true:=by rcases h1 with q|q<;>simp[q]
  rw[hR];refine sX func70 ntmps70 ?_;refine cX (hc) ?_;refine cX (hse) ?_;refine ED @h1b ?_;refine aw ?_;simp
 have h2:g.from_=s.tail:=by simpa using fun z=>h1 (.inl z)
 have h3:CH s=true:=by simpa using fun z=>h1 (.inr z)
 rw[h3]at hse;refine sX func70 ntmps70 ?_;refine cX (hc) ?_;refine cX (hse) ?_;intros;apply wr;refine cF1 @h2 rfl ?_;by_cases h4:(Ai g).2≠0
 ·have hR:Dc s g=(s,(Ai g).2):=by unfold Dc;rw[if_neg h1,if_pos h4]
  rw[hR]
  (refine af1 @h4 ?_;intros;apply wr)
  repeat' ((first|(refine AB rfl (fun h=>?_) (fun h=>?_)<;>(first|(simp[h4]at h;done)|(simp[h4]at h)|skip)<;>(first|(exfalso;omega)|skip))|refine cc1 (hE) @h4 ?_|(refine AD 8 [0,1,0,4,12,31,63,127] [(5,([[],[0],[],[2],[2,3]],[(1,3),(1,4)])),(1,([],[])),(1,([],[])),(1,([],[]))] ?_)|exact rt1 @h4|fail)<;>(refine af1 @h4 ?_;intros;apply wr))
 have h4':(Ai g).2=0:=by simpa using h4
 rw[h4']at hE;by_cases h5:8<=s.queue.length
 ·have hR:Dc s g=(s,2401):=by unfold Dc;rw[if_neg h1,if_neg h4,if_pos h5]
  rw[hR];have h6:(8:Int)<=s.queue.length:=by omega
  (refine af1 (kX2 @h6 @hl) ?_;intros;apply wr)
  repeat' ((first|(refine AB rfl (fun h=>?_) (fun h=>?_)<;>(first|(simp[h6,hl]at h;done)|(simp[h6,hl]at h)|skip)<;>(first|(exfalso;omega)|skip))|refine cc1 (hE) (kX2 @h6 @hl) ?_|(refine AD 8 [0,1,0,4,12,31,63,127] [(5,([[],[0],[],[2],[2,3]],[(1,3),(1,4)])),(1,([],[])),(1,([],[])),(1,([],[]))] ?_)|exact rt1 (kX2 @h6 @hl)|fail)<;>(refine af1 (kX2 @h6 @hl) ?_;intros;apply wr))
 have hR:Dc s g=({s with queue:=s.queue++[g],tail:=g.known},0):=by unfold Dc;rw[if_neg h1,if_neg h4,if_neg h5]
 rw[hR];have h6:¬(8:Int)<=s.queue.length:=by omega
 (refine af1 (kX5 @h6 @hl @De @BL @maxLen.eq_1) ?_;intros;apply wr)
 repeat' ((first|(refine AB rfl (fun h=>?_) (fun h=>?_)<;>(first|(simp[h6,hl,De,BL,maxLen]at h;done)|(simp[h6,hl,De,BL,maxLen]at h)|skip)<;>(first|(exfalso;omega)|skip))|refine cc1 (hE) (kX5 @h6 @hl @De @BL @maxLen.eq_1) ?_|refine cc1 (hcg) (kX5 @h6 @hl @De @BL @maxLen.eq_1) ?_|(refine AD 8 [0,1,0,4,12,31,63,127] [(5,([[],[0],[],[2],[2,3]],[(1,3),(1,4)])),(1,([],[])),(1,([],[])),(1,([],[]))] ?_)|exact rt1 (kX5 @h6 @hl @De @BL @maxLen.eq_1)|fail)<;>(refine af1 (kX5 @h6 @hl @De @BL @maxLen.eq_1) ?_;intros;apply wr))
 refine aw ?_;simp[hR,De,BL]
theorem H3(r:RepD):AC prog 21 [.st r.row] (.bool (GF r)):=by
 refine sZ func21 ntmps21 ?_;exact wx1 trivial trivial @GF.eq_1
theorem GT(r:RepD):AC prog 48 [.st r.row] (.bool (EE r)):=by
 refine sZ func48 ntmps48 ?_;exact wx1 (qX1 (H3 r)) trivial @EE.eq_1
theorem G9(m:MchD)(h1:m.mem.length<=100000):AC prog 46 [.st m.row] (.st m.row):=by
 refine sZ func46 ntmps46 ?_;exact wx (qX1 (DL (ints .u32 m.mem) false 1 (.inl rfl) (by rw[AN];exact h1))) trivial
theorem PW(g:SegD)(h:g.ents.length<=100000):AC prog 64 [.st g.row] (.st g.row):=by
 refine sZ func64 ntmps64 ?_;exact wx (qX1 (G6 (ents g.ents) false 4 (.inl rfl) (by rw[Ay];exact h))) trivial
theorem Q4{α:Type}{L:List α}{i:Nat}{x:α}(h:L[i]? =some x):L.set i x=L:=by
 apply List.ext_getElem?;intro j;rw[List.getElem?_set];split
 ·rename_i e;subst e;split
  ·exact h.symm
  rw[iV (by omega)]
 rfl
structure OkP(r:RepD)(k:Nat):Prop where
 c:OkR r.rec_ k
 p:OkM r.rpl.m
 pl:r.rpl.log.length<=50000
 g:r.gate.held.length<=40000
 o:∀g∈r.out.queue,OkG g
 on:r.out.queue.length<=100
 i:∀e∈r.inn.early,OkG e.2
 en:r.inn.early.length<=100
 h:r.hist.length<=40000
abbrev repC(r:RepD)(a b c d e f g:V):List V:=[iv r.host,iv r.role,lv r.gen]++(r.rec_.m.row++([uv r.rec_.clock,a,b]++(r.rpl.m.row++[c,lv r.rpl.known,uv r.rpl.clock,d,lv r.gate.acked,lv r.gate.bytes,lv r.mark,lv r.out.base,lv r.out.tail,lv r.out.known,e,lv r.inn.next,lv r.inn.known,f,iv r.watch.limit,iv r.watch.silent,lv r.watch.seen,lv r.beats,iv r.cmd,lv r.cmdAt,g])))
abbrev zRR:List V:=[iv 0,iv 0,lv 0]++(zMR++([uv 0,.sl 0 true [],.sl 0 true []]++(zMR++[.sl 0 true [],lv 0,uv 0,.sl 0 true [],lv 0,lv 0,lv 0,lv 0,lv 0,lv 0,.sl 0 true [],lv 0,lv 0,.sl 0 true [],iv 0,iv 0,lv 0,lv 0,iv 0,lv 0,.sl 0 true []])))
abbrev Z1(cs:List V):Ob:=⟨61,125,true,false,[cs]⟩
theorem C2(r:RepD)(h:OkP r 40000):AC prog 26 [.st r.row] (.st r.row):=by
 have c1:=G9 r.rec_.m (by have:=h.c.m.n;omega);have c2:=G9 r.rpl.m (by have:=h.p.n;omega);have c3:=G6 (ents r.rec_.log) false 4 (.inl rfl) (by rw[Ay];have:=h.c.l;omega);have c4:=PV (evs r.rec_.queue) false 3 (.inl rfl) (by rw[HV];have:=h.c.q;omega);have c5:=G6 (ents r.rpl.log) false 4 (.inl rfl) (by rw[Ay];have:=h.pl;omega);have c6:=PU (outs r.gate.held) false 4 (.inl rfl) (by rw[BA];have:=h.g;omega);have c7:=cloneS (segs r.out.queue) false 3 (.inl rfl) (by rw[Df];have:=h.on;omega);have c8:=cloneY (Iz r.inn.early) false 4 (.inl rfl) (by rw[M3];have:=h.en;omega);have c9:=G6 (ents r.hist) false 4 (.inl rfl) (by rw[Ay];have:=h.h;omega);have hl1:=Df r.out.queue;have hl2:=M3 r.inn.early;have hon:=h.on;have hen:=h.en;refine sX func26 ntmps26 ?_;refine cX (c1) ?_;refine cX (c3) ?_;refine cX (c4) ?_;refine cX (c2) ?_;refine cX (c5) ?_;refine cX (c6) ?_;refine cY (c7) @hl1 ?_;intros;apply wr;obtain⟨I,hI⟩:∃I:Nat->St->Prop,I=(fun kk ss=>∃(i:Nat),i<=r.out.queue.length/\kk=r.out.queue.length-i/\(True)/\ss=⟨96,[(53,.int .i64 i),(52,.int .i64 r.out.queue.length),(51,.own 104),(1,.ptr 0 125 0 0),(2,.ptr 1 125 0 0)],105,[(0,some (Z1 (repC r (.own 51) (.own 52) (.own 102) (.own 103) (.own 104) (.sl 4 false (Iz r.inn.early)) (Bo r.hist)))),(1,some (Z1 zRR)),(51,some (XF r.rec_.log)),(52,some ⟨106,3,false,false,evs r.rec_.queue⟩),(102,some (XF r.rpl.log)),(103,some ⟨124,4,false,false,outs r.gate.held⟩),(104,some ⟨145,3,false,false,segs r.out.queue⟩)],0⟩):=⟨_,rfl⟩;refine lX I (id) (by rw[hI];exact⟨0,by simp,rfl,trivial,rfl⟩) ?_;intro kk ss hIk _;rw[hI]at hIk;obtain⟨i,hi,rfl,hx,rfl⟩:=hIk;refine au1 @hl1 ?_;intros;apply wr;refine AB rfl (fun hh=>?_) (fun hh=>?_)
 ·simp at hh;obtain⟨g,hg,-,-,hmem⟩:=get_at hh;have hget:=HA hg;have hset:=Q4 hget;have cg:=PW g (by have:=(h.o g hmem).n;omega);refine au1 @hget ?_;intros;apply wr;refine AD 8 [0,1,3,0,0,16,63,127] [(6,([[],[0],[0,1],[],[],[4]],[(2,5)])),(1,([],[])),(1,([],[]))] ?_;refine af ?_;refine cYf (cg) @hl1 ?_;intros;apply wr;exact aX (id) (by rw[hI];exact⟨i+1,by omega,rfl,trivial,rfl⟩) (kX3 (AA (n:=(i:Int)+1)) @hget @hset)
 simp at hh;refine af ?_;refine cYf (c8) @hl2 ?_;intros;apply wr;obtain⟨Ij,hIj⟩:∃I:Nat->St->Prop,I=(fun kk ss=>∃(j:Nat),j<=r.inn.early.length/\kk=r.inn.early.length-j/\(True)/\ss=⟨96,[(76,.int .i64 j),(75,.int .i64 r.inn.early.length),(74,.own 105),(1,.ptr 0 125 0 0),(2,.ptr 1 125 0 0)],106,[(0,some (Z1 (repC r (.own 51) (.own 52) (.own 102) (.own 103) (.own 104) (.own 105) (Bo r.hist)))),(1,some (Z1 zRR)),(51,some (XF r.rec_.log)),(52,some ⟨106,3,false,false,evs r.rec_.queue⟩),(102,some (XF r.rpl.log)),(103,some ⟨124,4,false,false,outs r.gate.held⟩),(104,some ⟨145,3,false,false,segs r.out.queue⟩),(105,some ⟨149,4,false,false,Iz r.inn.early⟩)],0⟩):=⟨_,rfl⟩;refine lX Ij (id) (by rw[hIj];exact⟨0,by simp,rfl,trivial,rfl⟩) ?_;intro kk ss hIk _;rw[hIj]at hIk;obtain⟨j,hj,rfl,hxj,rfl⟩:=hIk;refine af1 @hl2 ?_;intros;apply wr;refine AB rfl (fun hh2=>?_) (fun hh2=>?_)
 ·simp at hh2;obtain⟨e,he,-,-,hmem⟩:=get_at hh2;have hget:=TE he;have hset:=Q4 hget;have cg:=PW e.2 (by have:=(h.i e hmem).n;omega);refine af1 @hget ?_;intros;apply wr;refine AD 10 [0,1,3,0,0,16,48,127,255,511] [(7,([[],[0],[0,1],[],[],[4],[4,5]],[(2,6)])),(1,([],[])),(1,([],[])),(1,([],[]))] ?_;refine af ?_;refine cYf (cg) @hl2 ?_;intros;apply wr;exact aX (id) (by rw[hIj];exact⟨j+1,by omega,rfl,trivial,rfl⟩) (kX3 (AA (n:=(j:Int)+1)) @hget @hset)
 simp at hh2;refine af ?_;refine cXf (c9) ?_;refine aw ?_;simp
theorem Rx(r:RepD)(steps clock:Int)(h:OkP r 400)(hc:W32 clock)(hq:r.rec_.queue.length<=400)(hg:r.gate.held.length<=30000)(ht:L64 r.out.tail):AC prog 27 [.st r.row,iv steps,uv clock] (.st (Dd r steps clock).row):=by
 have hadv:=adv_ok r.rec_ steps clock 400 h.c (by omega) hc;have hA:=h.c.adv steps hc;have hO:=F8 r.rec_ steps clock;have hlim:=OR steps;unfold Dd;generalize Cv r.rec_ steps clock=A at *;obtain⟨a,o⟩:=A;simp only at *;have hhold:=Ti r.gate o (by omega) (by omega);have hlo:=BA o;have hAl:=hA.l;have hAm:=hA.m.n;obtain⟨G,hG⟩:∃G,G=FO r.gate o:=⟨_,rfl⟩;rw[<- hG]at hhold;refine sX func27 ntmps27 ?_;refine cX (hadv) ?_;refine cY (hhold) @hlo ?_;(repeat intro K hK);apply wr;obtain⟨I,hI⟩:∃I:Nat->St->Prop,I=(fun kk ss=>∃(i:Nat)(c t:Int),i<=o.length/\kk=o.length-i/\(Kw (r.cmd,r.cmdAt) (o.take i)=(c,t))/\ss=⟨95,[(31,.int .i64 i),(30,.int .i64 o.length),(29,.sl 4 false (outs o)),(3,.ptr 0 125 0 0),(6,.ptr 1 125 0 0)],59,[(0,some (Z1 (RepD.row {r with rec_:=a,gate:=G.1,cmd:=c,cmdAt:=t}))),(1,some (Z1 zRR))],0⟩):=⟨_,rfl⟩;refine lX I (id) (by rw[hI];exact⟨0,r.cmd,r.cmdAt,by simp,rfl,rfl,rfl⟩) ?_;intro kk ss hIk _;rw[hI]at hIk;obtain⟨i,c,t,hi,rfl,hx,rfl⟩:=hIk;refine au1 @hlo ?_;(repeat intro K hK);apply wr;refine AB rfl (fun hh=>?_) (fun hh=>?_)
 ·simp at hh;obtain⟨x,hxo,-,htk,-⟩:=get_at hh;have hget:=Em hxo;have hst:Kw (r.cmd,r.cmdAt) (o.take (i+1))=SJ (c,t) x:=by unfold Kw at hx ⊢;rw[htk,List.foldl_append,hx];rfl
  refine au1 @hget ?_;(repeat intro K hK);apply wr;refine AB rfl (fun hk=>?_) (fun hk=>?_)
  ·have hc1:SJ (c,t) x=(0,x.at_):=by unfold SJ;rw[if_pos (by simpa using hk)]
   rw[hc1]at hst;refine au ?_;(repeat intro K hK);apply wr;refine AD 6 [0,1,0,4,15,31] [(4,([[],[0],[],[2]],[(1,3)])),(1,([],[])),(1,([],[]))] ?_;refine af ?_;refine af ?_;(repeat intro K hK);apply wr;exact aX (id) (by rw[hI];exact⟨i+1,0,x.at_,by omega,rfl,hst,rfl⟩) (AA (n:=(i:Int)+1))
  have hc1:SJ (c,t) x=(c,t):=by unfold SJ;rw[if_neg (by simpa using hk)]
  rw[hc1]at hst;refine af ?_;(repeat intro K hK);apply wr;exact aX (id) (by rw[hI];exact⟨i+1,c,t,by omega,rfl,hst,rfl⟩) (AA (n:=(i:Int)+1))
 simp at hh;rw[HD hh]at hx;refine af ?_;refine cXf (GT {r with rec_:=a,gate:=G.1,cmd:=c,cmdAt:=t}) ?_;(repeat intro K hK);apply wr;have hbz:EE {r with rec_:=a,gate:=G.1,cmd:=c,cmdAt:=t}=EE {r with rec_:=a}:=rfl;first|(clear hK;clear K;rename_i K hK)|skip
 refine Cc (α:=Int) (fun d=>(⟨95,[(3,.ptr 0 125 0 0),(6,.ptr 1 125 0 0)],60,[(0,some (Z1 (RepD.row {r with rec_:=a,gate:=G.1,cmd:=d,cmdAt:=t}))),(1,some (Z1 zRR))],0⟩:St)) (fun d=>d=(if EE {r with rec_:=a}=true then c else 0)) hK (fun d hxhJ=>?_) (fun hJ=>?_);all_goals clear hK
 ·have hR:YK r a o={r with rec_:=a,gate:=G.1,cmd:=d,cmdAt:=t}:=by unfold YK;rw[hx,<- hG,hxhJ]
  have hcut:=cut_ok a (by omega) (by omega) (by have:=hA.q;omega);have hcc:=Iw r.hist a.log (by have:=h.h;omega) (by omega);have hcnt:=DZ hA.m;have hsg:OkG ⟨r.out.tail,a.m.count,a.log⟩:=⟨ht,hcnt,hA.t,by show a.log.length<=_;omega⟩;have hpush:=dH r.out ⟨r.out.tail,a.m.count,a.log⟩ h.o hsg (by have:=h.on;omega);refine af ?_;refine cXf (hcut) ?_;refine cYf (hcc) @Ay ?_;(repeat intro K hK);apply wr;have hbb:(r.role==1&&(decide (0<a.log.length)||a.m.count != r.out.tail))=decide (r.role=1/\(a.log≠[]\/a.m.count≠r.out.tail)):=by
   cases a.log<;>by_cases q1:r.role=1<;>by_cases q2:a.m.count=r.out.tail<;>simp[q1,q2]
  refine AB rfl (fun hb=>?_) (fun hb=>?_)
  ·have hp:r.role=1/\(a.log≠[]\/a.m.count≠r.out.tail):=by rw[hbb]at hb;exact of_decide_eq_true hb
   have hF:XE (YK r a o)={r with rec_:=Qz a,gate:=G.1,cmd:=d,cmdAt:=t,hist:=r.hist++a.log,out:=(Dc r.out ⟨r.out.tail,a.m.count,a.log⟩).1}:=by rw[hR];unfold XE segA;simp only;rw[if_pos hp]
   refine af ?_;refine cXf (hpush) ?_;refine aw ?_;simp[hF,Qz]
  have hp:¬(r.role=1/\(a.log≠[]\/a.m.count≠r.out.tail)):=by rw[hbb]at hb;exact of_decide_eq_false hb
  have hF:XE (YK r a o)={r with rec_:=Qz a,gate:=G.1,cmd:=d,cmdAt:=t,hist:=r.hist++a.log}:=by rw[hR];unfold XE;simp only;rw[if_neg hp]
  refine af ?_;refine aw ?_;simp[hF,Qz]
 refine AB rfl (fun hb=>?_) (fun hb=>?_)
 ·refine af ?_;(repeat intro K hK);apply wr;refine hJ 0 _ (id) ((by rw[hbz]at hb;simp at hb;simp[hb])) ⟨rfl,?_,?_,?_,by simp⟩
  ·simp[leT,ltV,lt1,ren,BE]
  ·simp[leO,lt1,BE]
  (simp;try omega)
 refine af ?_;(repeat intro K hK);apply wr;refine hJ c _ (id) ((by rw[hbz]at hb;simp at hb;simp[hb])) ⟨rfl,?_,?_,?_,by simp⟩
 ·simp[leT,ltV,lt1,ren,BE]
 ·simp[leO,lt1,BE]
 (simp;try omega)
end Go.Proofs.YtjkmhmepljamoaaGreat
end
