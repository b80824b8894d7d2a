/- A part of the proof of ReplicaTakes. -/
import Derived.Test.YtjkmhmepljamoaaGreatT05
import Derived.Test.YtjkmhmepljamoaaGreatT49
import Derived.Test.YtjkmhmepljamoaaGreatT52
set_option linter.all false
set_option maxHeartbeats 16000000
set_option maxRecDepth 100000
section
namespace Go.Proofs.YtjkmhmepljamoaaGreat
open Go.Ab Go.RowKit Tryz
theorem ZM{C D E G:Prop}(c:C)(d:D)(e:E)(t:C->D->E->G:=by intro c d e;(refine af1 e ?_;intros;apply wr);repeat' ((first|(refine AB rfl (fun h=>?_) (fun h=>?_)<;>(first|(simp[e]at h;done)|(simp[e]at h)|skip)<;>(first|(exfalso;omega)|skip))|((first|refine .inl ⟨1,_,d.1,?_⟩|refine⟨1,_,d.1,?_⟩);simp[CZ,C9,noX,Ct,C5,e];first|refine And.intro AP ?_|skip)|((first|refine .inl ⟨1,_,d.2.1,?_⟩|refine⟨1,_,d.2.1,?_⟩);simp[CZ,C9,noX,Ct,C5,e];first|refine And.intro AP ?_|skip)|refine cc1 c.1 e ?_|refine cc1 c.2.1 e ?_|refine cc1 c.2.2.1 e ?_|refine cc1 c.2.2.2.1 e ?_|refine cc1 c.2.2.2.2.1 e ?_|refine cc1 c.2.2.2.2.2.1 e ?_|(refine AG (rid:=9) 12 [0,1,0,0,12,28,60,0,128,511,1023,2047] [(9,([[],[0],[],[],[2,3],[2,3,4],[2,3,4,5],[],[7]],[(1,6),(8,6)])),(1,([],[])),(1,([],[])),(1,([],[]))] ?_)|(refine AG (rid:=15) 12 [0,1,0,0,12,28,63,127,255,255,511,1535] [(6,([[],[0],[],[],[2,3],[2,3,4]],[])),(1,([],[])),(1,([],[])),(4,([[],[],[0],[0,2]],[]))] ?_)|(refine AG (rid:=19) 10 [0,1,3,0,8,31,31,127,255,511] [(5,([[],[0],[0,1],[],[3]],[(4,2)])),(2,([[],[]],[])),(1,([],[])),(1,([],[])),(1,([],[]))] ?_)|(refine An (rid:=26) (.node 4 5 (.leaf [0,1,2,3,4,5,6,7] (bN [0,1,0,4,0,16,51,127]) [(7,([[],[0],[],[2],[],[4],[0,1,4,5]],[(1,4),(1,5),(3,4),(3,5),(3,6)])),(1,([],[]))]) (.leaf [0,1,2,3,5,4,6,7] (bN [0,1,0,4,0,16,51,127]) [(7,([[],[0],[],[2],[],[4],[0,1,4,5]],[(1,4),(1,5),(3,4),(3,5),(3,6)])),(1,([],[]))])) (by kernel_rfl) (by kernel_rfl) ?_;simp only[PT.run];repeat' (with_reducible apply And.intro);all_goals (simp only[Bo,fJ,gI,fC,fK]))|(refine AG (rid:=28) 6 [0,1,0,4,3,31] [(5,([[],[0],[],[2],[0,1]],[(3,4)])),(1,([],[]))] ?_)|(refine An (rid:=29) (.node 2 13 (.node 6 13 (.node 8 13 (.leaf [0,1,2,3,4,5,6,7,8,9,10,11,12,13,14,15,16] (bN [0,0,3,0,8,0,39,103,255,511,1023,1023,1023,511,10239,28671,65535]) [(8,([[],[],[0,1],[],[3],[],[0,1,2,5],[0,1,2,5,6]],[(4,2),(4,6),(5,2)])),(1,([],[])),(7,([[],[0],[0],[0],[],[0,1,4],[0,1,2,4,5]],[])),(1,([],[]))]) (.leaf [0,1,2,3,4,5,6,7,13,8,9,10,11,12,14,15,16] (bN [0,0,3,0,8,0,39,103,103,511,1023,2047,2047,2047,4095,24575,65535]) [(9,([[],[],[0,1],[],[3],[],[0,1,2,5],[0,1,2,5,6],[0,1,2,5,6]],[(4,2),(4,6),(4,8),(5,2)])),(1,([],[])),(1,([],[])),(5,([[],[],[],[0],[0,1,3]],[])),(1,([],[]))])) (.leaf [0,1,2,3,4,5,13,6,7,8,9,10,11,12,14,15,16] (bN [0,0,3,0,8,0,7,103,231,511,1023,2047,2047,2047,4095,24575,65535]) [(9,([[],[],[0,1],[],[3],[],[0,1,2],[0,1,2,5,6],[0,1,2,5,6,7]],[(4,2),(4,6),(4,7),(5,2),(5,6)])),(1,([],[])),(1,([],[])),(5,([[],[],[],[0],[0,1,3]],[])),(1,([],[]))])) (.leaf [0,1,3,4,5,13,2,6,7,8,9,10,11,12,14,15,16] (bN [0,0,0,4,0,0,35,115,243,511,1023,2047,2047,2047,4095,24575,65535]) [(9,([[],[],[],[2],[],[],[0,1,5],[0,1,4,5,6],[0,1,4,5,6,7]],[(3,5),(3,6),(3,7),(4,5),(4,6)])),(1,([],[])),(1,([],[])),(5,([[],[],[],[0],[0,1,3]],[])),(1,([],[]))])) (by kernel_rfl) (by kernel_rfl) ?_;simp only[PT.run];repeat' (with_reducible apply And.intro);all_goals (simp only[Bo,fJ,gI,fC,fK]))|(refine AG (rid:=30) 38 [0,1,3,7,15,31,63,127,255,511,1023,2047,4095,8191,16383,32767,65535,131071,262143,524287,1048575,524287,2621439,8388607,16777215,33554431,67108863,134217727,268435455,536870911,536870911,1610612735,4294967295,8589934591,17179869183,34359738367,68719476735,137438953471] [(1,([],[])),(1,([],[])),(1,([],[])),(1,([],[])),(1,([],[])),(1,([],[])),(1,([],[])),(1,([],[])),(1,([],[])),(1,([],[])),(1,([],[])),(1,([],[])),(1,([],[])),(1,([],[])),(1,([],[])),(1,([],[])),(1,([],[])),(1,([],[])),(1,([],[])),(4,([[],[0],[],[2]],[])),(1,([],[])),(1,([],[])),(1,([],[])),(1,([],[])),(1,([],[])),(1,([],[])),(3,([[],[],[1]],[(0,2)])),(1,([],[])),(1,([],[])),(1,([],[])),(1,([],[])),(1,([],[])),(1,([],[]))] ?_)|exact rt1 e|fail)<;>(refine af1 e ?_;intros;apply wr))):G:=t c d e
theorem Us{x:RepD}{h:Int}(h1:x.role=3)(h2:x.gen=2)(h3:x.host=h):x={x with host:=h,role:=3,gen:=2}:=by
 obtain⟨a1,a2,a3,a4⟩:=x;simp only at h1 h2 h3;subst h1 h2 h3;rfl
structure Won(x:RepD)(h:Int)(m0:MchD)(Q:List SegD)(m:MchD):Prop where
 h:x.hist=entsOf Q
 k:x.rec_.m=m
 f:∃j,j<=8/\ChF m0 j Q m
theorem won_b{b:RepD}{m0:MchD}{Q:List SegD}{m:MchD}{j:Nat}(h:HrB b m0 Q m j)(hM:OkM m0)(hm:mayD m0=true):∃x,AC prog 12 [.st (RepD.row {b with watch:=⟨2,2,b.watch.seen⟩}),BL AT 1 0] (.tup [.st (RepD.row {x with host:=1,role:=3,gen:=2}),BL AT 2 1])/\Won x 1 m0 Q m:=by
 obtain⟨x,h1,h2,h3,h4,h5,h6⟩:=h.tk hM hm;rw[Us h2 h3 h4]at h1;exact⟨x,h1,h5,h6,j,h.i,h.f⟩
theorem won_a{a:RepD}{m0:MchD}{i:Nat}(h:OkTk a m0 i)(hi:i<=8)(hM:OkM m0)(hm:mayD m0=true):∃x,AC prog 12 [.st (RepD.row {a with watch:=⟨2,2,0⟩}),BL AT 1 0] (.tup [.st (RepD.row {x with host:=0,role:=3,gen:=2}),BL AT 2 0])/\Won x 0 m0 a.out.queue a.rec_.m:=by
 obtain⟨O,hb⟩:=h.b;have h1:=h.tk hi;rw[Us (x:={a with watch:=⟨2,2,0⟩,gen:=2,role:=3}) (h:=0) rfl rfl hb.host]at h1;exact⟨_,h1,h.hi,rfl,i,hi,h.ch.f hM hm⟩
abbrev tknT(kind:Int)(l:List Int)(first:Bool):List (Nat×V):=[(11,.ptr 256 255 0 0),(4,.bool first),(0,iv kind),(1,.sl 1 false (ints .i64 l))]
noncomputable abbrev tknO(a b:RepD):Option Ob:=some ⟨66,255,true,false,[wldR a b]⟩
abbrev ZA(r:RepD):Option Ob:=some ⟨61,125,true,false,[RepD.row r]⟩
noncomputable abbrev stoP(o:Int):Option Ob:=some ⟨64,3,true,false,[[.sl 1 false (strs AT),lv 2,iv o]]⟩
theorem takes_ok(kind:Int)(l runs:List Int)(rc:Int)(first:Bool):AC prog 3 [iv kind,.sl 1 false (ints .i64 l),.sl 1 false (ints .i64 runs),iv rc,.bool first] (.bool true):=by
 have hl1:=AM .i64 l;have hl2:=AM .i64 runs;by_cases hc:(60:Int)<l.length\/(8:Int)<runs.length
 ·rcases hc with hc|hc
  ·refine sZ func3 ntmps3 ?_;exact ZM (qX1 (GQ)) trivial (kX3 @hl1 @hl2 @hc)
  refine sZ func3 ntmps3 ?_;exact ZM (qX1 (GQ)) trivial (kX3 @hl1 @hl2 @hc)
 have c1:¬(60:Int)<l.length:=fun q=>hc (.inl q);have c2:¬(8:Int)<runs.length:=fun q=>hc (.inr q);obtain⟨hM,hmay,hs⟩:=Ym (kind%3) l (by omega);have hm:=P4 kind l (by omega);generalize mkD (kind%3) l=M at *;have hst:=K2 kind 2 l M (by decide) hmay hs ⟨hM.gv.1,by have:=hM.gv.2;omega⟩ (by have:=hM.n;omega) hm;have ha:=bY hM hmay;rw[<- bkT0]at hst;generalize Dv 0 M 1 2=a0 at *;refine sY func3 ntmps3 (kX2 @hl1 @hl2) ?_;refine B1 (kX4 @hl1 @hl2 @c1 @c2) ?_;refine ccB (hst) ?_;refine auB ?_;(repeat intro K hK);apply wr;refine cF0 rfl ?_;refine auB ?_;(repeat intro K hK);apply wr;obtain⟨I,hI⟩:∃I:Nat->St->Prop,I=(fun kk ss=>∃(i:Nat)(a:RepD),i<=runs.length/\kk=runs.length-i/\(OkTk a M i)/\ss=⟨192,(13,.int .i64 i)::(2,.sl 1 false (ints .i64 runs))::(3,iv rc)::tknT kind l first,257,[(256,tknO a (bkT M []))],0⟩):=⟨_,rfl⟩;refine lX I (id) (by rw[hI];exact⟨0,a0,by simp,rfl,ha,rfl⟩) ?_;intro kk ss hIk _;rw[hI]at hIk;obtain⟨i,a,hi,rfl,hx,rfl⟩:=hIk;refine auB1 @hl2 ?_;(repeat intro K hK);apply wr;refine AB rfl (fun hh=>?_) (fun hh=>?_)
 ·simp at hh;have hlt:i<runs.length:=by omega
  obtain⟨x,hx'⟩:∃x,runs[i]? =some x:=⟨_,eR hlt⟩;have hget:=Bh (k:=.i64) hx';have hwi:IntKind.u32.wrap (i:Int)=i:=u32_in (by omega) (by omega);have hw1:IntKind.i64.wrap ((i:Int)+1)=((i+1:Nat):Int):=by rw[AA (by omega) (by omega)];omega
  have hrun:=Uj a (x%30) (i:Int) (by obtain⟨O,hb⟩:=hx.b;unfold LA;rw[hb.role];rfl) (hx.pp (by omega)) ⟨by omega,by omega⟩ (by obtain⟨O,hb⟩:=hx.b;rw[hb.q];simp) (by have:=(hx.pp (show i<=8 by omega)).g;obtain⟨O,hb⟩:=hx.b;have:=hb.ol;have:a.gate.held.length<=64*i:=(by rw[hb.hd];exact f8 (List.length_filter_le _ _) hb.ol);omega) (by rw[hx.tl];exact Cj (hx.ch.f hM hmay).k);have hnx:=hx.round hM hmay (show i<8 by omega) (x%30) (clock:=(i:Int)) ⟨by omega,by omega⟩;generalize EB a (x%30) (i:Int)=a' at *;refine auB ?_;(repeat intro K hK);apply wr;refine AG 12 [0,1,0,0,12,28,60,0,128,511,1023,2047] [(9,([[],[0],[],[],[2,3],[2,3,4],[2,3,4,5],[],[7]],[(1,6),(8,6)])),(1,([],[])),(1,([],[])),(1,([],[]))] ?_;refine YT (kX3 @hl2 @hget @hwi) ?_;refine ccB (Az x 30 (by decide) (by decide)) ?_;refine YT @hwi ?_;refine ccB1 (hrun) @hwi ?_;refine afB ?_;(repeat intro K hK);apply wr;exact aX (id) (by rw[hI];exact⟨i+1,a',by omega,rfl,hnx,rfl⟩) (kX2 (AA (n:=(i:Int)+1) (by omega) (by omega)) @hw1)
 simp at hh;have hi8:i<=8:=by omega
 obtain⟨a2,hpk⟩:=hx.pk hM hmay hi8;have hrv:=Vw hM hmay hx.ch hi8;have hbh:=bst_h hM hmay hx.ch hi8;have hPl:=UA M a.out.queue;have hb0:bst M a.out.queue 0=bkT M []:=by unfold bst;rw[if_pos (Nat.zero_le _)];rfl
 have hq8:=(hx.ch.f hM hmay).q;rw[<- hb0];generalize pkT M a.out.queue=L at *;generalize bst M a.out.queue=bs at *;have hLs:=Cd L;have hwn:IntKind.i64.wrap ((L.length:Int)+1)=L.length+1:=AA (by omega) (by omega);obtain⟨n,hn1,hn2⟩:∃n:Nat,(n:Int)=rc%((L.length:Int)+1)/\n<=L.length:=⟨(rc%((L.length:Int)+1)).toNat,by have:=Int.emod_nonneg rc (show(L.length:Int)+1≠0 by omega);omega,by have:=Int.emod_lt_of_pos rc (show(0:Int)<(L.length:Int)+1 by omega);have:=Int.emod_nonneg rc (show(L.length:Int)+1≠0 by omega);omega⟩;have hro:=Az rc ((L.length:Int)+1) (by omega) (by omega);rw[<- hn1]at hro;refine afB ?_;refine ccB (hpk) ?_;refine YT (kX2 @hLs @hwn) ?_;refine ccB1 (hro) (kX2 @hLs @hwn) ?_;refine afB ?_;(repeat intro K hK);apply wr;obtain⟨Ij,hIj⟩:∃I:Nat->St->Prop,I=(fun kk ss=>∃(j:Nat),j<=n/\kk=n-j/\(True)/\ss=⟨192,(17,.int .i64 j)::(16,.int .i64 n)::(15,.sl 1 false (strs L))::tknT kind l first,257,[(256,tknO a (bs j))],0⟩):=⟨_,rfl⟩;refine lX Ij (id) (by rw[hIj];exact⟨0,by simp,rfl,trivial,rfl⟩) ?_;intro kk ss hIk _;rw[hIj]at hIk;obtain⟨j,hj,rfl,hxj,rfl⟩:=hIk;refine YT @hLs ?_;(repeat intro K hK);apply wr;refine AB rfl (fun hh2=>?_) (fun hh2=>?_)
 ·simp at hh2;have hjl:j<L.length:=by omega
  obtain⟨p,hp⟩:∃p,L[j]? =some p:=⟨_,eR hjl⟩;have hgp:=NH hp;have hjn:(j:Int)<L.length:=by omega
  obtain⟨cx,hcx⟩:=hrv j p hp;refine afB ?_;(repeat intro K hK);apply wr;refine AG 12 [0,1,0,0,12,28,63,127,255,255,511,1535] [(6,([[],[0],[],[],[2,3],[2,3,4]],[])),(1,([],[])),(1,([],[])),(4,([[],[],[0],[0,2]],[]))] ?_;refine YT (kX3 @hLs @hgp @hjn) ?_;refine ccB (hcx) ?_;refine afB ?_;(repeat intro K hK);apply wr;exact aX (id) (by rw[hIj];exact⟨j+1,by omega,rfl,trivial,rfl⟩) (AA (n:=(j:Int)+1) (by omega) (by omega))
 simp at hh2;have hjn:j=n:=by omega
 subst hjn;obtain⟨Q',m',jj,hB⟩:=hbh j;generalize bs j=b at *;have ea1:a.watch.limit=2:=by rw[hx.wt]
 have ea2:a.watch.silent=0:=by rw[hx.wt]
 have ea3:a.watch.seen=0:=by rw[hx.wt]
 have eb1:=hB.wl;have eb2:=hB.ws;have hPa:=(hx.pp hi8).up (show 400<=40000 by omega);have hPb:=hB.p;have hra:a.role=1:=by obtain⟨O,hb⟩:=hx.b;exact hb.role
 obtain⟨sn,hsn⟩:∃sn,b.watch.seen=sn:=⟨_,rfl⟩;obtain⟨xb,tb1,wb⟩:=won_b hB hM hmay;obtain⟨xa,ta1,wa⟩:=won_a hx hi8 hM hmay;have ta0:=hx.tk0 hi8 1 (by omega);have tb0:=hB.tk0 0 (by omega);rw[hsn]at tb1 tb0;refine afB ?_;(repeat intro K hK);apply wr;obtain⟨Iz,hIz⟩:∃I:Nat->St->Prop,I=(fun kk ss=>∃(z:Nat),z<=2/\kk=2-z/\(True)/\ss=⟨192,(18,.int .i64 z)::tknT kind l first,257,[(256,tknO {a with watch:=⟨2,(z:Int),0⟩} {b with watch:=⟨2,(z:Int),sn⟩})],0⟩):=⟨_,rfl⟩;refine lX1 Iz (id) (by rw[hIz];exact⟨0,by simp,rfl,trivial,rfl⟩) (kX6 @ea1 @ea2 @ea3 @eb1 @eb2 @hsn) ?_;intro kk ss hIk _;rw[hIz]at hIk;obtain⟨z,hz,rfl,hxz,rfl⟩:=hIk;refine afB ?_;(repeat intro K hK);apply wr;refine AB rfl (fun hh3=>?_) (fun hh3=>?_)
 ·simp at hh3;have hz2:(z:Int)<2:=by omega
  have t1:=QU {a with watch:=⟨2,(z:Int),0⟩} ⟨hPa.c,hPa.p,hPa.pl,hPa.g,hPa.o,hPa.on,hPa.i,hPa.en,hPa.h⟩ (.inl hra) (detT _ _ (by omega) (by omega));have t2:=QU {b with watch:=⟨2,(z:Int),sn⟩} ⟨hPb.c,hPb.p,hPb.pl,hPb.g,hPb.o,hPb.on,hPb.i,hPb.en,hPb.h⟩ (.inr hB.role) (detT _ _ (by omega) (by omega));simp only[tick_n _ _ (show(0:Int)<=z by omega) hz2]at t1 t2;refine afB ?_;(repeat intro K hK);apply wr;refine AG 10 [0,1,3,0,8,31,31,127,255,511] [(5,([[],[0],[0,1],[],[3]],[(4,2)])),(2,([[],[]],[])),(1,([],[])),(1,([],[])),(1,([],[]))] ?_;refine afB ?_;refine ccB (t1) ?_;refine afB ?_;refine ccB (t2) ?_;refine afB ?_;(repeat intro K hK);apply wr;exact aX (id) (by rw[hIz];exact⟨z+1,by omega,rfl,trivial,rfl⟩) (AA (n:=(z:Int)+1) (by omega) (by omega))
 simp at hh3;have hz:z=2:=by omega
 subst hz;cases first with
 | true =>
  obtain⟨hw1,hw2,jw,hj,hF⟩:=wa;rw[<- hw2]at hF;obtain⟨O,hRb,hO⟩:=hF.rb;have hba:=SN hM hmay hRb hF.may (by omega) (by have:=hF.n;omega) (fun p=>by have:=hF.c p;omega) hF.v;rw[<- hw1]at hba;have rmw:=ZE {xa with host:=0,role:=3,gen:=2} rfl (by have:=hF.k.n;show xa.rec_.m.mem.length<=_;omega);have hsm:=O7 xa.rec_.m (by have:=hF.k.n;omega);refine afB ?_;(repeat intro K hK);apply wr;refine cT0 rfl ?_;refine afB ?_;refine ccB (ta1) ?_;refine afB ?_;refine ccB (tb0) ?_;refine afB ?_;(repeat intro K hK);apply wr;refine CH (α:=Unit) (fun _=>(⟨192,(20,.ptr 258 125 0 0)::(21,.ptr 259 125 0 0)::(19,.ptr 257 3 0 0)::tknT kind l true,260,[(258,ZA {b with watch:=⟨2,2,sn⟩,role:=0}),(259,ZA {xa with host:=0,role:=3,gen:=2}),(257,stoP 0),(256,tknO {xa with host:=0,role:=3,gen:=2} {b with watch:=⟨2,2,sn⟩,role:=0})],0⟩:St)) (fun _=>True) hK (fun _ hxhY=>?_) (fun hY=>?_);all_goals clear hK
  ·refine afB ?_;(repeat intro K hK);apply wr;refine cT0 rfl ?_;refine afB ?_;(repeat intro K hK);apply wr;refine AG 6 [0,1,0,4,3,31] [(5,([[],[0],[],[2],[0,1]],[(3,4)])),(1,([],[]))] ?_;refine afB ?_;(repeat intro K hK);apply wr;refine CH (α:=Unit) (fun _=>(⟨192,[(24,.bool true),(22,.ptr 260 49 0 0),(20,.ptr 258 125 0 0),(21,.ptr 259 125 0 0),(19,.ptr 257 3 0 0)],261,[(260,some ⟨42,49,true,false,[xa.rec_.m.row]⟩),(258,ZA {xa with host:=0,role:=3,gen:=2}),(259,ZA {b with watch:=⟨2,2,sn⟩,role:=0}),(257,stoP 0)],0⟩:St)) (fun _=>True) hK (fun _ hxhZ=>?_) (fun hZ=>?_);all_goals clear hK
   ·refine afB ?_;(repeat intro K hK);apply wr;refine AG 38 [0,1,3,7,15,31,63,127,255,511,1023,2047,4095,8191,16383,32767,65535,131071,262143,524287,1048575,524287,2621439,8388607,16777215,33554431,67108863,134217727,268435455,536870911,536870911,1610612735,4294967295,8589934591,17179869183,34359738367,68719476735,137438953471] [(1,([],[])),(1,([],[])),(1,([],[])),(1,([],[])),(1,([],[])),(1,([],[])),(1,([],[])),(1,([],[])),(1,([],[])),(1,([],[])),(1,([],[])),(1,([],[])),(1,([],[])),(1,([],[])),(1,([],[])),(1,([],[])),(1,([],[])),(1,([],[])),(1,([],[])),(4,([[],[0],[],[2]],[])),(1,([],[])),(1,([],[])),(1,([],[])),(1,([],[])),(1,([],[])),(1,([],[])),(3,([[],[],[1]],[(0,2)])),(1,([],[])),(1,([],[])),(1,([],[])),(1,([],[])),(1,([],[])),(1,([],[]))] ?_;refine afB ?_;refine ccB (rmw) ?_;refine afB ?_;refine ccB (hsm) ?_;refine afB ?_;refine ccB (GQ) ?_;refine afB ?_;refine ar ?_;simp
   refine An (.node 2 13 (.node 6 13 (.node 8 13 (.leaf [0,1,2,3,4,5,6,7,8,9,10,11,12,13,14,15,16] (bN [0,0,3,0,8,0,39,103,255,511,1023,1023,1023,511,10239,28671,65535]) [(8,([[],[],[0,1],[],[3],[],[0,1,2,5],[0,1,2,5,6]],[(4,2),(4,6),(5,2)])),(1,([],[])),(7,([[],[0],[0],[0],[],[0,1,4],[0,1,2,4,5]],[])),(1,([],[]))]) (.leaf [0,1,2,3,4,5,6,7,13,8,9,10,11,12,14,15,16] (bN [0,0,3,0,8,0,39,103,103,511,1023,2047,2047,2047,4095,24575,65535]) [(9,([[],[],[0,1],[],[3],[],[0,1,2,5],[0,1,2,5,6],[0,1,2,5,6]],[(4,2),(4,6),(4,8),(5,2)])),(1,([],[])),(1,([],[])),(5,([[],[],[],[0],[0,1,3]],[])),(1,([],[]))])) (.leaf [0,1,2,3,4,5,13,6,7,8,9,10,11,12,14,15,16] (bN [0,0,3,0,8,0,7,103,231,511,1023,2047,2047,2047,4095,24575,65535]) [(9,([[],[],[0,1],[],[3],[],[0,1,2],[0,1,2,5,6],[0,1,2,5,6,7]],[(4,2),(4,6),(4,7),(5,2),(5,6)])),(1,([],[])),(1,([],[])),(5,([[],[],[],[0],[0,1,3]],[])),(1,([],[]))])) (.leaf [0,1,3,4,5,13,2,6,7,8,9,10,11,12,14,15,16] (bN [0,0,0,4,0,0,35,115,243,511,1023,2047,2047,2047,4095,24575,65535]) [(9,([[],[],[],[2],[],[],[0,1,5],[0,1,4,5,6],[0,1,4,5,6,7]],[(3,5),(3,6),(3,7),(4,5),(4,6)])),(1,([],[])),(1,([],[])),(5,([[],[],[],[0],[0,1,3]],[])),(1,([],[]))])) (by kernel_rfl) (by kernel_rfl) ?_;simp only[PT.run]
   repeat' (with_reducible apply And.intro)
   all_goals (simp only[Bo,fJ,gI,fC,fK];refine afB ?_;(repeat intro K hK);apply wr)
   all_goals ((refine ccB (hm) ?_))
   all_goals ((refine afB ?_);(repeat intro K hK);(apply wr))
   all_goals ((refine ccB (rmw) ?_))
   all_goals ((refine afB ?_);(repeat intro K hK);(apply wr))
   all_goals ((refine ccB (hba) ?_))
   all_goals ((refine afB ?_);(repeat intro K hK);(apply wr))
   ·refine hZ () _ (fun x=>if x=260 then 409 else x) (trivial) ⟨rfl,?_,?_,?_,by simp⟩
    ·simp[leT,ltV,lt1,ren,Ao]
    ·simp[leO,lt1,Ao]
    (simp;try omega)
   ·refine hZ () _ (fun x=>if x=260 then 358 else x) (trivial) ⟨rfl,?_,?_,?_,by simp⟩
    ·simp[leT,ltV,lt1,ren,Ao]
    ·simp[leO,lt1,Ao]
    (simp;try omega)
   ·refine hZ () _ (fun x=>if x=260 then 309 else x) (trivial) ⟨rfl,?_,?_,?_,by simp⟩
    ·simp[leT,ltV,lt1,ren,Ao]
    ·simp[leO,lt1,Ao]
    (simp;try omega)
   refine hZ () _ (id) (trivial) ⟨rfl,?_,?_,?_,by simp⟩
   ·simp[leT,ltV,lt1,ren,Ao]
   ·simp[leO,lt1,Ao]
   (simp;try omega)
  refine An (.node 4 5 (.leaf [0,1,2,3,4,5,6,7] (bN [0,1,0,4,0,16,51,127]) [(7,([[],[0],[],[2],[],[4],[0,1,4,5]],[(1,4),(1,5),(3,4),(3,5),(3,6)])),(1,([],[]))]) (.leaf [0,1,2,3,5,4,6,7] (bN [0,1,0,4,0,16,51,127]) [(7,([[],[0],[],[2],[],[4],[0,1,4,5]],[(1,4),(1,5),(3,4),(3,5),(3,6)])),(1,([],[]))])) (by kernel_rfl) (by kernel_rfl) ?_;simp only[PT.run]
  repeat' (with_reducible apply And.intro)
  all_goals (simp only[Bo,fJ,gI,fC,fK];refine afB ?_;(repeat intro K hK);apply wr)
  ·refine hY () _ (fun x=>if x=258 then 514 else if x=259 then 515 else x) (trivial) ⟨rfl,?_,?_,?_,by simp⟩
   ·simp(maxSteps:=4000000) [leT,ltV,lt1,ren,Ao]
   ·simp(maxSteps:=4000000) [leO,lt1,Ao]
   (simp;try omega)
  refine hY () _ (fun x=>if x=258 then 515 else if x=259 then 514 else x) (trivial) ⟨rfl,?_,?_,?_,by simp⟩
  ·simp(maxSteps:=4000000) [leT,ltV,lt1,ren,Ao]
  ·simp(maxSteps:=4000000) [leO,lt1,Ao]
  (simp;try omega)
 | false =>
  obtain⟨hw1,hw2,jw,hj,hF⟩:=wb;rw[<- hw2]at hF;obtain⟨O,hRb,hO⟩:=hF.rb;have hba:=SN hM hmay hRb hF.may (by omega) (by have:=hF.n;omega) (fun p=>by have:=hF.c p;omega) hF.v;rw[<- hw1]at hba;have rmw:=ZE {xb with host:=1,role:=3,gen:=2} rfl (by have:=hF.k.n;show xb.rec_.m.mem.length<=_;omega);have hsm:=O7 xb.rec_.m (by have:=hF.k.n;omega);refine afB ?_;(repeat intro K hK);apply wr;refine cF0 rfl ?_;refine afB ?_;refine ccB (tb1) ?_;refine afB ?_;refine ccB (ta0) ?_;refine afB ?_;(repeat intro K hK);apply wr;refine CH (α:=Unit) (fun _=>(⟨192,(20,.ptr 258 125 0 0)::(21,.ptr 259 125 0 0)::(19,.ptr 257 3 0 0)::tknT kind l false,260,[(258,ZA {xb with host:=1,role:=3,gen:=2}),(259,ZA {a with watch:=⟨2,2,0⟩,role:=0}),(257,stoP 1),(256,tknO {a with watch:=⟨2,2,0⟩,role:=0} {xb with host:=1,role:=3,gen:=2})],0⟩:St)) (fun _=>True) hK (fun _ hxhY=>?_) (fun hY=>?_);all_goals clear hK
  ·refine afB ?_;(repeat intro K hK);apply wr;refine cF0 rfl ?_;refine afB ?_;(repeat intro K hK);apply wr;refine CH (α:=Unit) (fun _=>(⟨192,[(24,.bool true),(22,.ptr 260 49 0 0),(20,.ptr 258 125 0 0),(21,.ptr 259 125 0 0),(19,.ptr 257 3 0 0)],261,[(260,some ⟨42,49,true,false,[xb.rec_.m.row]⟩),(258,ZA {xb with host:=1,role:=3,gen:=2}),(259,ZA {a with watch:=⟨2,2,0⟩,role:=0}),(257,stoP 1)],0⟩:St)) (fun _=>True) hK (fun _ hxhZ=>?_) (fun hZ=>?_);all_goals clear hK
   ·refine afB ?_;(repeat intro K hK);apply wr;refine AG 38 [0,1,3,7,15,31,63,127,255,511,1023,2047,4095,8191,16383,32767,65535,131071,262143,524287,1048575,524287,2621439,8388607,16777215,33554431,67108863,134217727,268435455,536870911,536870911,1610612735,4294967295,8589934591,17179869183,34359738367,68719476735,137438953471] [(1,([],[])),(1,([],[])),(1,([],[])),(1,([],[])),(1,([],[])),(1,([],[])),(1,([],[])),(1,([],[])),(1,([],[])),(1,([],[])),(1,([],[])),(1,([],[])),(1,([],[])),(1,([],[])),(1,([],[])),(1,([],[])),(1,([],[])),(1,([],[])),(1,([],[])),(4,([[],[0],[],[2]],[])),(1,([],[])),(1,([],[])),(1,([],[])),(1,([],[])),(1,([],[])),(1,([],[])),(3,([[],[],[1]],[(0,2)])),(1,([],[])),(1,([],[])),(1,([],[])),(1,([],[])),(1,([],[])),(1,([],[]))] ?_;refine afB ?_;refine ccB (rmw) ?_;refine afB ?_;refine ccB (hsm) ?_;refine afB ?_;refine ccB (GQ) ?_;refine afB ?_;refine ar ?_;simp
   refine An (.node 2 13 (.node 6 13 (.node 8 13 (.leaf [0,1,2,3,4,5,6,7,8,9,10,11,12,13,14,15,16] (bN [0,0,3,0,8,0,39,103,255,511,1023,1023,1023,511,10239,28671,65535]) [(8,([[],[],[0,1],[],[3],[],[0,1,2,5],[0,1,2,5,6]],[(4,2),(4,6),(5,2)])),(1,([],[])),(7,([[],[0],[0],[0],[],[0,1,4],[0,1,2,4,5]],[])),(1,([],[]))]) (.leaf [0,1,2,3,4,5,6,7,13,8,9,10,11,12,14,15,16] (bN [0,0,3,0,8,0,39,103,103,511,1023,2047,2047,2047,4095,24575,65535]) [(9,([[],[],[0,1],[],[3],[],[0,1,2,5],[0,1,2,5,6],[0,1,2,5,6]],[(4,2),(4,6),(4,8),(5,2)])),(1,([],[])),(1,([],[])),(5,([[],[],[],[0],[0,1,3]],[])),(1,([],[]))])) (.leaf [0,1,2,3,4,5,13,6,7,8,9,10,11,12,14,15,16] (bN [0,0,3,0,8,0,7,103,231,511,1023,2047,2047,2047,4095,24575,65535]) [(9,([[],[],[0,1],[],[3],[],[0,1,2],[0,1,2,5,6],[0,1,2,5,6,7]],[(4,2),(4,6),(4,7),(5,2),(5,6)])),(1,([],[])),(1,([],[])),(5,([[],[],[],[0],[0,1,3]],[])),(1,([],[]))])) (.leaf [0,1,3,4,5,13,2,6,7,8,9,10,11,12,14,15,16] (bN [0,0,0,4,0,0,35,115,243,511,1023,2047,2047,2047,4095,24575,65535]) [(9,([[],[],[],[2],[],[],[0,1,5],[0,1,4,5,6],[0,1,4,5,6,7]],[(3,5),(3,6),(3,7),(4,5),(4,6)])),(1,([],[])),(1,([],[])),(5,([[],[],[],[0],[0,1,3]],[])),(1,([],[]))])) (by kernel_rfl) (by kernel_rfl) ?_;simp only[PT.run]
   repeat' (with_reducible apply And.intro)
   all_goals (simp only[Bo,fJ,gI,fC,fK];refine afB ?_;(repeat intro K hK);apply wr)
   all_goals ((refine ccB (hm) ?_))
   all_goals ((refine afB ?_);(repeat intro K hK);(apply wr))
   all_goals ((refine ccB (rmw) ?_))
   all_goals ((refine afB ?_);(repeat intro K hK);(apply wr))
   all_goals ((refine ccB (hba) ?_))
   all_goals ((refine afB ?_);(repeat intro K hK);(apply wr))
   ·refine hZ () _ (fun x=>if x=260 then 409 else x) (trivial) ⟨rfl,?_,?_,?_,by simp⟩
    ·simp[leT,ltV,lt1,ren,Ao]
    ·simp[leO,lt1,Ao]
    (simp;try omega)
   ·refine hZ () _ (fun x=>if x=260 then 358 else x) (trivial) ⟨rfl,?_,?_,?_,by simp⟩
    ·simp[leT,ltV,lt1,ren,Ao]
    ·simp[leO,lt1,Ao]
    (simp;try omega)
   ·refine hZ () _ (fun x=>if x=260 then 309 else x) (trivial) ⟨rfl,?_,?_,?_,by simp⟩
    ·simp[leT,ltV,lt1,ren,Ao]
    ·simp[leO,lt1,Ao]
    (simp;try omega)
   refine hZ () _ (id) (trivial) ⟨rfl,?_,?_,?_,by simp⟩
   ·simp[leT,ltV,lt1,ren,Ao]
   ·simp[leO,lt1,Ao]
   (simp;try omega)
  refine An (.node 4 5 (.leaf [0,1,2,3,4,5,6,7] (bN [0,1,0,4,0,16,51,127]) [(7,([[],[0],[],[2],[],[4],[0,1,4,5]],[(1,4),(1,5),(3,4),(3,5),(3,6)])),(1,([],[]))]) (.leaf [0,1,2,3,5,4,6,7] (bN [0,1,0,4,0,16,51,127]) [(7,([[],[0],[],[2],[],[4],[0,1,4,5]],[(1,4),(1,5),(3,4),(3,5),(3,6)])),(1,([],[]))])) (by kernel_rfl) (by kernel_rfl) ?_;simp only[PT.run]
  repeat' (with_reducible apply And.intro)
  all_goals (simp only[Bo,fJ,gI,fC,fK];refine afB ?_;(repeat intro K hK);apply wr)
  ·refine hY () _ (fun x=>if x=258 then 514 else if x=259 then 515 else x) (trivial) ⟨rfl,?_,?_,?_,by simp⟩
   ·simp(maxSteps:=4000000) [leT,ltV,lt1,ren,Ao]
   ·simp(maxSteps:=4000000) [leO,lt1,Ao]
   (simp;try omega)
  refine hY () _ (fun x=>if x=258 then 515 else if x=259 then 514 else x) (trivial) ⟨rfl,?_,?_,?_,by simp⟩
  ·simp(maxSteps:=4000000) [leT,ltV,lt1,ren,Ao]
  ·simp(maxSteps:=4000000) [leO,lt1,Ao]
  (simp;try omega)
end Go.Proofs.YtjkmhmepljamoaaGreat
end
