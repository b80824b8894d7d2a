/- A part of the proof of ReplicaDisk. -/
import Derived.Test.YtjkmhmepljamoaaGreatK04
import Derived.Test.YtjkmhmepljamoaaGreatK28
import Derived.Test.YtjkmhmepljamoaaGreatK30
import Derived.Test.YtjkmhmepljamoaaGreatK35
import Derived.Test.YtjkmhmepljamoaaGreatK36
import Derived.Test.YtjkmhmepljamoaaGreatK37
set_option linter.all false
set_option maxHeartbeats 16000000
set_option maxRecDepth 100000
section
namespace Go.Proofs.YtjkmhmepljamoaaGreat
open Go.Ab Go.RowKit Tryz
theorem UR(n:Int)(c:UInt8)(t:Str)(hn:L64 n)(hc:¬c=72)(ht:t.length<=300000):AC prog 78 [.str (slD n (c::t))] (.tup [lv 0,lv 0,.bool false]):=by
 have ho:=O4 (slD n (c::t)) (by have:=Z8 n (c::t);simp at this;omega);rw[I6 n hn (c::t) (by simp;omega)]at ho;have e1:((n.toNat:Nat):Int)=n:=by have:=hn.1;omega
 simp only[NE,e1]at ho;generalize slD n (c::t)=p at *;refine sX func78 ntmps78 ?_;refine cX (ho) ?_;refine ED @hc ?_;refine ar ?_;simp
def detD(d:DetD):Prop:=1<=d.limit/\d.limit<=20/\0<=d.silent/\d.silent<=d.limit
theorem PP(t:DetD)(n:Int)(hd:detD t)(hs:t.seen<n):AC prog 79 [.st t.row,lv n] (.tup [.st (DetD.row ⟨t.limit,0,n⟩),.bool true]):=by
 obtain⟨h1,h2,h3,h4⟩:=hd;have hv:=Gb t;have e:(decide (1<=t.limit)&&decide (t.limit<=20)&&decide (0<=t.silent)&&decide (t.silent<=t.limit))=true:=by simp[h1,h2,h3,h4]
 rw[e]at hv;have c1:¬n<=t.seen:=by omega
 refine sX func79 ntmps79 ?_;refine cX (hv) ?_;refine BU @c1 ?_;refine ar ?_;simp
theorem dlv_ok(r:RepD)(w:RcvD)(g:SegD)(hm:r.rpl.m.mem.length<=100000)(hF:FeedOk r.rpl g.ents g.known)(hh:r.hist.length<=40000):AC prog 81 [.st r.row,.st w.row,.sl 3 false [g.row]] (.tup [.st (RepD.row {r with inn:=w,rpl:={r.rpl with log:=r.rpl.log++g.ents,known:=g.known},hist:=r.hist++g.ents}),.bool true]):=by
 have hf:=Wh r.rpl g.ents g.known hm hF;have hc:=Iw r.hist g.ents (by omega) (by have:=hF.n;omega);have w:IntKind.i64.wrap 1=1:=AA (by decide) (by decide);refine sX func81 ntmps81 ?_;(repeat intro K hK);apply wr
 (refine af1 @w ?_;(repeat intro K hK);apply wr)
 repeat' ((first|(refine AB rfl (fun h=>?_) (fun h=>?_)<;>(first|(simp[w]at h;done)|(simp[w]at h)|skip)<;>(first|(exfalso;omega)|skip))|refine cc1 (hf) @w ?_|refine cc1 (hc) @w ?_|refine Aa 2 ?_|refine BD fun K hK=>?_|(refine AD (rid:=1) 7 [0,1,0,4,0,19,63] [(6,([[],[0],[],[2],[],[0,1,4]],[(1,4),(3,4),(3,5)])),(1,([],[]))] ?_)|(refine AD (rid:=11) 9 [0,0,0,1,9,27,59,127,255] [(7,([[],[],[],[0],[0,3],[0,1,3,4],[0,1,3,4,5]],[(1,4)])),(1,([],[])),(1,([],[]))] ?_)|exact rt1 @w|fail)<;>(refine af1 @w ?_;(repeat intro K hK);apply wr))
theorem dJ(r:RepD)(w:RcvD)(g:SegD)(p:Str)(ht:AC prog 80 [.st r.inn.row,.str p] (.tup [.st w.row,.sl 3 false [g.row],.bool true]))(hm:r.rpl.m.mem.length<=100000)(hF:FeedOk r.rpl g.ents g.known)(hh:r.hist.length<=40000):
  AC prog 33 [.st r.row,.str p] (.tup [.st (RepD.row {r with inn:=w,rpl:={r.rpl with log:=r.rpl.log++g.ents,known:=g.known},hist:=r.hist++g.ents}),.bool true]):=by
 have hd:=dlv_ok r w g hm hF hh;refine sZ func33 ntmps33 ?_;exact wx (qX2 (ht) (hd)) trivial
def Kt(r:RepD)(n x:Int):RepD:={r with watch:=⟨r.watch.limit,0,n⟩,mark:=max r.mark x,gate:=(GL r.gate (max r.mark x)).1}
theorem dK(r:RepD)(n x:Int)(ht:AC prog 80 [.st r.inn.row,.str (D6 n x)] (.tup [.st r.inn.row,.sl 3 false [],.bool false]))(hn:L64 n)(hx:L64 x)(hd:detD r.watch)(hs:r.watch.seen<n)(hg:r.gate.held.length<=50000):
  AC prog 33 [.st r.row,.str (D6 n x)] (.tup [.st (Kt r n x).row,.bool true]):=by
 have hp:=QD n x hn hx;have hb:=PP r.watch n hd hs;obtain⟨M,hM⟩:∃M,M=max r.mark x:=⟨_,rfl⟩;have hMi:(if r.mark<x then x else r.mark)=M:=by rw[hM];split<;>omega
 have hr:=EY r.gate M hg;have hE:Kt r n x={r with watch:=⟨r.watch.limit,0,n⟩,mark:=M,gate:=(GL r.gate M).1}:=by unfold Kt;rw[<- hM]
 rw[hE];clear hE;generalize D6 n x=p at *;refine sX func33 ntmps33 ?_;refine cX (ht) ?_;refine C3 ?_;refine cX (hp) ?_;refine C3 ?_;refine cX (hb) ?_;refine EG @hMi ?_;refine cZ (hr) @hMi @hMi ?_;refine aw ?_;simp
theorem dM(r:RepD)(s:SndD)(p:Str)(ha:AC prog 77 [.st r.out.row,.str p] (.tup [.st s.row,.bool true])):AC prog 32 [.st r.row,.str p] (.tup [.st (RepD.row {r with out:=s}),.bool true]):=by
 refine sZ func32 ntmps32 ?_;exact wx (qX1 (ha)) trivial
theorem dN(r:RepD)(p:Str)(ha:AC prog 77 [.st r.out.row,.str p] (.tup [.st r.out.row,.bool false]))(hp:AC prog 78 [.str p] (.tup [lv 0,lv 0,.bool false])):AC prog 32 [.st r.row,.str p] (.tup [.st r.row,.bool false]):=by
 refine sZ func32 ntmps32 ?_;exact wx (qX2 (ha) (hp)) trivial
theorem dO(r:RepD)(n x:Int)(ha:AC prog 77 [.st r.out.row,.str (D6 n x)] (.tup [.st r.out.row,.bool false]))(hn:L64 n)(hx:L64 x)(hd:detD r.watch)(hs:r.watch.seen<n):
  AC prog 32 [.st r.row,.str (D6 n x)] (.tup [.st (RepD.row {r with watch:=⟨r.watch.limit,0,n⟩}),.bool true]):=by
 have hp:=QD n x hn hx;have hb:=PP r.watch n hd hs;generalize D6 n x=p at *;refine sZ func32 ntmps32 ?_;exact wx (qX3 (ha) (hp) (hb)) trivial
theorem Oh(r r':RepD)(p:Str)(b:Bool)(h:OkP r 40000)(hro:r.role=1)(hr:AC prog 32 [.st r.row,.str p] (.tup [.st r'.row,.bool b])):AC prog 10 [.st r.row,.str p] (.tup [.st r'.row,.bool b]):=by
 have hc:=C2 r h;refine sX func10 ntmps10 ?_;refine cX (hc) ?_;refine ED @hro ?_;refine cX (hr) ?_;refine aw ?_;simp
theorem Uc(r r':RepD)(p:Str)(b:Bool)(h:OkP r 40000)(hro:r.role=2)(hr:AC prog 33 [.st r.row,.str p] (.tup [.st r'.row,.bool b])):AC prog 10 [.st r.row,.str p] (.tup [.st r'.row,.bool b]):=by
 have hc:=C2 r h;refine sX func10 ntmps10 ?_;refine cX (hc) ?_;refine BU @hro ?_;refine ED @hro ?_;refine cX (hr) ?_;refine aw ?_;simp
theorem eD(r:RepD)(h:OkP r 40000)(hro:r.role=1)(ho:CH r.out=true)(hb:0<=r.beats/\r.beats<1000000)(ha:L64 r.gate.acked):AC prog 9 [.st r.row] (.tup [.st (RepD.row {r with beats:=r.beats+1}),.sl 1 false (strs (Ka r.out.base r.out.queue++[D6 (r.beats+1) r.gate.acked]))]):=by
 have hc:=C2 r h;have hs:=spk_ok r.out h.o ho;have w1:IntKind.u64.wrap (r.beats+1)=r.beats+1:=by rw[IntKind.wrap_u64];omega
 have hbt:=Sc (r.beats+1) r.gate.acked ⟨by omega,by omega⟩ ha;obtain⟨-,-,b3,-⟩:=Fy ho;have hpl:(Ka r.out.base r.out.queue).length<=8:=by
  have:∀(l:List SegD)(b:Int),(Ka b l).length=l.length:=by
   intro l;induction l with
   | nil=>intro b;rfl
   | cons x l ih=>intro b;simp[Ka,ih]
  rw[this];exact b3
 have hsl:=BV (Ka r.out.base r.out.queue);have happ:∀x:Str,strs (Ka r.out.base r.out.queue++[x])=strs (Ka r.out.base r.out.queue)++[[.str x]]:=fun x=>by simp[strs]
 generalize Ka r.out.base r.out.queue=L at *;refine sX func9 ntmps9 ?_;refine cX (hc) ?_;refine ED @hro ?_;refine cY (hs) @w1 ?_;intros;apply wr;refine AD 10 [0,0,0,4,0,28,60,126,255,511] [(8,([[],[],[],[2],[],[2,3,4],[2,3,4,5],[1,2,3,4,5,6]],[(0,5),(0,6),(0,7)])),(1,([],[])),(1,([],[]))] ?_;refine af1 @w1 ?_;refine cZf (hbt) @w1 (kX3 @w1 @hsl @maxLen.eq_1) ?_;refine aw ?_;simp[happ]
theorem eE(r:RepD)(h:OkP r 40000)(hro:r.role=2)(he:r.inn.early=[])(hn:1<=r.inn.next/\r.inn.next<=4611686018427387904)(hk:L64 r.inn.known)(hb:0<=r.beats/\r.beats<1000000):AC prog 9 [.st r.row] (.tup [.st (RepD.row {r with beats:=r.beats+1}),.sl 1 false (strs [slD r.inn.next (65::BG r.inn.known),D6 (r.beats+1) 0])]):=by
 have hc:=C2 r h;have hs:=Xt r.inn.next r.inn.known hn.1 hn.2 hk;have w1:IntKind.u64.wrap (r.beats+1)=r.beats+1:=by rw[IntKind.wrap_u64];omega
 have hbt:=Sc (r.beats+1) 0 ⟨by omega,by omega⟩ ⟨by omega,by omega⟩;have hee:Iz r.inn.early=[]:=by rw[he];rfl
 refine sX func9 ntmps9 ?_;refine cX (hc) ?_;refine BU @hro ?_;refine DI @hro @hee ?_;refine cY (hs) @w1 ?_;intros;apply wr;refine AD 10 [0,0,0,4,0,28,60,126,255,511] [(8,([[],[],[],[2],[],[2,3,4],[2,3,4,5],[1,2,3,4,5,6]],[(0,5),(0,6),(0,7)])),(1,([],[])),(1,([],[]))] ?_;refine af1 @w1 ?_;refine cZf (hbt) @w1 (kX2 @w1 @maxLen.eq_1) ?_;refine aw ?_;simp[strs,hee]
end Go.Proofs.YtjkmhmepljamoaaGreat
end
