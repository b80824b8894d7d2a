/- A part of the proof of ReplicaHalts. -/
import Derived.Test.YthjpcmecgjfilaaGreatH03
import Derived.Test.YthjpcmecgjfilaaGreatH30
import Derived.Test.YthjpcmecgjfilaaGreatH31
import Derived.Test.YthjpcmecgjfilaaGreatH33
import Derived.Test.YthjpcmecgjfilaaGreatH38
set_option linter.unusedSimpArgs false
set_option linter.unusedVariables false
set_option maxHeartbeats 16000000
set_option maxRecDepth 100000
section
namespace Go.Proofs.YthjpcmecgjfilaaGreat
open Go.Ab Go.RowKit Tryz
theorem zPg (n:Int) (c:UInt8) (t:Str) (hn:L64 n) (hc:¬ c=72) (ht:t.length<=300000):zAD prog 87 [.str (slD n (c::t))] (.tup [lv 0,lv 0,.bool false]):=by
 have ho:=zLF (slD n (c::t)) (by have:=zTc n (c::t);simp at this;omega)
 rw [zGF n hn (c::t) (by simp;omega)] at ho
 have e1:((n.toNat:Nat):Int)=n:=by have:=hn.1;omega
 simp only [zJ9,e1] at ho;generalize slD n (c::t)=p at *
 refine sX func87 ntmps87 ?_;intros;apply wr;refine cX (ho) ?_;intros;apply wr;refine gT10 @hc rfl ?_;intros;apply wr;refine zAB ?_;simp
def detD (d:DetD):Prop:=1<=d.limit/\d.limit<=20/\0<=d.silent/\d.silent<=d.limit
theorem zLi (t:DetD) (n:Int) (hd:detD t) (hs:t.seen<n):zAD prog 88 [.st t.row,lv n] (.tup [.st (DetD.row ⟨t.limit,0,n⟩),.bool true]):=by
 obtain ⟨h1,h2,h3,h4⟩:=hd;have hv:=zJe t;have e:(decide (1<=t.limit)&&decide (t.limit<=20)&&decide (0<=t.silent)&&decide (t.silent<=t.limit))=true:=by simp [h1,h2,h3,h4]
 rw [e] at hv;have c1:¬ n<=t.seen:=by omega
 refine sX func88 ntmps88 ?_;intros;apply wr;refine cX (hv) ?_;intros;apply wr;refine gF10 @c1 rfl ?_;intros;apply wr;refine zAB ?_;simp
theorem dlv_ok (r:RepD) (w:RcvD) (g:SegD) (hm:r.rpl.m.mem.length<=100000) (hF:FeedOk r.rpl g.ents g.known) (hh:r.hist.length<=40000):zAD prog 90 [.st r.row,.st w.row,.sl 3 false [g.row]] (.tup [.st (RepD.row {r with inn:=w,rpl:={r.rpl with log:=r.rpl.log++g.ents,known:=g.known},hist:=r.hist++g.ents}),.bool true]):=by
 have hf:=zRM r.rpl g.ents g.known hm hF;have hc:=zGU r.hist g.ents (by omega) (by have:=hF.n;omega)
 have w:IntKind.i64.wrap 1=1:=zAA (by decide) (by decide)
 refine sX func90 ntmps90 ?_;(repeat intro K hK);apply wr
 (refine af1 @w ?_;(repeat intro K hK);apply wr)
 repeat' ((first|(refine zAC rfl (fun h=>?_) (fun h=>?_)<;>(first|(simp [w] at h;done)|(simp [w] at h)|skip)<;>(first|(exfalso;omega)|skip))|refine cc1 (hf) @w ?_|refine cc1 (hc) @w ?_|refine zAX 2 ?_|refine zAk fun K hK=>?_|(refine zAE (rid:=1) 7 [0,1,0,4,0,19,63] [(6,([[],[0],[],[2],[],[0,1,4]],[(1,4),(3,4),(3,5)])),(1,([],[]))] ?_)|(refine zAE (rid:=11) 9 [0,0,0,1,9,27,59,127,255] [(7,([[],[],[],[0],[0,3],[0,1,3,4],[0,1,3,4,5]],[(1,4)])),(1,([],[])),(1,([],[]))] ?_)|exact rt1 @w|fail)<;>(refine af1 @w ?_;(repeat intro K hK);apply wr))
theorem zU8 (r:RepD) (w:RcvD) (g:SegD) (p:Str) (ht:zAD prog 89 [.st r.inn.row,.str p] (.tup [.st w.row,.sl 3 false [g.row],.bool true])) (hm:r.rpl.m.mem.length<=100000) (hF:FeedOk r.rpl g.ents g.known) (hh:r.hist.length<=40000) :
  zAD prog 38 [.st r.row,.str p] (.tup [.st (RepD.row {r with inn:=w,rpl:={r.rpl with log:=r.rpl.log++g.ents,known:=g.known},hist:=r.hist++g.ents}),.bool true]):=by
 have hd:=dlv_ok r w g hm hF hh;refine sZ func38 ntmps38 ?_;exact wx (qX2 (ht) (hd)) trivial
def zHT (r:RepD) (n x:Int):RepD:={r with watch:=⟨r.watch.limit,0,n⟩,mark:=max r.mark x,gate:=(relD r.gate (max r.mark x)).1}
theorem zU9 (r:RepD) (n x:Int) (ht:zAD prog 89 [.st r.inn.row,.str (zCC n x)] (.tup [.st r.inn.row,.sl 3 false [],.bool false])) (hn:L64 n) (hx:L64 x) (hd:detD r.watch) (hs:r.watch.seen<n) (hg:r.gate.held.length<=50000) :
  zAD prog 38 [.st r.row,.str (zCC n x)] (.tup [.st (zHT r n x).row,.bool true]):=by
 have hp:=zMQ n x hn hx;have hb:=zLi r.watch n hd hs;obtain ⟨M,hM⟩:∃ M,M=max r.mark x:=⟨_,rfl⟩;have hMi:(if r.mark<x then x else r.mark)=M:=by rw [hM];split<;>omega
 have hr:=zFR r.gate M hg;have hE:zHT r n x={r with watch:=⟨r.watch.limit,0,n⟩,mark:=M,gate:=(relD r.gate M).1}:=by unfold zHT;rw [<- hM]
 rw [hE];clear hE;generalize zCC n x=p at *
 refine sX func38 ntmps38 ?_;intros;apply wr;refine cX (ht) ?_;intros;apply wr;refine gF00 rfl ?_;intros;apply wr;refine cX (hp) ?_;intros;apply wr;refine gF00 rfl ?_;intros;apply wr;refine cX (hb) ?_;intros;apply wr;refine gF01 rfl @hMi ?_;intros;apply wr;refine cZ (hr) @hMi @hMi ?_;intros;apply wr;refine zAI ?_;refine zAB ?_;simp
theorem zVA (r:RepD) (s:SndD) (p:Str) (ha:zAD prog 86 [.st r.out.row,.str p] (.tup [.st s.row,.bool true])):zAD prog 37 [.st r.row,.str p] (.tup [.st (RepD.row {r with out:=s}),.bool true]):=by
 refine sZ func37 ntmps37 ?_;exact wx (qX1 (ha)) trivial
theorem zVB (r:RepD) (p:Str) (ha:zAD prog 86 [.st r.out.row,.str p] (.tup [.st r.out.row,.bool false])) (hp:zAD prog 87 [.str p] (.tup [lv 0,lv 0,.bool false])):zAD prog 37 [.st r.row,.str p] (.tup [.st r.row,.bool false]):=by
 refine sZ func37 ntmps37 ?_;exact wx (qX2 (ha) (hp)) trivial
theorem zVC (r:RepD) (n x:Int) (ha:zAD prog 86 [.st r.out.row,.str (zCC n x)] (.tup [.st r.out.row,.bool false])) (hn:L64 n) (hx:L64 x) (hd:detD r.watch) (hs:r.watch.seen<n) :
  zAD prog 37 [.st r.row,.str (zCC n x)] (.tup [.st (RepD.row {r with watch:=⟨r.watch.limit,0,n⟩}),.bool true]):=by
 have hp:=zMQ n x hn hx;have hb:=zLi r.watch n hd hs;generalize zCC n x=p at *
 refine sZ func37 ntmps37 ?_;exact wx (qX3 (ha) (hp) (hb)) trivial
theorem zLO (r r':RepD) (p:Str) (b:Bool) (h:OkP r 40000) (hro:r.role=1) (hr:zAD prog 37 [.st r.row,.str p] (.tup [.st r'.row,.bool b])):zAD prog 12 [.st r.row,.str p] (.tup [.st r'.row,.bool b]):=by
 have hc:=zB4 r h;refine sX func12 ntmps12 ?_;intros;apply wr;refine cX (hc) ?_;intros;apply wr;refine gT10 @hro rfl ?_;intros;apply wr;refine cX (hr) ?_;intros;apply wr;refine zAI ?_;refine zAB ?_;simp
theorem zPo (r r':RepD) (p:Str) (b:Bool) (h:OkP r 40000) (hro:r.role=2) (hr:zAD prog 38 [.st r.row,.str p] (.tup [.st r'.row,.bool b])):zAD prog 12 [.st r.row,.str p] (.tup [.st r'.row,.bool b]):=by
 have hc:=zB4 r h;refine sX func12 ntmps12 ?_;intros;apply wr;refine cX (hc) ?_;intros;apply wr;refine gF10 @hro rfl ?_;intros;apply wr;refine gT10 @hro rfl ?_;intros;apply wr;refine cX (hr) ?_;intros;apply wr;refine zAI ?_;refine zAB ?_;simp
theorem zVO (r:RepD) (h:OkP r 40000) (hro:r.role=1) (ho:zBQ r.out=true) (hb:0<=r.beats/\r.beats<1000000) (ha:L64 r.gate.acked):zAD prog 11 [.st r.row] (.tup [.st (RepD.row {r with beats:=r.beats+1}),.sl 1 false (strs (pksL r.out.base r.out.queue++[zCC (r.beats+1) r.gate.acked]))]):=by
 have hc:=zB4 r h;have hs:=spk_ok r.out h.o ho;have w1:IntKind.u64.wrap (r.beats+1)=r.beats+1:=by rw [IntKind.wrap_u64];omega
 have hbt:=zOA (r.beats+1) r.gate.acked ⟨by omega,by omega⟩ ha
 obtain ⟨-,-,b3,-⟩:=zEC ho;have hpl:(pksL r.out.base r.out.queue).length<=8:=by
  have:∀ (l:List SegD) (b:Int),(pksL b l).length=l.length:=by
   intro l;induction l with
   | nil=>intro b;rfl
   | cons x l ih=>intro b;simp [pksL,ih]
  rw [this];exact b3
 have hsl:=zBR (pksL r.out.base r.out.queue);have happ:∀ x:Str,strs (pksL r.out.base r.out.queue++[x])=strs (pksL r.out.base r.out.queue)++[[.str x]]:=fun x=>by simp [strs]
 generalize pksL r.out.base r.out.queue=L at *
 refine sX func11 ntmps11 ?_;intros;apply wr;refine cX (hc) ?_;intros;apply wr;refine gT10 @hro rfl ?_;intros;apply wr;refine cY (hs) @w1 ?_;intros;apply wr;refine zAE 10 [0,0,0,4,0,28,60,126,255,511] [(8,([[],[],[],[2],[],[2,3,4],[2,3,4,5],[1,2,3,4,5,6]],[(0,5),(0,6),(0,7)])),(1,([],[])),(1,([],[]))] ?_;refine af1 @w1 ?_;intros;apply wr;refine cZf (hbt) @w1 (kX3 @w1 @hsl @maxLen.eq_1) ?_;intros;apply wr;refine zAI ?_;refine zAB ?_;simp [happ]
theorem zVP (r:RepD) (h:OkP r 40000) (hro:r.role=2) (he:r.inn.early=[]) (hn:1<=r.inn.next/\r.inn.next<=4611686018427387904) (hk:L64 r.inn.known) (hb:0<=r.beats/\r.beats<1000000):zAD prog 11 [.st r.row] (.tup [.st (RepD.row {r with beats:=r.beats+1}),.sl 1 false (strs [slD r.inn.next (65::putD r.inn.known),zCC (r.beats+1) 0])]):=by
 have hc:=zB4 r h;have hs:=zSO r.inn.next r.inn.known hn.1 hn.2 hk;have w1:IntKind.u64.wrap (r.beats+1)=r.beats+1:=by rw [IntKind.wrap_u64];omega
 have hbt:=zOA (r.beats+1) 0 ⟨by omega,by omega⟩ ⟨by omega,by omega⟩
 have hee:zGX r.inn.early=[]:=by rw [he];rfl
 refine sX func11 ntmps11 ?_;intros;apply wr;refine cX (hc) ?_;intros;apply wr;refine gF10 @hro rfl ?_;intros;apply wr;refine gT11 @hro rfl @hee ?_;intros;apply wr;refine cY (hs) @w1 ?_;intros;apply wr;refine zAE 10 [0,0,0,4,0,28,60,126,255,511] [(8,([[],[],[],[2],[],[2,3,4],[2,3,4,5],[1,2,3,4,5,6]],[(0,5),(0,6),(0,7)])),(1,([],[])),(1,([],[]))] ?_;refine af1 @w1 ?_;intros;apply wr;refine cZf (hbt) @w1 (kX2 @w1 @maxLen.eq_1) ?_;intros;apply wr;refine zAI ?_;refine zAB ?_;simp [strs,hee]
end Go.Proofs.YthjpcmecgjfilaaGreat
end
