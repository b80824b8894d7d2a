/- A part of the proof of ReplicaDisk. -/
import Derived.Test.YtjkmhmepljamoaaGreatK14
import Derived.Test.YtjkmhmepljamoaaGreatK27
import Derived.Test.YtjkmhmepljamoaaGreatK28
set_option linter.all false
set_option maxHeartbeats 16000000
set_option maxRecDepth 100000
section
namespace Go.Proofs.YtjkmhmepljamoaaGreat
open Go.Ab Go.RowKit Tryz
structure FeedOk(p:RplD)(l:List EntD)(known:Int):Prop where
 k:p.known<=known
 n:l.length<=400
 b:p.log.length+l.length<=4096
 e:∀e∈l,p.known<=e.at_/\e.at_<=known/\(e.at_=known->e.ev.kind≠1)/\evVal e.ev=true
 o:ordD (p.log++l)=true
theorem Wh(p:RplD)(l:List EntD)(known:Int)(hm:p.m.mem.length<=100000)(h:FeedOk p l known):AC prog 141 [.st p.row,Bo l,lv known] (.tup [.st (RplD.row {p with log:=p.log++l,known:=known}),.bool true]):=by
 have hb:=h.b;have hn:=h.n;have hk:=h.k;have hcop:=J9 p hm (by omega);have hl:=Ay l;have hl2:=Ay p.log;have c1:¬known<p.known:=by omega
 have c2:¬(400:Int)<l.length:=by omega
 have w1:IntKind.i64.wrap ((p.log.length:Int)+l.length)=(p.log.length:Int)+l.length:=AA;have c3:¬(4096:Int)<(p.log.length:Int)+l.length:=by omega
 have hcc:=Iw p.log l (by omega) (by omega);have hor:=ZT (p.log++l);rw[h.o]at hor;refine sX func141 ntmps141 ?_;refine cY (hcop) (kX3 @hl @hl2 @w1) ?_;refine EP (kX3 @c1 @c2 @c3) @hl ?_;intros;apply wr;obtain⟨I,hI⟩:∃I:Nat->St->Prop,I=(fun kk ss=>∃(i:Nat),i<=l.length/\kk=l.length-i/\(True)/\ss=⟨82,[(34,.int .i64 i),(33,.int .i64 l.length),(32,Bo l),(3,.ptr 0 52 0 0),(2,lv known),(6,.ptr 1 52 0 0),(1,Bo l)],54,[(0,some (eF p)),(1,some ⟨48,52,true,false,[zMR++[.sl 0 true [],lv 0,uv 0]]⟩)],0⟩):=⟨_,rfl⟩;refine lX I (id) (by rw[hI];exact⟨0,by simp,rfl,trivial,rfl⟩) ?_;intro kk ss hIk _;rw[hI]at hIk;obtain⟨i,hi,rfl,hx,rfl⟩:=hIk;refine au1 @hl ?_;intros;apply wr;refine AB rfl (fun hh=>?_) (fun hh=>?_)
 ·simp at hh;obtain⟨e,he,-,-,hmem⟩:=get_at hh;have hget:=B7 he;obtain⟨e1,e2,e3,e4⟩:=h.e e hmem;have hv:=IW e.ev;rw[e4]at hv;have f1:¬e.at_<p.known:=by omega
  have f2:¬known<e.at_:=by omega
  have f3:(decide (e.at_=known)&&decide (e.ev.kind=1))=false:=by
   by_cases q:e.at_=known
   ·simp[e3 q]
   simp[q]
  have f4:(e.at_==known&&e.ev.kind==1)=false:=f3;refine au1 @hget ?_;refine BU (kX4 @f1 @f2 @f3 @f4) ?_;refine cX (hv) ?_;refine C3 ?_;intros;apply wr;exact aX (id) (by rw[hI];exact⟨i+1,by omega,rfl,trivial,rfl⟩) (AA (n:=(i:Int)+1))
 simp at hh;refine au ?_;refine cX (hcc) ?_;refine cX (hor) ?_;refine C3 ?_;refine aw ?_;simp
end Go.Proofs.YtjkmhmepljamoaaGreat
end
