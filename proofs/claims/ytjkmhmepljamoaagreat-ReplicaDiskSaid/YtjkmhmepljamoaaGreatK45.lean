/- A part of the proof of ReplicaDisk. -/
import Derived.Test.YtjkmhmepljamoaaGreatK04
import Derived.Test.YtjkmhmepljamoaaGreatK30
import Derived.Test.YtjkmhmepljamoaaGreatK43
set_option linter.all false
set_option maxHeartbeats 16000000
set_option maxRecDepth 100000
section
namespace Go.Proofs.YtjkmhmepljamoaaGreat
open Go.Ab Go.RowKit Tryz
structure OkS(bs:List (List UInt8)):Prop where
 b:∀b∈bs,b.length=128
 h1:1<=bs.length
 h2:bs.length<=64
def wrB(bs:List (List UInt8))(x:OutD):List (List UInt8):=if x.kind=4/\x.block<bs.length then bs.set x.block.toNat x.data else bs
def evB(bs:List (List UInt8))(x:OutD):EvD:=if(bs.length:Int)<=x.block then⟨4,0,[]⟩else if x.kind=3 then⟨4,1,bs.getD x.block.toNat []⟩else⟨4,1,[]⟩
structure OkX(x:OutD):Prop where
 k:x.kind=3\/x.kind=4
 d:x.kind=4->x.data.length=128
 b:W32 x.block
theorem PK(bs:List (List UInt8))(x:OutD):(wrB bs x).length=bs.length:=by
 unfold wrB;split<;>simp
theorem OkS.wr{bs:List (List UInt8)}(h:OkS bs){x:OutD}(hx:x.kind=4->x.data.length=128):OkS (wrB bs x):=by
 refine⟨fun b hb=>?_,by rw[PK];exact h.h1,by rw[PK];exact h.h2⟩;unfold wrB at hb;split at hb
 ·rename_i c;rcases List.mem_or_eq_of_mem_set hb with q|q
  ·exact h.b b q
  rw[q];exact hx c.1
 exact h.b b hb
theorem Qp(bs:List (List UInt8))(g o:Int)(hb:bs.length<=100000):AC prog 84 [BR bs g o] (.st [.new 9 1 (strs bs),lv g,iv o]):=by
 refine sZ func84 ntmps84 ?_;exact wx (qX1 (Sq (strs bs) (by rw[BV];exact hb))) trivial
set_option maxHeartbeats 32000000 in
theorem TP(bs:List (List UInt8))(g o:Int)(hS:OkS bs)(hg:1<=g/\g<=4611686018427387904)(ho:0<=o)(x:OutD)(hx:OkX x):
  AC prog 51 [BR bs g o,lv g,.st x.row] (.tup [BR (wrB bs x) g o,.st (evB bs x).row,.bool true]):=by
 have hc:=Qp bs g o (by have:=hS.h2;omega);have hv:=S6 bs g o hg ho hS.b hS.h1 hS.h2;have hl:=BV bs;obtain⟨k,a,b,d⟩:=x;obtain⟨hk,hd,hb⟩:=hx;simp only at hk hd hb;have e1:IntKind.u64.wrap b=b:=by have:=hb.2;have:=hb.1;rw[IntKind.wrap_u64];omega
 have e2:IntKind.u64.wrap (bs.length:Int)=bs.length:=by have:=hS.h2;rw[IntKind.wrap_u64];omega
 have g0:¬g=0:=by omega
 by_cases hlt:(bs.length:Int)<=b
 ·have hE:evB bs ⟨k,a,b,d⟩=⟨4,0,[]⟩:=if_pos hlt;have hW:wrB bs ⟨k,a,b,d⟩=bs:=if_neg fun q=>by have:=q.2;simp only at this;omega
  rw[hE,hW];rcases hk with rfl|rfl
  ·refine sY func51 ntmps51 @hl ?_;refine cX (hc) ?_;refine cX (hv) ?_;refine EP @g0 (kX3 @e1 @e2 @hl) ?_;refine ED @hlt ?_;intros;apply wr;refine AD 5 [0,0,1,7,15] [(3,([[],[],[0]],[(1,2)])),(1,([],[])),(1,([],[]))] ?_;refine af ?_;refine aw ?_;simp
  refine sY func51 ntmps51 @hl ?_;refine cXf (hc) ?_;refine cXf (hv) ?_;refine Cw @g0 (kX3 @e1 @e2 @hl) ?_;refine Ei @hlt ?_;intros;apply wr;refine AD 5 [0,0,1,7,15] [(3,([[],[],[0]],[(1,2)])),(1,([],[])),(1,([],[]))] ?_;refine af ?_;refine aw ?_;simp
 obtain⟨n,rfl⟩:∃n:Nat,b=n:=⟨b.toNat,by have:=hb.1;omega⟩;have hbl:n<bs.length:=by omega
 have hbl2:(n:Int)<(bs.length:Int):=by omega
 have hlt2:¬bs.length<=n:=by omega
 obtain⟨z,hz,-,-,-⟩:=get_at hbl;have hgz:=E5 hz;rcases hk with rfl|rfl
 ·have hE:evB bs ⟨3,a,n,d⟩=⟨4,1,z⟩:=by unfold evB;rw[if_neg hlt,if_pos rfl];show EvD.mk 4 1 (bs.getD n [])=_;rw[gP,hz];rfl
  have hW:wrB bs ⟨3,a,n,d⟩=bs:=if_neg fun q=>absurd q.1 (by show ¬(3:Int)=4;decide);rw[hE,hW];refine sY func51 ntmps51 @hl ?_;refine cXf (hc) ?_;refine cXf (hv) ?_;refine Cw @g0 (kX3 @e1 @e2 @hl) ?_;refine Ac @hlt2 ?_;refine RN ?_;intros;apply wr;refine AD 10 [0,1,0,4,15,31,0,64,255,511] [(8,([[],[0],[],[2],[0,1,2,3],[0,1,2,3,4],[],[6]],[(1,7),(3,7),(4,7),(5,7)])),(1,([],[])),(1,([],[]))] ?_;refine af1 (kX3 @hl @hgz @hbl2) ?_;intros;apply wr;refine AD 5 [0,0,1,7,15] [(3,([[],[],[0]],[(1,2)])),(1,([],[])),(1,([],[]))] ?_;refine af ?_;refine aw ?_;simp
 have hE:evB bs ⟨4,a,n,d⟩=⟨4,1,[]⟩:=by unfold evB;rw[if_neg hlt,if_neg (by show ¬(4:Int)=3;decide)]
 have hW:wrB bs ⟨4,a,n,d⟩=bs.set n d:=if_pos ⟨rfl,hbl2⟩;have hst:=Q9 bs n d;have hd':=hd rfl;rw[hE,hW];refine sY func51 ntmps51 @hl ?_;refine cXf (hc) ?_;refine cXf (hv) ?_;refine Cw @g0 (kX3 @e1 @e2 @hl) ?_;refine Ac @hlt2 ?_;refine BN ?_;refine Cw @hd' (kX3 @hl @hbl2 @hst) ?_;intros;apply wr;refine AD 5 [0,0,1,7,15] [(3,([[],[],[0]],[(1,2)])),(1,([],[])),(1,([],[]))] ?_;refine af ?_;refine aw ?_;simp[hst,hgz]
theorem Uj(r:RepD)(bs:List (List UInt8))(o kn g:Int)(hS:OkS bs)(hge:r.gen=g)(hg:1<=g/\g<=4611686018427387904)(ho:0<=o)(hx:OkX (Ao r).1)(h:OkP r 40000)(hb:EE r=true)(hc:r.cmd=0)
  (hro:r.role=3/\kn=r.rec_.m.count\/r.role=1/\kn=r.out.known/\r.cmdAt<kn) :
  AC prog 17 [.st r.row,BR bs g o] (.tup [.st (RepD.row {r with gate:=(GL r.gate kn).1,cmd:=1}),BR (wrB bs (Ao r).1) g o,.sl 5 false (NU (GL r.gate kn).2)]):=by
 subst hge;have hcl:=C2 r h;have hcs:=Ga bs r.gen o (by have:=hS.h2;omega);have hlv:=H3 r;have hl:GF r=true:=by unfold GF;rcases hro with q|q<;>rw[q.1]<;>rfl
 rw[hl]at hlv;have hbu:=GT r;rw[hb]at hbu;have hcm:=KQ r;have hex:=TP bs r.gen o hS hg ho (Ao r).1 hx;have hrel:=EY r.gate kn (by have:=h.g;omega);generalize GL r.gate kn=R at *;generalize Ao r=C at *;have d1:(r.cmd==0)=true:=by rw[hc];rfl
 have d2:decide (r.cmd=0)=true:=by rw[hc];rfl
 rcases hro with⟨hro,hkn⟩|⟨hro,hkn,hlt⟩
 ·have hrd:AC prog 49 [.st (RepD.row {r with cmd:=1})] (lv kn):=by
   rw[hkn];refine sX func49 ntmps49 ?_;refine BU @hro ?_;refine ar ?_;simp
  have r1:(r.role==3)=true:=by rw[hro];rfl
  have r2:decide (r.role=3)=true:=by rw[hro];rfl
  refine sX func17 ntmps17 ?_;intros;apply wr;refine AD 6 [0,1,0,7,15,31] [(3,([[],[0],[]],[(2,1)])),(1,([],[])),(1,([],[])),(1,([],[]))] ?_;refine af ?_;refine cXf (hcl) ?_;refine cXf (hcs) ?_;refine cXf (hlv) ?_;refine BN ?_;intros;apply wr;refine AD 19 [0,1,3,7,15,31,63,127,255,511,1023,2047,4095,8191,4095,20479,65535,131071,262143] [(1,([],[])),(1,([],[])),(1,([],[])),(1,([],[])),(1,([],[])),(1,([],[])),(1,([],[])),(1,([],[])),(1,([],[])),(1,([],[])),(1,([],[])),(1,([],[])),(4,([[],[0],[],[2]],[(1,3)])),(1,([],[])),(1,([],[])),(1,([],[]))] ?_;refine af1 (kX4 @d1 @d2 @r1 @r2) ?_;refine cYf (hbu) (kX4 @d1 @d2 @r1 @r2) ?_;refine RN ?_;refine cXf (hcm) ?_;refine cXf (hex) ?_;refine BN ?_;intros;apply wr;refine AD 11 [0,1,0,4,15,31,63,63,127,383,1023] [(4,([[],[0],[],[2]],[(1,3)])),(1,([],[])),(1,([],[])),(4,([[],[],[0],[0,2]],[])),(1,([],[]))] ?_;refine af ?_;refine cXf (hrd) ?_;refine cXf (hrel) ?_;intros;apply wr;refine AD 6 [0,0,0,1,11,31] [(5,([[],[],[],[0],[0,1,3]],[(1,3)])),(1,([],[]))] ?_;refine af ?_;refine aw ?_;simp
 have hrd0:AC prog 49 [.st r.row] (lv kn):=by rw[hkn];exact GX r hro
 have hrd:AC prog 49 [.st (RepD.row {r with cmd:=1})] (lv kn):=by rw[hkn];exact GX {r with cmd:=1} hro
 have r1:(r.role==3)=false:=by rw[hro];rfl
 have r2:decide (r.role=3)=false:=by rw[hro];rfl
 have x2:decide (r.cmdAt<kn)=true:=by simp only[decide_eq_true_eq];exact hlt
 refine sX func17 ntmps17 ?_;intros;apply wr;refine AD 6 [0,1,0,7,15,31] [(3,([[],[0],[]],[(2,1)])),(1,([],[])),(1,([],[])),(1,([],[]))] ?_;refine af ?_;refine cXf (hcl) ?_;refine cXf (hcs) ?_;refine cXf (hlv) ?_;refine BN ?_;intros;apply wr;refine AD 19 [0,1,3,7,15,31,63,127,255,511,1023,2047,4095,8191,4095,20479,65535,131071,262143] [(1,([],[])),(1,([],[])),(1,([],[])),(1,([],[])),(1,([],[])),(1,([],[])),(1,([],[])),(1,([],[])),(1,([],[])),(1,([],[])),(1,([],[])),(1,([],[])),(4,([[],[0],[],[2]],[(1,3)])),(1,([],[])),(1,([],[])),(1,([],[]))] ?_;refine af1 (kX4 @d1 @d2 @r1 @r2) ?_;refine cYf (hbu) (kX4 @d1 @d2 @r1 @r2) ?_;refine cYf (hrd0) @x2 ?_;refine RN ?_;refine cXf (hcm) ?_;refine cXf (hex) ?_;refine BN ?_;intros;apply wr;refine AD 11 [0,1,0,4,15,31,63,63,127,383,1023] [(4,([[],[0],[],[2]],[(1,3)])),(1,([],[])),(1,([],[])),(4,([[],[],[0],[0,2]],[])),(1,([],[]))] ?_;refine af ?_;refine cXf (hrd) ?_;refine cXf (hrel) ?_;intros;apply wr;refine AD 6 [0,0,0,1,11,31] [(5,([[],[],[],[0],[0,1,3]],[(1,3)])),(1,([],[]))] ?_;refine af ?_;refine aw ?_;simp
theorem dU(r:RepD)(bs:List (List UInt8))(g o:Int)(hb:bs.length<=100000)(h:OkP r 40000)(hro:r.role=3)(hd:EE r=false):
  AC prog 17 [.st r.row,BR bs g o] (.tup [.st (RepD.row {r with gate:=(GL r.gate r.rec_.m.count).1}),BR bs g o,.sl 5 false (NU (GL r.gate r.rec_.m.count).2)]):=by
 have hcl:=C2 r h;have hcs:=Ga bs g o hb;have hlv:=H3 r;have hl:GF r=true:=by unfold GF;rw[hro];rfl
 rw[hl]at hlv;have hbu:=GT r;rw[hd]at hbu;have hrel:=EY r.gate r.rec_.m.count (by have:=h.g;omega);have hrd:AC prog 49 [.st r.row] (lv r.rec_.m.count):=by
  refine sX func49 ntmps49 ?_;refine BU @hro ?_;refine ar ?_;simp
 generalize GL r.gate r.rec_.m.count=R at *;have r1:(r.role==3)=true:=by rw[hro];rfl
 have r2:decide (r.role=3)=true:=by rw[hro];rfl
 refine sX func17 ntmps17 ?_;intros;apply wr;refine AD 6 [0,1,0,7,15,31] [(3,([[],[0],[]],[(2,1)])),(1,([],[])),(1,([],[])),(1,([],[]))] ?_;refine af ?_;refine cXf (hcl) ?_;refine cXf (hcs) ?_;refine cXf (hlv) ?_;refine BN ?_;intros;apply wr;refine AD 19 [0,1,3,7,15,31,63,127,255,511,1023,2047,4095,8191,4095,20479,65535,131071,262143] [(1,([],[])),(1,([],[])),(1,([],[])),(1,([],[])),(1,([],[])),(1,([],[])),(1,([],[])),(1,([],[])),(1,([],[])),(1,([],[])),(1,([],[])),(1,([],[])),(4,([[],[0],[],[2]],[(1,3)])),(1,([],[])),(1,([],[])),(1,([],[]))] ?_;refine af1 (kX2 @r1 @r2) ?_;refine cYf (hbu) (kX2 @r1 @r2) ?_;refine BN ?_;intros;apply wr;refine AD 11 [0,1,0,4,15,31,63,63,127,383,1023] [(4,([[],[0],[],[2]],[(1,3)])),(1,([],[])),(1,([],[])),(4,([[],[],[0],[0,2]],[])),(1,([],[]))] ?_;refine af ?_;refine cXf (hrd) ?_;refine cXf (hrel) ?_;intros;apply wr;refine AD 6 [0,0,0,1,11,31] [(5,([[],[],[],[0],[0,1,3]],[(1,3)])),(1,([],[]))] ?_;refine af ?_;refine aw ?_;simp
theorem W4(r:RepD)(bs:List (List UInt8))(g o:Int)(h:OkP r 40000)(hn:¬(EE r=true/\r.cmd=1)):AC prog 18 [.st r.row,BR bs g o] (.tup [.st r.row,.bool false]):=by
 have hcl:=C2 r h;have hbu:=GT r;refine sX func18 ntmps18 ?_;refine cX (hcl) ?_;refine cX (hbu) ?_;intros;apply wr;refine AB rfl (fun _=>?_) (fun q=>by simp at q;exact absurd q hn);refine au ?_;refine aw ?_;simp
theorem W5(r:RepD)(bs:List (List UInt8))(o g:Int)(hS:OkS bs)(hge:r.gen=g)(hg:1<=g/\g<=4611686018427387904)(ho:0<=o)(hx:OkX (Ao r).1)(h:OkP r 40000)(hb:EE r=true)(hc:r.cmd=1)(hq:r.rec_.queue=[])(hv:evVal (evB bs (Ao r).1)=true):
  AC prog 18 [.st r.row,BR bs g o] (.tup [.st (RepD.row {F5 r [evB bs (Ao r).1]with cmd:=2}),.bool true]):=by
 subst hge;have hcl:=C2 r h;have hbu:=GT r;rw[hb]at hbu;have hcm:=KQ r;have hex:=TP bs r.gen o hS hg ho (Ao r).1 hx;have hk:(evB bs (Ao r).1).kind=4:=by unfold evB;(repeat' split)<;>rfl
 have har:=S5 r.rec_ (evB bs (Ao r).1) (by have:=h.c.m.n;omega) (by have:=h.c.l;omega) (by have:=h.c.q;omega);have hE:Ey r.rec_ (evB bs (Ao r).1)=({r.rec_ with queue:=[evB bs (Ao r).1]},true):=by
  unfold Ey;rw[if_pos ⟨hv,by rw[hk];decide,by rw[hq];decide⟩,hq];rfl
 rw[hE]at har;generalize evB bs (Ao r).1=e at *;generalize Ao r=C at *;refine sX func18 ntmps18 ?_;refine cX (hcl) ?_;refine cX (hbu) ?_;refine BU @hc ?_;refine cX (hcm) ?_;refine cX (hex) ?_;refine C3 ?_;refine cX (har) ?_;refine CV ?_;refine aw ?_;simp
end Go.Proofs.YtjkmhmepljamoaaGreat
end
