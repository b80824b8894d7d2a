/- A part of the proof of ReplicaDisk. -/
import Derived.Test.YtjkmhmepljamoaaGreatK04
import Derived.Test.YtjkmhmepljamoaaGreatK06
import Derived.Test.YtjkmhmepljamoaaGreatK20
import Derived.Test.YtjkmhmepljamoaaGreatK30
set_option linter.all false
set_option maxHeartbeats 16000000
set_option maxRecDepth 100000
section
namespace Go.Proofs.YtjkmhmepljamoaaGreat
open Go.Ab Go.RowKit Tryz
def Ao(r:RepD):OutD×Bool:=if EE r=true then Ag r.rec_.m.dk r.cmdAt else(⟨0,0,0,[]⟩,false)
theorem KQ(r:RepD):AC prog 50 [.st r.row] (.tup [.st (Ao r).1.row,.bool (Ao r).2]):=by
 have hb:=GT r;have hr:=Ha r.rec_.m.dk r.cmdAt;by_cases hq:EE r=true
 ·have e:Ao r=Ag r.rec_.m.dk r.cmdAt:=by unfold Ao;rw[if_pos hq]
  rw[hq]at hb;rw[<- e]at hr;refine sZ func50 ntmps50 ?_;exact wx (qX2 (hb) (hr)) trivial
 have e:Ao r=(⟨0,0,0,[]⟩,false):=by unfold Ao;rw[if_neg hq]
 rw[Bool.not_eq_true]at hq;rw[hq]at hb;rw[e];refine sZ func50 ntmps50 ?_;exact wx (qX1 (hb)) trivial
theorem SY(bs:List (List UInt8))(g o:Int)(hb:bs.length<=100000):AC prog 84 [BR bs g o] (BR bs g o):=by
 refine sZ func84 ntmps84 ?_;exact wx (qX1 (Sq (strs bs) (by rw[BV];exact hb))) trivial
def dueR(r:RepD):Bool:=EE r&&decide (r.cmd=0)&&decide (r.cmdAt<r.out.known)
def relA(r:RepD):RepD:={r with gate:=(GL r.gate r.out.known).1}
theorem GX(r:RepD)(hro:r.role=1):AC prog 49 [.st r.row] (lv r.out.known):=by
 refine sX func49 ntmps49 ?_;refine ED @hro ?_;refine ar ?_;simp
theorem dW(r:RepD)(bs:List (List UInt8))(g o:Int)(hb:bs.length<=100000)(h:OkP r 40000)(hro:r.role=1)(hd:dueR r=false):
  AC prog 17 [.st r.row,BR bs g o] (.tup [.st (relA r).row,BR bs g o,.sl 5 false (NU (GL r.gate r.out.known).2)]):=by
 have hcl:=C2 r h;have hcs:=Ga bs g o hb;have hlv:=H3 r;have hl:GF r=true:=by unfold GF;rw[hro];rfl
 rw[hl]at hlv;have hbu:=GT r;have hrel:=EY r.gate r.out.known (by have:=h.g;omega);have hrd:=GX r hro;have hE:relA r={r with gate:=(GL r.gate r.out.known).1}:=rfl;generalize GL r.gate r.out.known=R at *;rw[hE];have r1:(r.role==3)=false:=by rw[hro];rfl
 have r2:decide (r.role=3)=false:=by rw[hro];rfl
 refine sX func17 ntmps17 ?_;intros;apply wr;refine AD 6 [0,1,0,7,15,31] [(3,([[],[0],[]],[(2,1)])),(1,([],[])),(1,([],[])),(1,([],[]))] ?_;refine af ?_;refine cXf (hcl) ?_;refine cXf (hcs) ?_;refine cXf (hlv) ?_;refine BN ?_;intros;apply wr;cases hq:EE r with
 | false =>
  rw[hq]at hbu;refine AD 19 [0,1,3,7,15,31,63,127,255,511,1023,2047,4095,8191,4095,20479,65535,131071,262143] [(1,([],[])),(1,([],[])),(1,([],[])),(1,([],[])),(1,([],[])),(1,([],[])),(1,([],[])),(1,([],[])),(1,([],[])),(1,([],[])),(1,([],[])),(1,([],[])),(4,([[],[0],[],[2]],[(1,3)])),(1,([],[])),(1,([],[])),(1,([],[]))] ?_;refine af1 (kX2 @r1 @r2) ?_;refine cYf (hbu) (kX2 @r1 @r2) ?_;refine BN ?_;intros;apply wr;refine AD 11 [0,1,0,4,15,31,63,63,127,383,1023] [(4,([[],[0],[],[2]],[(1,3)])),(1,([],[])),(1,([],[])),(4,([[],[],[0],[0,2]],[])),(1,([],[]))] ?_;refine af ?_;refine cXf (hrd) ?_;refine cXf (hrel) ?_;intros;apply wr;refine AD 6 [0,0,0,1,11,31] [(5,([[],[],[],[0],[0,1,3]],[(1,3)])),(1,([],[]))] ?_;refine af ?_;refine aw ?_;simp
 | true =>
  rw[hq]at hbu;by_cases hc:r.cmd=0
  ·have x2:decide (r.cmdAt<r.out.known)=false:=by simpa[dueR,hq,hc]using hd
   have d1:(r.cmd==0)=true:=by rw[hc];rfl
   have d2:decide (r.cmd=0)=true:=by rw[hc];rfl
   refine AD 19 [0,1,3,7,15,31,63,127,255,511,1023,2047,4095,8191,4095,20479,65535,131071,262143] [(1,([],[])),(1,([],[])),(1,([],[])),(1,([],[])),(1,([],[])),(1,([],[])),(1,([],[])),(1,([],[])),(1,([],[])),(1,([],[])),(1,([],[])),(1,([],[])),(4,([[],[0],[],[2]],[(1,3)])),(1,([],[])),(1,([],[])),(1,([],[]))] ?_;refine af1 (kX4 @d1 @d2 @r1 @r2) ?_;refine cYf (hbu) (kX4 @d1 @d2 @r1 @r2) ?_;refine cYf (hrd) @x2 ?_;refine BN ?_;intros;apply wr;refine AD 11 [0,1,0,4,15,31,63,63,127,383,1023] [(4,([[],[0],[],[2]],[(1,3)])),(1,([],[])),(1,([],[])),(4,([[],[],[0],[0,2]],[])),(1,([],[]))] ?_;refine af ?_;refine cXf (hrd) ?_;refine cXf (hrel) ?_;intros;apply wr;refine AD 6 [0,0,0,1,11,31] [(5,([[],[],[],[0],[0,1,3]],[(1,3)])),(1,([],[]))] ?_;refine af ?_;refine aw ?_;simp
  have d1:(r.cmd==0)=false:=by simp[hc]
  have d2:decide (r.cmd=0)=false:=by simp[hc]
  refine AD 19 [0,1,3,7,15,31,63,127,255,511,1023,2047,4095,8191,4095,20479,65535,131071,262143] [(1,([],[])),(1,([],[])),(1,([],[])),(1,([],[])),(1,([],[])),(1,([],[])),(1,([],[])),(1,([],[])),(1,([],[])),(1,([],[])),(1,([],[])),(1,([],[])),(4,([[],[0],[],[2]],[(1,3)])),(1,([],[])),(1,([],[])),(1,([],[]))] ?_;refine af1 (kX4 @d1 @d2 @r1 @r2) ?_;refine cYf (hbu) (kX4 @d1 @d2 @r1 @r2) ?_;refine BN ?_;intros;apply wr;refine AD 11 [0,1,0,4,15,31,63,63,127,383,1023] [(4,([[],[0],[],[2]],[(1,3)])),(1,([],[])),(1,([],[])),(4,([[],[],[0],[0,2]],[])),(1,([],[]))] ?_;refine af ?_;refine cXf (hrd) ?_;refine cXf (hrel) ?_;intros;apply wr;refine AD 6 [0,0,0,1,11,31] [(5,([[],[],[],[0],[0,1,3]],[(1,3)])),(1,([],[]))] ?_;refine af ?_;refine aw ?_;simp
end Go.Proofs.YtjkmhmepljamoaaGreat
end
