/- A part of the proof of ReplicaDisk. -/
import Derived.Test.YtjkmhmepljamoaaGreatK24
set_option linter.all false
set_option maxHeartbeats 16000000
set_option maxRecDepth 100000
section
namespace Go.Proofs.YtjkmhmepljamoaaGreat
open Go.Ab Go.RowKit Tryz
theorem Ks(m:MchD)(e:EvD)(hM:OkM m)(hn:W32 e.n)(hd:e.data.length<=100000):AC prog 116 [.st m.row,.st e.row] (.tup [.st (applyD m e).1.row,.bool (applyD m e).2]):=by
 have hcl:=DL (ints .u32 m.mem) false 1 (.inl rfl) (by rw[AN];have:=hM.n;omega);have hmy:=JQ m hM.gv.1 (by have:=hM.gv.2;omega);have hw8:∀n:Int,0<=n->n<=255->IntKind.u8.wrap n=n:=fun n h0 h1=>u8_in h0 (by omega);have hdc:=Nz m.dk m.mem e hM.d.f hn (by have:=hM.n;omega);have hnr:=Ra m.nc m.mem e.data hM.r.c hd (by have:=hM.n;omega);cases hmay:mayD m with
 | false =>
  have hE:applyD m e=(m,false):=by unfold applyD;rw[if_pos (.inl hmay)]
  rw[hE];refine sZ func116 ntmps116 ?_;exact wx1 (qX2 (hcl) (hmy)) trivial @hmay
 | true =>
  cases hH:m.halted with
  | true =>
   have hE:applyD m e=(m,false):=by unfold applyD;rw[if_pos (.inr hH)]
   rw[hE];refine sY func116 ntmps116 @hmay ?_;refine cX (hcl) ?_;refine cc1 (hmy) @hmay ?_;refine au ?_;refine ED @hH ?_;exact wx trivial trivial
  | false =>
   have hn0:¬(mayD m=false\/m.halted=true):=by simp[hmay,hH]
   by_cases k2:e.kind=2
   ·by_cases q:e.n=0/\e.data=[]
    ·obtain⟨q1,q2⟩:=q;have hE:applyD m e=({m with tim:=(FG m.tim).1},(FG m.tim).2):=by unfold applyD;rw[if_neg hn0,if_pos k2,if_pos ⟨q1,q2⟩]
     have htp:=bU m.tim;rw[hE];generalize FG m.tim=R at *;refine sY func116 ntmps116 @hmay ?_;refine cX (hcl) ?_;refine cc1 (hmy) @hmay ?_;refine au ?_;refine BU @hH ?_;exact wx1 (qX1 (htp)) trivial (kX3 @k2 @q1 @q2)
    have hE:applyD m e=(m,false):=by unfold applyD;rw[if_neg hn0,if_pos k2,if_neg q]
    rw[hE];by_cases q1:e.n=0
    ·have q2:¬e.data=[]:=fun z=>q ⟨q1,z⟩;refine sY func116 ntmps116 @hmay ?_;refine cX (hcl) ?_;refine cc1 (hmy) @hmay ?_;refine au ?_;refine BU @hH ?_;exact wx1 trivial trivial (kX3 @k2 @q1 @q2)
    refine sY func116 ntmps116 @hmay ?_;refine cX (hcl) ?_;refine cc1 (hmy) @hmay ?_;refine au ?_;refine BU @hH ?_;exact wx1 trivial trivial (kX2 @k2 @q1)
   by_cases k3:e.kind=3
   ·by_cases q:e.n<=255/\e.data=[]
    ·obtain⟨q1,q2⟩:=q;have w8:=hw8 e.n hn.1 q1;have htp:=fU m.keys e.n hn.1 q1;have hE:applyD m e=({m with keys:=(FZ m.keys (UInt8.ofNat e.n.toNat)).1},(FZ m.keys (UInt8.ofNat e.n.toNat)).2):=by unfold applyD;rw[if_neg hn0,if_neg k2,if_pos k3,if_pos ⟨q1,q2⟩]
     rw[hE];generalize FZ m.keys (UInt8.ofNat e.n.toNat)=R at *;refine sY func116 ntmps116 @hmay ?_;refine cX (hcl) ?_;refine cc1 (hmy) @hmay ?_;refine au ?_;refine BU @hH ?_;exact wx1 (qX1 (htp)) trivial (kX4 @k3 @q1 @q2 @w8)
    have hE:applyD m e=(m,false):=by unfold applyD;rw[if_neg hn0,if_neg k2,if_pos k3,if_neg q]
    rw[hE];by_cases q1:e.n<=255
    ·have q2:¬e.data=[]:=fun z=>q ⟨q1,z⟩;refine sY func116 ntmps116 @hmay ?_;refine cX (hcl) ?_;refine cc1 (hmy) @hmay ?_;refine au ?_;refine BU @hH ?_;exact wx1 trivial trivial (kX3 @k3 @q1 @q2)
    refine sY func116 ntmps116 @hmay ?_;refine cX (hcl) ?_;refine cc1 (hmy) @hmay ?_;refine au ?_;refine BU @hH ?_;exact wx1 trivial trivial (kX2 @k3 @q1)
   by_cases k4:e.kind=4
   ·have hE:applyD m e=({m with dk:=(AI m.dk m.mem e).1,mem:=(AI m.dk m.mem e).2.1},(AI m.dk m.mem e).2.2):=by unfold applyD;rw[if_neg hn0,if_neg k2,if_neg k3,if_pos k4]
    rw[hE];generalize AI m.dk m.mem e=R at *;refine sY func116 ntmps116 @hmay ?_;refine cX (hcl) ?_;refine cc1 (hmy) @hmay ?_;refine au ?_;refine BU @hH ?_;exact wx1 (qX1 (hdc)) trivial (kX2 @k2 @k3)
   by_cases k5:e.kind=5
   ·by_cases q1:e.n=0
    ·have hE:applyD m e=({m with nc:=(Ah m.nc m.mem e.data).1,mem:=(Ah m.nc m.mem e.data).2.1},(Ah m.nc m.mem e.data).2.2):=by unfold applyD;rw[if_neg hn0,if_neg k2,if_neg k3,if_neg k4,if_pos k5,if_pos q1]
     rw[hE];generalize Ah m.nc m.mem e.data=R at *;refine sY func116 ntmps116 @hmay ?_;refine cX (hcl) ?_;refine cc1 (hmy) @hmay ?_;refine au ?_;refine BU @hH ?_;exact wx1 (qX1 (hnr)) trivial (kX2 @k5 @q1)
    have hE:applyD m e=(m,false):=by unfold applyD;rw[if_neg hn0,if_neg k2,if_neg k3,if_neg k4,if_pos k5,if_neg q1]
    rw[hE];refine sY func116 ntmps116 @hmay ?_;refine cX (hcl) ?_;refine cc1 (hmy) @hmay ?_;refine au ?_;refine BU @hH ?_;exact wx1 trivial trivial (kX2 @k5 @q1)
   by_cases k6:e.kind=6
   ·by_cases q2:e.data=[]
    ·have hE:applyD m e=({m with tgt:=e.n},true):=by unfold applyD;rw[if_neg hn0,if_neg k2,if_neg k3,if_neg k4,if_neg k5,if_pos k6,if_pos q2]
     rw[hE];refine sY func116 ntmps116 @hmay ?_;refine cX (hcl) ?_;refine cc1 (hmy) @hmay ?_;refine au ?_;refine BU @hH ?_;exact wx1 trivial trivial (kX2 @k6 @q2)
    have hE:applyD m e=(m,false):=by unfold applyD;rw[if_neg hn0,if_neg k2,if_neg k3,if_neg k4,if_neg k5,if_pos k6,if_neg q2]
    rw[hE];refine sY func116 ntmps116 @hmay ?_;refine cX (hcl) ?_;refine cc1 (hmy) @hmay ?_;refine au ?_;refine BU @hH ?_;exact wx1 trivial trivial (kX2 @k6 @q2)
   have hE:applyD m e=(m,false):=by unfold applyD;rw[if_neg hn0,if_neg k2,if_neg k3,if_neg k4,if_neg k5,if_neg k6]
   rw[hE];refine sY func116 ntmps116 @hmay ?_;refine cX (hcl) ?_;refine cc1 (hmy) @hmay ?_;refine au ?_;refine BU @hH ?_;exact wx1 trivial trivial (kX5 @k2 @k3 @k4 @k5 @k6)
end Go.Proofs.YtjkmhmepljamoaaGreat
end
