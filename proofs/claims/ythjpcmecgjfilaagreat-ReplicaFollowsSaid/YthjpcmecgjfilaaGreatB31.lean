/- A part of the proof of ReplicaFollows. -/
import Derived.Test.YthjpcmecgjfilaaGreatB08
import Derived.Test.YthjpcmecgjfilaaGreatB10
import Derived.Test.YthjpcmecgjfilaaGreatB29
import Derived.Test.YthjpcmecgjfilaaGreatB30
set_option linter.unusedSimpArgs false
set_option linter.unusedVariables false
set_option maxHeartbeats 16000000
set_option maxRecDepth 100000
section
namespace Go.Proofs.YthjpcmecgjfilaaGreat
open Go.Ab Go.RowKit Tryz

theorem zTl (r:RepD) (hro:r.role=1) (hm:r.rec_.m.mem.length<=100000):zAD prog 13 [.st r.row] (.st r.rec_.m.row):=by
 refine sZ func13 ntmps13 ?_;exact wx1 (qX1 (zGA r.rec_.m hm)) trivial @hro
theorem zTm (r:RepD) (hro:r.role=2) (hm:r.rpl.m.mem.length<=100000):zAD prog 13 [.st r.row] (.st r.rpl.m.row):=by
 refine sZ func13 ntmps13 ?_;exact wx1 (qX1 (zGA r.rpl.m hm)) trivial @hro
end Go.Proofs.YthjpcmecgjfilaaGreat
end
