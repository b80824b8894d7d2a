/- A part of the proof of ReplicaTakes. -/
import Derived.Test.YtjkmhmepljamoaaGreatT05
import Derived.Test.YtjkmhmepljamoaaGreatT07
import Derived.Test.YtjkmhmepljamoaaGreatT24
import Derived.Test.YtjkmhmepljamoaaGreatT35
set_option linter.all false
set_option maxHeartbeats 16000000
set_option maxRecDepth 100000
section
namespace Go.Proofs.YtjkmhmepljamoaaGreat
open Go.Ab Go.RowKit Tryz
theorem Lk(bs:List (List UInt8))(g o:Int)(hb:bs.length<=100000):AC prog 84 [BL bs g o] (BL bs g o):=by
 refine sZ func84 ntmps84 ?_;exact wx (qX1 (YZ (strs bs) (by rw[Cd];exact hb))) trivial
end Go.Proofs.YtjkmhmepljamoaaGreat
end
