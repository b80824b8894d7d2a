/- A part of the proof of ReplicaFollows. -/
import Derived.Test.YthjpcmecgjfilaaGreatB25
import Derived.Test.YthjpcmecgjfilaaGreatB34
import Derived.Test.YthjpcmecgjfilaaGreatB36
import Derived.Test.YthjpcmecgjfilaaGreatB38
set_option linter.unusedSimpArgs false
set_option linter.unusedVariables false
set_option maxHeartbeats 16000000
set_option maxRecDepth 100000
section
namespace Go.Proofs.YthjpcmecgjfilaaGreat
open Go.Ab Go.RowKit




end Go.Proofs.YthjpcmecgjfilaaGreat
end
