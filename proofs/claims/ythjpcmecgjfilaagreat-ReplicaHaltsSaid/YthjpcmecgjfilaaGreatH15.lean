/- A part of the proof of ReplicaHalts. -/
import Derived.Test.YthjpcmecgjfilaaGreatH13
import Derived.Test.YthjpcmecgjfilaaGreatH14
set_option linter.unusedSimpArgs false
set_option linter.unusedVariables false
set_option maxHeartbeats 16000000
set_option maxRecDepth 100000
section
namespace Go.Proofs.YthjpcmecgjfilaaGreat
open Go.Ab Go.RowKit Tryz
theorem alu_ok (op a b:Int) (ha:W32 a) (hb:W32 b) (h:(1<=op/\op<=13)\/(16<=op/\op<=23)):zAD prog 307 [iv op,uv a,uv b] (.tup [uv ((aluD op a b).getD 0),.bool true]):=by
 have hk:op=1\/op=16\/op=2\/op=3\/op=17\/op=4\/op=18\/op=5\/op=19\/op=6\/op=20\/op=7\/op=21\/op=8\/op=22\/op=9\/op=10\/op=11\/op=12\/op=23\/op=13:=by omega
 rcases hk with rfl|rfl|rfl|rfl|rfl|rfl|rfl|rfl|rfl|rfl|rfl|rfl|rfl|rfl|rfl|rfl|rfl|rfl|rfl|rfl|rfl
 ·exact zTr a b ha hb
 ·exact zQp a b ha hb
 ·exact zTs a b ha hb
 ·exact zTt a b ha hb
 ·exact zQq a b ha hb
 ·exact zTu a b ha hb
 ·exact zQr a b ha hb
 ·exact zTv a b ha hb
 ·exact zQs a b ha hb
 ·exact zTw a b ha hb
 ·exact zQt a b ha hb
 ·exact zTx a b ha hb
 ·exact zQu a b ha hb
 ·exact zTy a b ha hb
 ·exact zQv a b ha hb
 ·exact zTz a b ha hb
 ·exact zQl a b ha hb
 ·exact zQm a b ha hb
 ·exact zQn a b ha hb
 ·exact zQw a b ha hb
 exact zQo a b ha hb
end Go.Proofs.YthjpcmecgjfilaaGreat
end
