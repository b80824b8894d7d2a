/- A part of the proof of ReplicaBare+ReplicaWindow. -/
import Derived.Test.YtoondlebmacanaaGreatB21
import Derived.Test.YtoondlebmacanaaGreatB22
set_option linter.unusedSimpArgs false
set_option linter.unusedVariables false
set_option maxHeartbeats 16000000
set_option maxRecDepth 100000
section
namespace Go.Proofs.YtoondlebmacanaaGreat
open Go.Ab Go.RowKit
theorem alu_ok (op a b:Int) (ha:W32 a) (hb:W32 b) (h:(1≤op∧op≤13)∨(16≤op∧op≤23)):zAD Tryz.prog 308 [iv op,uv a,uv b] (.tup [uv ((aluD op a b).getD 0),.bool true]):=by
 have hk:op=1∨op=16∨op=2∨op=3∨op=17∨op=4∨op=18∨op=5∨op=19∨op=6∨op=20∨op=7∨op=21∨op=8∨op=22∨op=9∨op=10∨op=11∨op=12∨op=23∨op=13:=by omega
 rcases hk with rfl|rfl|rfl|rfl|rfl|rfl|rfl|rfl|rfl|rfl|rfl|rfl|rfl|rfl|rfl|rfl|rfl|rfl|rfl|rfl|rfl
 ·exact zUI a b ha hb
 ·exact zRA a b ha hb
 ·exact zUJ a b ha hb
 ·exact zUK a b ha hb
 ·exact zRB a b ha hb
 ·exact zUL a b ha hb
 ·exact zRC a b ha hb
 ·exact zUM a b ha hb
 ·exact zRD a b ha hb
 ·exact zUN a b ha hb
 ·exact zRE a b ha hb
 ·exact zUO a b ha hb
 ·exact zRF a b ha hb
 ·exact zUP a b ha hb
 ·exact zRG a b ha hb
 ·exact zUQ a b ha hb
 ·exact zQ6 a b ha hb
 ·exact zQ7 a b ha hb
 ·exact zQ8 a b ha hb
 ·exact zRH a b ha hb
 exact zQ9 a b ha hb
end Go.Proofs.YtoondlebmacanaaGreat
end
