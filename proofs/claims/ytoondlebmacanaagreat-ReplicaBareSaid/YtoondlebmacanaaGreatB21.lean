/- A part of the proof of ReplicaBare+ReplicaWindow. -/
import Derived.Test.YtoondlebmacanaaGreatB19
set_option linter.unusedSimpArgs false
set_option linter.unusedVariables false
set_option maxHeartbeats 16000000
set_option maxRecDepth 100000
section
namespace Go.Proofs.YtoondlebmacanaaGreat
open Go.Ab Go.RowKit
theorem zUI (a b:Int) (ha:W32 a) (hb:W32 b):zAD Tryz.prog 308 [iv 1,uv a,uv b] (.tup [uv (uw (a+b)),.bool true]):=by
 obtain ⟨e0,e1,e2,e3,e4,e5⟩:=alF a b;refine sZ Tryz.func308 Tryz.ntmps308 ?_;exact wx trivial trivial
theorem zRA (a b:Int) (ha:W32 a) (hb:W32 b):zAD Tryz.prog 308 [iv 16,uv a,uv b] (.tup [uv (uw (a+b)),.bool true]):=by
 obtain ⟨e0,e1,e2,e3,e4,e5⟩:=alF a b;refine sZ Tryz.func308 Tryz.ntmps308 ?_;exact wx trivial trivial
theorem zUJ (a b:Int) (ha:W32 a) (hb:W32 b):zAD Tryz.prog 308 [iv 2,uv a,uv b] (.tup [uv (uw (a-b)),.bool true]):=by
 obtain ⟨e0,e1,e2,e3,e4,e5⟩:=alF a b;refine sZ Tryz.func308 Tryz.ntmps308 ?_;exact wx trivial trivial
theorem zUK (a b:Int) (ha:W32 a) (hb:W32 b):zAD Tryz.prog 308 [iv 3,uv a,uv b] (.tup [uv (iand .u32 a b),.bool true]):=by
 obtain ⟨e0,e1,e2,e3,e4,e5⟩:=alF a b;refine sZ Tryz.func308 Tryz.ntmps308 ?_;exact wx trivial trivial
theorem zRB (a b:Int) (ha:W32 a) (hb:W32 b):zAD Tryz.prog 308 [iv 17,uv a,uv b] (.tup [uv (iand .u32 a b),.bool true]):=by
 obtain ⟨e0,e1,e2,e3,e4,e5⟩:=alF a b;refine sZ Tryz.func308 Tryz.ntmps308 ?_;exact wx trivial trivial
theorem zUL (a b:Int) (ha:W32 a) (hb:W32 b):zAD Tryz.prog 308 [iv 4,uv a,uv b] (.tup [uv (ior .u32 a b),.bool true]):=by
 obtain ⟨e0,e1,e2,e3,e4,e5⟩:=alF a b;refine sZ Tryz.func308 Tryz.ntmps308 ?_;exact wx trivial trivial
theorem zRC (a b:Int) (ha:W32 a) (hb:W32 b):zAD Tryz.prog 308 [iv 18,uv a,uv b] (.tup [uv (ior .u32 a b),.bool true]):=by
 obtain ⟨e0,e1,e2,e3,e4,e5⟩:=alF a b;refine sZ Tryz.func308 Tryz.ntmps308 ?_;exact wx trivial trivial
theorem zUM (a b:Int) (ha:W32 a) (hb:W32 b):zAD Tryz.prog 308 [iv 5,uv a,uv b] (.tup [uv (ixor .u32 a b),.bool true]):=by
 obtain ⟨e0,e1,e2,e3,e4,e5⟩:=alF a b;refine sZ Tryz.func308 Tryz.ntmps308 ?_;exact wx trivial trivial
theorem zRD (a b:Int) (ha:W32 a) (hb:W32 b):zAD Tryz.prog 308 [iv 19,uv a,uv b] (.tup [uv (ixor .u32 a b),.bool true]):=by
 obtain ⟨e0,e1,e2,e3,e4,e5⟩:=alF a b;refine sZ Tryz.func308 Tryz.ntmps308 ?_;exact wx trivial trivial
theorem zUN (a b:Int) (ha:W32 a) (hb:W32 b):zAD Tryz.prog 308 [iv 6,uv a,uv b] (.tup [uv (uw (a*2 ^ (b % 32).toNat)),.bool true]):=by
 obtain ⟨e0,e1,e2,e3,e4,e5⟩:=alF a b;refine sZ Tryz.func308 Tryz.ntmps308 ?_;exact wx trivial trivial
end Go.Proofs.YtoondlebmacanaaGreat
end
