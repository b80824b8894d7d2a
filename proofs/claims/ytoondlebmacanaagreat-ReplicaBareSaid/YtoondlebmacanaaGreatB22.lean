/- A part of the proof of ReplicaBare+ReplicaWindow. -/
import Derived.Test.YtoondlebmacanaaGreatB19
set_option linter.unusedSimpArgs false
set_option linter.unusedVariables false
set_option maxHeartbeats 16000000
set_option maxRecDepth 100000
section
namespace Go.Proofs.YtoondlebmacanaaGreat
open Go.Ab Go.RowKit
theorem zRE (a b:Int) (ha:W32 a) (hb:W32 b):zAD Tryz.prog 308 [iv 20,uv a,uv b] (.tup [uv (uw (a*2 ^ (b % 32).toNat)),.bool true]):=by
 obtain ⟨e0,e1,e2,e3,e4,e5⟩:=alF a b;refine sZ Tryz.func308 Tryz.ntmps308 ?_;exact wx trivial trivial
theorem zUO (a b:Int) (ha:W32 a) (hb:W32 b):zAD Tryz.prog 308 [iv 7,uv a,uv b] (.tup [uv (a / 2 ^ (b % 32).toNat),.bool true]):=by
 obtain ⟨e0,e1,e2,e3,e4,e5⟩:=alF a b;refine sZ Tryz.func308 Tryz.ntmps308 ?_;exact wx trivial trivial
theorem zRF (a b:Int) (ha:W32 a) (hb:W32 b):zAD Tryz.prog 308 [iv 21,uv a,uv b] (.tup [uv (a / 2 ^ (b % 32).toNat),.bool true]):=by
 obtain ⟨e0,e1,e2,e3,e4,e5⟩:=alF a b;refine sZ Tryz.func308 Tryz.ntmps308 ?_;exact wx trivial trivial
theorem zUP (a b:Int) (ha:W32 a) (hb:W32 b):zAD Tryz.prog 308 [iv 8,uv a,uv b] (.tup [uv (uw (sw a / 2 ^ (b % 32).toNat)),.bool true]):=by
 obtain ⟨e0,e1,e2,e3,e4,e5⟩:=alF a b;refine sZ Tryz.func308 Tryz.ntmps308 ?_;exact wx trivial trivial
theorem zRG (a b:Int) (ha:W32 a) (hb:W32 b):zAD Tryz.prog 308 [iv 22,uv a,uv b] (.tup [uv (uw (sw a / 2 ^ (b % 32).toNat)),.bool true]):=by
 obtain ⟨e0,e1,e2,e3,e4,e5⟩:=alF a b;refine sZ Tryz.func308 Tryz.ntmps308 ?_;exact wx trivial trivial
theorem zUQ (a b:Int) (ha:W32 a) (hb:W32 b):zAD Tryz.prog 308 [iv 9,uv a,uv b] (.tup [uv (uw (a*b)),.bool true]):=by
 obtain ⟨e0,e1,e2,e3,e4,e5⟩:=alF a b;refine sZ Tryz.func308 Tryz.ntmps308 ?_;exact wx trivial trivial
theorem zQ6 (a b:Int) (ha:W32 a) (hb:W32 b):zAD Tryz.prog 308 [iv 10,uv a,uv b] (.tup [uv (divQ a b),.bool true]):=by
 obtain ⟨e0,e1,e2,e3,e4,e5⟩:=alF a b;refine sZ Tryz.func308 Tryz.ntmps308 ?_;exact wx (qX1 (zTj a b ha hb)) trivial
theorem zQ7 (a b:Int) (ha:W32 a) (hb:W32 b):zAD Tryz.prog 308 [iv 11,uv a,uv b] (.tup [uv (divR a b),.bool true]):=by
 obtain ⟨e0,e1,e2,e3,e4,e5⟩:=alF a b;refine sZ Tryz.func308 Tryz.ntmps308 ?_;exact wx (qX1 (zTj a b ha hb)) trivial
theorem zQ8 (a b:Int) (ha:W32 a) (hb:W32 b):zAD Tryz.prog 308 [iv 12,uv a,uv b] (.tup [uv (b2w (decide (sw a<sw b))),.bool true]):=by
 obtain ⟨e0,e1,e2,e3,e4,e5⟩:=alF a b;refine sZ Tryz.func308 Tryz.ntmps308 ?_;exact wx (qX1 (zIr _)) trivial
theorem zRH (a b:Int) (ha:W32 a) (hb:W32 b):zAD Tryz.prog 308 [iv 23,uv a,uv b] (.tup [uv (b2w (decide (sw a<sw b))),.bool true]):=by
 obtain ⟨e0,e1,e2,e3,e4,e5⟩:=alF a b;refine sZ Tryz.func308 Tryz.ntmps308 ?_;exact wx (qX1 (zIr _)) trivial
theorem zQ9 (a b:Int) (ha:W32 a) (hb:W32 b):zAD Tryz.prog 308 [iv 13,uv a,uv b] (.tup [uv (b2w (decide (a<b))),.bool true]):=by
 obtain ⟨e0,e1,e2,e3,e4,e5⟩:=alF a b;refine sZ Tryz.func308 Tryz.ntmps308 ?_;exact wx (qX1 (zIr _)) trivial
end Go.Proofs.YtoondlebmacanaaGreat
end
