/- A part of the proof of ReplicaFollows. -/
import Derived.Test.YthjpcmecgjfilaaGreatB15
set_option linter.unusedSimpArgs false
set_option linter.unusedVariables false
set_option maxHeartbeats 16000000
set_option maxRecDepth 100000
section
namespace Go.Proofs.YthjpcmecgjfilaaGreat
open Go.Ab Go.RowKit Tryz
theorem zRA (a b:Int) (ha:W32 a) (hb:W32 b):zAD prog 307 [iv 20,uv a,uv b] (.tup [uv (uw (a*2 ^ (b % 32).toNat)),.bool true]):=by
 obtain ⟨e0,e1,e2,e3,e4,e5⟩:=alF a b;refine sZ func307 ntmps307 ?_;exact wx trivial trivial
theorem zUB (a b:Int) (ha:W32 a) (hb:W32 b):zAD prog 307 [iv 7,uv a,uv b] (.tup [uv (a / 2 ^ (b % 32).toNat),.bool true]):=by
 obtain ⟨e0,e1,e2,e3,e4,e5⟩:=alF a b;refine sZ func307 ntmps307 ?_;exact wx trivial trivial
theorem zRB (a b:Int) (ha:W32 a) (hb:W32 b):zAD prog 307 [iv 21,uv a,uv b] (.tup [uv (a / 2 ^ (b % 32).toNat),.bool true]):=by
 obtain ⟨e0,e1,e2,e3,e4,e5⟩:=alF a b;refine sZ func307 ntmps307 ?_;exact wx trivial trivial
theorem zUC (a b:Int) (ha:W32 a) (hb:W32 b):zAD prog 307 [iv 8,uv a,uv b] (.tup [uv (uw (sw a / 2 ^ (b % 32).toNat)),.bool true]):=by
 obtain ⟨e0,e1,e2,e3,e4,e5⟩:=alF a b;refine sZ func307 ntmps307 ?_;exact wx trivial trivial
theorem zRC (a b:Int) (ha:W32 a) (hb:W32 b):zAD prog 307 [iv 22,uv a,uv b] (.tup [uv (uw (sw a / 2 ^ (b % 32).toNat)),.bool true]):=by
 obtain ⟨e0,e1,e2,e3,e4,e5⟩:=alF a b;refine sZ func307 ntmps307 ?_;exact wx trivial trivial
theorem zUD (a b:Int) (ha:W32 a) (hb:W32 b):zAD prog 307 [iv 9,uv a,uv b] (.tup [uv (uw (a*b)),.bool true]):=by
 obtain ⟨e0,e1,e2,e3,e4,e5⟩:=alF a b;refine sZ func307 ntmps307 ?_;exact wx trivial trivial
theorem zQ2 (a b:Int) (ha:W32 a) (hb:W32 b):zAD prog 307 [iv 10,uv a,uv b] (.tup [uv (divQ a b),.bool true]):=by
 obtain ⟨e0,e1,e2,e3,e4,e5⟩:=alF a b;refine sZ func307 ntmps307 ?_;exact wx (qX1 (zTK a b ha hb)) trivial
theorem zQ3 (a b:Int) (ha:W32 a) (hb:W32 b):zAD prog 307 [iv 11,uv a,uv b] (.tup [uv (divR a b),.bool true]):=by
 obtain ⟨e0,e1,e2,e3,e4,e5⟩:=alF a b;refine sZ func307 ntmps307 ?_;exact wx (qX1 (zTK a b ha hb)) trivial
theorem zQ4 (a b:Int) (ha:W32 a) (hb:W32 b):zAD prog 307 [iv 12,uv a,uv b] (.tup [uv (b2w (decide (sw a<sw b))),.bool true]):=by
 obtain ⟨e0,e1,e2,e3,e4,e5⟩:=alF a b;refine sZ func307 ntmps307 ?_;exact wx (qX1 (zJI _)) trivial
theorem zRD (a b:Int) (ha:W32 a) (hb:W32 b):zAD prog 307 [iv 23,uv a,uv b] (.tup [uv (b2w (decide (sw a<sw b))),.bool true]):=by
 obtain ⟨e0,e1,e2,e3,e4,e5⟩:=alF a b;refine sZ func307 ntmps307 ?_;exact wx (qX1 (zJI _)) trivial
theorem zQ5 (a b:Int) (ha:W32 a) (hb:W32 b):zAD prog 307 [iv 13,uv a,uv b] (.tup [uv (b2w (decide (a<b))),.bool true]):=by
 obtain ⟨e0,e1,e2,e3,e4,e5⟩:=alF a b;refine sZ func307 ntmps307 ?_;exact wx (qX1 (zJI _)) trivial
end Go.Proofs.YthjpcmecgjfilaaGreat
end
