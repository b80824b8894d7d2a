/- A part of the proof of ReplicaHalts. -/
import Derived.Test.YthjpcmecgjfilaaGreatH08
set_option linter.unusedSimpArgs false
set_option linter.unusedVariables false
set_option maxHeartbeats 16000000
set_option maxRecDepth 100000
section
namespace Go.Proofs.YthjpcmecgjfilaaGreat
open Go.Ab Go.RowKit Tryz
theorem zTr (a b:Int) (ha:W32 a) (hb:W32 b):zAD prog 307 [iv 1,uv a,uv b] (.tup [uv (uw (a+b)),.bool true]):=by
 obtain ⟨e0,e1,e2,e3,e4,e5⟩:=alF a b;refine sZ func307 ntmps307 ?_;exact wx trivial trivial
theorem zQp (a b:Int) (ha:W32 a) (hb:W32 b):zAD prog 307 [iv 16,uv a,uv b] (.tup [uv (uw (a+b)),.bool true]):=by
 obtain ⟨e0,e1,e2,e3,e4,e5⟩:=alF a b;refine sZ func307 ntmps307 ?_;exact wx trivial trivial
theorem zTs (a b:Int) (ha:W32 a) (hb:W32 b):zAD prog 307 [iv 2,uv a,uv b] (.tup [uv (uw (a-b)),.bool true]):=by
 obtain ⟨e0,e1,e2,e3,e4,e5⟩:=alF a b;refine sZ func307 ntmps307 ?_;exact wx trivial trivial
theorem zTt (a b:Int) (ha:W32 a) (hb:W32 b):zAD prog 307 [iv 3,uv a,uv b] (.tup [uv (iand .u32 a b),.bool true]):=by
 obtain ⟨e0,e1,e2,e3,e4,e5⟩:=alF a b;refine sZ func307 ntmps307 ?_;exact wx trivial trivial
theorem zQq (a b:Int) (ha:W32 a) (hb:W32 b):zAD prog 307 [iv 17,uv a,uv b] (.tup [uv (iand .u32 a b),.bool true]):=by
 obtain ⟨e0,e1,e2,e3,e4,e5⟩:=alF a b;refine sZ func307 ntmps307 ?_;exact wx trivial trivial
theorem zTu (a b:Int) (ha:W32 a) (hb:W32 b):zAD prog 307 [iv 4,uv a,uv b] (.tup [uv (ior .u32 a b),.bool true]):=by
 obtain ⟨e0,e1,e2,e3,e4,e5⟩:=alF a b;refine sZ func307 ntmps307 ?_;exact wx trivial trivial
theorem zQr (a b:Int) (ha:W32 a) (hb:W32 b):zAD prog 307 [iv 18,uv a,uv b] (.tup [uv (ior .u32 a b),.bool true]):=by
 obtain ⟨e0,e1,e2,e3,e4,e5⟩:=alF a b;refine sZ func307 ntmps307 ?_;exact wx trivial trivial
theorem zTv (a b:Int) (ha:W32 a) (hb:W32 b):zAD prog 307 [iv 5,uv a,uv b] (.tup [uv (ixor .u32 a b),.bool true]):=by
 obtain ⟨e0,e1,e2,e3,e4,e5⟩:=alF a b;refine sZ func307 ntmps307 ?_;exact wx trivial trivial
theorem zQs (a b:Int) (ha:W32 a) (hb:W32 b):zAD prog 307 [iv 19,uv a,uv b] (.tup [uv (ixor .u32 a b),.bool true]):=by
 obtain ⟨e0,e1,e2,e3,e4,e5⟩:=alF a b;refine sZ func307 ntmps307 ?_;exact wx trivial trivial
theorem zTw (a b:Int) (ha:W32 a) (hb:W32 b):zAD prog 307 [iv 6,uv a,uv b] (.tup [uv (uw (a*2 ^ (b % 32).toNat)),.bool true]):=by
 obtain ⟨e0,e1,e2,e3,e4,e5⟩:=alF a b;refine sZ func307 ntmps307 ?_;exact wx trivial trivial
end Go.Proofs.YthjpcmecgjfilaaGreat
end
