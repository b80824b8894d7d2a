/- A part of the proof of ReplicaHalts. -/
import Derived.Test.YthjpcmecgjfilaaGreatH08
set_option linter.unusedSimpArgs false
set_option linter.unusedVariables false
set_option maxHeartbeats 16000000
set_option maxRecDepth 100000
section
namespace Go.Proofs.YthjpcmecgjfilaaGreat
open Go.Ab Go.RowKit Tryz
theorem zQt (a b:Int) (ha:W32 a) (hb:W32 b):zAD prog 307 [iv 20,uv a,uv b] (.tup [uv (uw (a*2 ^ (b % 32).toNat)),.bool true]):=by
 obtain ⟨e0,e1,e2,e3,e4,e5⟩:=alF a b;refine sZ func307 ntmps307 ?_;exact wx trivial trivial
theorem zTx (a b:Int) (ha:W32 a) (hb:W32 b):zAD prog 307 [iv 7,uv a,uv b] (.tup [uv (a / 2 ^ (b % 32).toNat),.bool true]):=by
 obtain ⟨e0,e1,e2,e3,e4,e5⟩:=alF a b;refine sZ func307 ntmps307 ?_;exact wx trivial trivial
theorem zQu (a b:Int) (ha:W32 a) (hb:W32 b):zAD prog 307 [iv 21,uv a,uv b] (.tup [uv (a / 2 ^ (b % 32).toNat),.bool true]):=by
 obtain ⟨e0,e1,e2,e3,e4,e5⟩:=alF a b;refine sZ func307 ntmps307 ?_;exact wx trivial trivial
theorem zTy (a b:Int) (ha:W32 a) (hb:W32 b):zAD prog 307 [iv 8,uv a,uv b] (.tup [uv (uw (sw a / 2 ^ (b % 32).toNat)),.bool true]):=by
 obtain ⟨e0,e1,e2,e3,e4,e5⟩:=alF a b;refine sZ func307 ntmps307 ?_;exact wx trivial trivial
theorem zQv (a b:Int) (ha:W32 a) (hb:W32 b):zAD prog 307 [iv 22,uv a,uv b] (.tup [uv (uw (sw a / 2 ^ (b % 32).toNat)),.bool true]):=by
 obtain ⟨e0,e1,e2,e3,e4,e5⟩:=alF a b;refine sZ func307 ntmps307 ?_;exact wx trivial trivial
theorem zTz (a b:Int) (ha:W32 a) (hb:W32 b):zAD prog 307 [iv 9,uv a,uv b] (.tup [uv (uw (a*b)),.bool true]):=by
 obtain ⟨e0,e1,e2,e3,e4,e5⟩:=alF a b;refine sZ func307 ntmps307 ?_;exact wx trivial trivial
theorem zQl (a b:Int) (ha:W32 a) (hb:W32 b):zAD prog 307 [iv 10,uv a,uv b] (.tup [uv (divQ a b),.bool true]):=by
 obtain ⟨e0,e1,e2,e3,e4,e5⟩:=alF a b;refine sZ func307 ntmps307 ?_;exact wx (qX1 (zS7 a b ha hb)) trivial
theorem zQm (a b:Int) (ha:W32 a) (hb:W32 b):zAD prog 307 [iv 11,uv a,uv b] (.tup [uv (divR a b),.bool true]):=by
 obtain ⟨e0,e1,e2,e3,e4,e5⟩:=alF a b;refine sZ func307 ntmps307 ?_;exact wx (qX1 (zS7 a b ha hb)) trivial
theorem zQn (a b:Int) (ha:W32 a) (hb:W32 b):zAD prog 307 [iv 12,uv a,uv b] (.tup [uv (b2w (decide (sw a<sw b))),.bool true]):=by
 obtain ⟨e0,e1,e2,e3,e4,e5⟩:=alF a b;refine sZ func307 ntmps307 ?_;exact wx (qX1 (zI8 _)) trivial
theorem zQw (a b:Int) (ha:W32 a) (hb:W32 b):zAD prog 307 [iv 23,uv a,uv b] (.tup [uv (b2w (decide (sw a<sw b))),.bool true]):=by
 obtain ⟨e0,e1,e2,e3,e4,e5⟩:=alF a b;refine sZ func307 ntmps307 ?_;exact wx (qX1 (zI8 _)) trivial
theorem zQo (a b:Int) (ha:W32 a) (hb:W32 b):zAD prog 307 [iv 13,uv a,uv b] (.tup [uv (b2w (decide (a<b))),.bool true]):=by
 obtain ⟨e0,e1,e2,e3,e4,e5⟩:=alF a b;refine sZ func307 ntmps307 ?_;exact wx (qX1 (zI8 _)) trivial
end Go.Proofs.YthjpcmecgjfilaaGreat
end
