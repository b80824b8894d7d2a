/- A part of the proof of ReplicaDisk. -/
import Derived.Test.YtjkmhmepljamoaaGreatK08
set_option linter.all false
set_option maxHeartbeats 16000000
set_option maxRecDepth 100000
section
namespace Go.Proofs.YtjkmhmepljamoaaGreat
open Go.Ab Go.RowKit Tryz
theorem WG(a b:Int)(ha:W32 a)(hb:W32 b):AC prog 308 [iv 20,uv a,uv b] (.tup [uv (uw (a*2^(b%32).toNat)),.bool true]):=by
 obtain⟨e0,e1,e2,e3,e4,e5⟩:=alF a b;refine sZ func308 ntmps308 ?_;exact wx trivial trivial
theorem Zv(a b:Int)(ha:W32 a)(hb:W32 b):AC prog 308 [iv 7,uv a,uv b] (.tup [uv (a/2^(b%32).toNat),.bool true]):=by
 obtain⟨e0,e1,e2,e3,e4,e5⟩:=alF a b;refine sZ func308 ntmps308 ?_;exact wx trivial trivial
theorem WH(a b:Int)(ha:W32 a)(hb:W32 b):AC prog 308 [iv 21,uv a,uv b] (.tup [uv (a/2^(b%32).toNat),.bool true]):=by
 obtain⟨e0,e1,e2,e3,e4,e5⟩:=alF a b;refine sZ func308 ntmps308 ?_;exact wx trivial trivial
theorem Zw(a b:Int)(ha:W32 a)(hb:W32 b):AC prog 308 [iv 8,uv a,uv b] (.tup [uv (uw (sw a/2^(b%32).toNat)),.bool true]):=by
 obtain⟨e0,e1,e2,e3,e4,e5⟩:=alF a b;refine sZ func308 ntmps308 ?_;exact wx trivial trivial
theorem WI(a b:Int)(ha:W32 a)(hb:W32 b):AC prog 308 [iv 22,uv a,uv b] (.tup [uv (uw (sw a/2^(b%32).toNat)),.bool true]):=by
 obtain⟨e0,e1,e2,e3,e4,e5⟩:=alF a b;refine sZ func308 ntmps308 ?_;exact wx trivial trivial
theorem Zx(a b:Int)(ha:W32 a)(hb:W32 b):AC prog 308 [iv 9,uv a,uv b] (.tup [uv (uw (a*b)),.bool true]):=by
 obtain⟨e0,e1,e2,e3,e4,e5⟩:=alF a b;refine sZ func308 ntmps308 ?_;exact wx trivial trivial
theorem Vx(a b:Int)(ha:W32 a)(hb:W32 b):AC prog 308 [iv 10,uv a,uv b] (.tup [uv (Jq a b),.bool true]):=by
 obtain⟨e0,e1,e2,e3,e4,e5⟩:=alF a b;refine sZ func308 ntmps308 ?_;exact wx (qX1 (Yt a b ha hb)) trivial
theorem Vy(a b:Int)(ha:W32 a)(hb:W32 b):AC prog 308 [iv 11,uv a,uv b] (.tup [uv (Jr a b),.bool true]):=by
 obtain⟨e0,e1,e2,e3,e4,e5⟩:=alF a b;refine sZ func308 ntmps308 ?_;exact wx (qX1 (Yt a b ha hb)) trivial
theorem Vz(a b:Int)(ha:W32 a)(hb:W32 b):AC prog 308 [iv 12,uv a,uv b] (.tup [uv (b2w (decide (sw a<sw b))),.bool true]):=by
 obtain⟨e0,e1,e2,e3,e4,e5⟩:=alF a b;refine sZ func308 ntmps308 ?_;exact wx (qX1 (Lp _)) trivial
theorem WJ(a b:Int)(ha:W32 a)(hb:W32 b):AC prog 308 [iv 23,uv a,uv b] (.tup [uv (b2w (decide (sw a<sw b))),.bool true]):=by
 obtain⟨e0,e1,e2,e3,e4,e5⟩:=alF a b;refine sZ func308 ntmps308 ?_;exact wx (qX1 (Lp _)) trivial
theorem WA(a b:Int)(ha:W32 a)(hb:W32 b):AC prog 308 [iv 13,uv a,uv b] (.tup [uv (b2w (decide (a<b))),.bool true]):=by
 obtain⟨e0,e1,e2,e3,e4,e5⟩:=alF a b;refine sZ func308 ntmps308 ?_;exact wx (qX1 (Lp _)) trivial
end Go.Proofs.YtjkmhmepljamoaaGreat
end
