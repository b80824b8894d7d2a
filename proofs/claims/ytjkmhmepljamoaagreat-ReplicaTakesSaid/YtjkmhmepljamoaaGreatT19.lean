/- A part of the proof of ReplicaTakes. -/
import Derived.Test.YtjkmhmepljamoaaGreatT10
set_option linter.all false
set_option maxHeartbeats 16000000
set_option maxRecDepth 100000
section
namespace Go.Proofs.YtjkmhmepljamoaaGreat
open Go.Ab Go.RowKit Tryz
theorem Vi(a b:Int)(ha:W32 a)(hb:W32 b):AC prog 308 [iv 20,uv a,uv b] (.tup [uv (uw (a*2^(b%32).toNat)),.bool true]):=by
 obtain⟨e0,e1,e2,e3,e4,e5⟩:=alF a b;refine sZ func308 ntmps308 ?_;exact wx trivial trivial
theorem Z0(a b:Int)(ha:W32 a)(hb:W32 b):AC prog 308 [iv 7,uv a,uv b] (.tup [uv (a/2^(b%32).toNat),.bool true]):=by
 obtain⟨e0,e1,e2,e3,e4,e5⟩:=alF a b;refine sZ func308 ntmps308 ?_;exact wx trivial trivial
theorem Vj(a b:Int)(ha:W32 a)(hb:W32 b):AC prog 308 [iv 21,uv a,uv b] (.tup [uv (a/2^(b%32).toNat),.bool true]):=by
 obtain⟨e0,e1,e2,e3,e4,e5⟩:=alF a b;refine sZ func308 ntmps308 ?_;exact wx trivial trivial
theorem Z1(a b:Int)(ha:W32 a)(hb:W32 b):AC prog 308 [iv 8,uv a,uv b] (.tup [uv (uw (sw a/2^(b%32).toNat)),.bool true]):=by
 obtain⟨e0,e1,e2,e3,e4,e5⟩:=alF a b;refine sZ func308 ntmps308 ?_;exact wx trivial trivial
theorem Vk(a b:Int)(ha:W32 a)(hb:W32 b):AC prog 308 [iv 22,uv a,uv b] (.tup [uv (uw (sw a/2^(b%32).toNat)),.bool true]):=by
 obtain⟨e0,e1,e2,e3,e4,e5⟩:=alF a b;refine sZ func308 ntmps308 ?_;exact wx trivial trivial
theorem Z2(a b:Int)(ha:W32 a)(hb:W32 b):AC prog 308 [iv 9,uv a,uv b] (.tup [uv (uw (a*b)),.bool true]):=by
 obtain⟨e0,e1,e2,e3,e4,e5⟩:=alF a b;refine sZ func308 ntmps308 ?_;exact wx trivial trivial
theorem V9(a b:Int)(ha:W32 a)(hb:W32 b):AC prog 308 [iv 10,uv a,uv b] (.tup [uv (J7 a b),.bool true]):=by
 obtain⟨e0,e1,e2,e3,e4,e5⟩:=alF a b;refine sZ func308 ntmps308 ?_;exact wx (qX1 (Y3 a b ha hb)) trivial
theorem Va(a b:Int)(ha:W32 a)(hb:W32 b):AC prog 308 [iv 11,uv a,uv b] (.tup [uv (J8 a b),.bool true]):=by
 obtain⟨e0,e1,e2,e3,e4,e5⟩:=alF a b;refine sZ func308 ntmps308 ?_;exact wx (qX1 (Y3 a b ha hb)) trivial
theorem Vb(a b:Int)(ha:W32 a)(hb:W32 b):AC prog 308 [iv 12,uv a,uv b] (.tup [uv (b2w (decide (sw a<sw b))),.bool true]):=by
 obtain⟨e0,e1,e2,e3,e4,e5⟩:=alF a b;refine sZ func308 ntmps308 ?_;exact wx (qX1 (L6 _)) trivial
theorem Vl(a b:Int)(ha:W32 a)(hb:W32 b):AC prog 308 [iv 23,uv a,uv b] (.tup [uv (b2w (decide (sw a<sw b))),.bool true]):=by
 obtain⟨e0,e1,e2,e3,e4,e5⟩:=alF a b;refine sZ func308 ntmps308 ?_;exact wx (qX1 (L6 _)) trivial
theorem Vd(a b:Int)(ha:W32 a)(hb:W32 b):AC prog 308 [iv 13,uv a,uv b] (.tup [uv (b2w (decide (a<b))),.bool true]):=by
 obtain⟨e0,e1,e2,e3,e4,e5⟩:=alF a b;refine sZ func308 ntmps308 ?_;exact wx (qX1 (L6 _)) trivial
end Go.Proofs.YtjkmhmepljamoaaGreat
end
