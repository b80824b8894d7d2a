/- A part of the proof of ReplicaTakes. -/
import Derived.Test.YtjkmhmepljamoaaGreatT10
import Derived.Test.YtjkmhmepljamoaaGreatT19
set_option linter.all false
set_option maxHeartbeats 16000000
set_option maxRecDepth 100000
section
namespace Go.Proofs.YtjkmhmepljamoaaGreat
open Go.Ab Go.RowKit Tryz
theorem ZU(a b:Int)(ha:W32 a)(hb:W32 b):AC prog 308 [iv 1,uv a,uv b] (.tup [uv (uw (a+b)),.bool true]):=by
 obtain⟨e0,e1,e2,e3,e4,e5⟩:=alF a b;refine sZ func308 ntmps308 ?_;exact wx trivial trivial
theorem Ve(a b:Int)(ha:W32 a)(hb:W32 b):AC prog 308 [iv 16,uv a,uv b] (.tup [uv (uw (a+b)),.bool true]):=by
 obtain⟨e0,e1,e2,e3,e4,e5⟩:=alF a b;refine sZ func308 ntmps308 ?_;exact wx trivial trivial
theorem ZV(a b:Int)(ha:W32 a)(hb:W32 b):AC prog 308 [iv 2,uv a,uv b] (.tup [uv (uw (a-b)),.bool true]):=by
 obtain⟨e0,e1,e2,e3,e4,e5⟩:=alF a b;refine sZ func308 ntmps308 ?_;exact wx trivial trivial
theorem ZW(a b:Int)(ha:W32 a)(hb:W32 b):AC prog 308 [iv 3,uv a,uv b] (.tup [uv (Bc .u32 a b),.bool true]):=by
 obtain⟨e0,e1,e2,e3,e4,e5⟩:=alF a b;refine sZ func308 ntmps308 ?_;exact wx trivial trivial
theorem Vf(a b:Int)(ha:W32 a)(hb:W32 b):AC prog 308 [iv 17,uv a,uv b] (.tup [uv (Bc .u32 a b),.bool true]):=by
 obtain⟨e0,e1,e2,e3,e4,e5⟩:=alF a b;refine sZ func308 ntmps308 ?_;exact wx trivial trivial
theorem ZX(a b:Int)(ha:W32 a)(hb:W32 b):AC prog 308 [iv 4,uv a,uv b] (.tup [uv (ior .u32 a b),.bool true]):=by
 obtain⟨e0,e1,e2,e3,e4,e5⟩:=alF a b;refine sZ func308 ntmps308 ?_;exact wx trivial trivial
theorem Vg(a b:Int)(ha:W32 a)(hb:W32 b):AC prog 308 [iv 18,uv a,uv b] (.tup [uv (ior .u32 a b),.bool true]):=by
 obtain⟨e0,e1,e2,e3,e4,e5⟩:=alF a b;refine sZ func308 ntmps308 ?_;exact wx trivial trivial
theorem ZY(a b:Int)(ha:W32 a)(hb:W32 b):AC prog 308 [iv 5,uv a,uv b] (.tup [uv (V0 .u32 a b),.bool true]):=by
 obtain⟨e0,e1,e2,e3,e4,e5⟩:=alF a b;refine sZ func308 ntmps308 ?_;exact wx trivial trivial
theorem Vh(a b:Int)(ha:W32 a)(hb:W32 b):AC prog 308 [iv 19,uv a,uv b] (.tup [uv (V0 .u32 a b),.bool true]):=by
 obtain⟨e0,e1,e2,e3,e4,e5⟩:=alF a b;refine sZ func308 ntmps308 ?_;exact wx trivial trivial
theorem ZZ(a b:Int)(ha:W32 a)(hb:W32 b):AC prog 308 [iv 6,uv a,uv b] (.tup [uv (uw (a*2^(b%32).toNat)),.bool true]):=by
 obtain⟨e0,e1,e2,e3,e4,e5⟩:=alF a b;refine sZ func308 ntmps308 ?_;exact wx trivial trivial
theorem alu_ok(op a b:Int)(ha:W32 a)(hb:W32 b)(h:(1<=op/\op<=13)\/(16<=op/\op<=23)):AC prog 308 [iv op,uv a,uv b] (.tup [uv ((Rj op a b).getD 0),.bool true]):=by
 have hk:op=1\/op=16\/op=2\/op=3\/op=17\/op=4\/op=18\/op=5\/op=19\/op=6\/op=20\/op=7\/op=21\/op=8\/op=22\/op=9\/op=10\/op=11\/op=12\/op=23\/op=13:=by omega
 rcases hk with rfl|rfl|rfl|rfl|rfl|rfl|rfl|rfl|rfl|rfl|rfl|rfl|rfl|rfl|rfl|rfl|rfl|rfl|rfl|rfl|rfl
 ·exact ZU a b ha hb
 ·exact Ve a b ha hb
 ·exact ZV a b ha hb
 ·exact ZW a b ha hb
 ·exact Vf a b ha hb
 ·exact ZX a b ha hb
 ·exact Vg a b ha hb
 ·exact ZY a b ha hb
 ·exact Vh a b ha hb
 ·exact ZZ a b ha hb
 ·exact Vi a b ha hb
 ·exact Z0 a b ha hb
 ·exact Vj a b ha hb
 ·exact Z1 a b ha hb
 ·exact Vk a b ha hb
 ·exact Z2 a b ha hb
 ·exact V9 a b ha hb
 ·exact Va a b ha hb
 ·exact Vb a b ha hb
 ·exact Vl a b ha hb
 exact Vd a b ha hb
end Go.Proofs.YtjkmhmepljamoaaGreat
end
