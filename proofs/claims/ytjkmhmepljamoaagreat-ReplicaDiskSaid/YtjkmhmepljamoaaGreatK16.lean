/- A part of the proof of ReplicaDisk. -/
import Derived.Test.YtjkmhmepljamoaaGreatK08
import Derived.Test.YtjkmhmepljamoaaGreatK15
set_option linter.all false
set_option maxHeartbeats 16000000
set_option maxRecDepth 100000
section
namespace Go.Proofs.YtjkmhmepljamoaaGreat
open Go.Ab Go.RowKit Tryz
theorem Zp(a b:Int)(ha:W32 a)(hb:W32 b):AC prog 308 [iv 1,uv a,uv b] (.tup [uv (uw (a+b)),.bool true]):=by
 obtain⟨e0,e1,e2,e3,e4,e5⟩:=alF a b;refine sZ func308 ntmps308 ?_;exact wx trivial trivial
theorem WB(a b:Int)(ha:W32 a)(hb:W32 b):AC prog 308 [iv 16,uv a,uv b] (.tup [uv (uw (a+b)),.bool true]):=by
 obtain⟨e0,e1,e2,e3,e4,e5⟩:=alF a b;refine sZ func308 ntmps308 ?_;exact wx trivial trivial
theorem Zq(a b:Int)(ha:W32 a)(hb:W32 b):AC prog 308 [iv 2,uv a,uv b] (.tup [uv (uw (a-b)),.bool true]):=by
 obtain⟨e0,e1,e2,e3,e4,e5⟩:=alF a b;refine sZ func308 ntmps308 ?_;exact wx trivial trivial
theorem Zr(a b:Int)(ha:W32 a)(hb:W32 b):AC prog 308 [iv 3,uv a,uv b] (.tup [uv (Bg .u32 a b),.bool true]):=by
 obtain⟨e0,e1,e2,e3,e4,e5⟩:=alF a b;refine sZ func308 ntmps308 ?_;exact wx trivial trivial
theorem WC(a b:Int)(ha:W32 a)(hb:W32 b):AC prog 308 [iv 17,uv a,uv b] (.tup [uv (Bg .u32 a b),.bool true]):=by
 obtain⟨e0,e1,e2,e3,e4,e5⟩:=alF a b;refine sZ func308 ntmps308 ?_;exact wx trivial trivial
theorem Zs(a b:Int)(ha:W32 a)(hb:W32 b):AC prog 308 [iv 4,uv a,uv b] (.tup [uv (ior .u32 a b),.bool true]):=by
 obtain⟨e0,e1,e2,e3,e4,e5⟩:=alF a b;refine sZ func308 ntmps308 ?_;exact wx trivial trivial
theorem WE(a b:Int)(ha:W32 a)(hb:W32 b):AC prog 308 [iv 18,uv a,uv b] (.tup [uv (ior .u32 a b),.bool true]):=by
 obtain⟨e0,e1,e2,e3,e4,e5⟩:=alF a b;refine sZ func308 ntmps308 ?_;exact wx trivial trivial
theorem Zt(a b:Int)(ha:W32 a)(hb:W32 b):AC prog 308 [iv 5,uv a,uv b] (.tup [uv (Vp .u32 a b),.bool true]):=by
 obtain⟨e0,e1,e2,e3,e4,e5⟩:=alF a b;refine sZ func308 ntmps308 ?_;exact wx trivial trivial
theorem WF(a b:Int)(ha:W32 a)(hb:W32 b):AC prog 308 [iv 19,uv a,uv b] (.tup [uv (Vp .u32 a b),.bool true]):=by
 obtain⟨e0,e1,e2,e3,e4,e5⟩:=alF a b;refine sZ func308 ntmps308 ?_;exact wx trivial trivial
theorem Zu(a b:Int)(ha:W32 a)(hb:W32 b):AC prog 308 [iv 6,uv a,uv b] (.tup [uv (uw (a*2^(b%32).toNat)),.bool true]):=by
 obtain⟨e0,e1,e2,e3,e4,e5⟩:=alF a b;refine sZ func308 ntmps308 ?_;exact wx trivial trivial
theorem alu_ok(op a b:Int)(ha:W32 a)(hb:W32 b)(h:(1<=op/\op<=13)\/(16<=op/\op<=23)):AC prog 308 [iv op,uv a,uv b] (.tup [uv ((SI op a b).getD 0),.bool true]):=by
 have hk:op=1\/op=16\/op=2\/op=3\/op=17\/op=4\/op=18\/op=5\/op=19\/op=6\/op=20\/op=7\/op=21\/op=8\/op=22\/op=9\/op=10\/op=11\/op=12\/op=23\/op=13:=by omega
 rcases hk with rfl|rfl|rfl|rfl|rfl|rfl|rfl|rfl|rfl|rfl|rfl|rfl|rfl|rfl|rfl|rfl|rfl|rfl|rfl|rfl|rfl
 ·exact Zp a b ha hb
 ·exact WB a b ha hb
 ·exact Zq a b ha hb
 ·exact Zr a b ha hb
 ·exact WC a b ha hb
 ·exact Zs a b ha hb
 ·exact WE a b ha hb
 ·exact Zt a b ha hb
 ·exact WF a b ha hb
 ·exact Zu a b ha hb
 ·exact WG a b ha hb
 ·exact Zv a b ha hb
 ·exact WH a b ha hb
 ·exact Zw a b ha hb
 ·exact WI a b ha hb
 ·exact Zx a b ha hb
 ·exact Vx a b ha hb
 ·exact Vy a b ha hb
 ·exact Vz a b ha hb
 ·exact WJ a b ha hb
 exact WA a b ha hb
end Go.Proofs.YtjkmhmepljamoaaGreat
end
