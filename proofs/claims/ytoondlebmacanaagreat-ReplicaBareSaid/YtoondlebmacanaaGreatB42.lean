/- A part of the proof of ReplicaBare+ReplicaWindow. -/
import Derived.Test.YtoondlebmacanaaGreatB41
set_option linter.unusedSimpArgs false
set_option linter.unusedVariables false
set_option maxHeartbeats 16000000
set_option maxRecDepth 100000
section
namespace Go.Proofs.YtoondlebmacanaaGreat
open Go.Ab Go.RowKit
theorem zSm (a b:Int) (ha:W32 a) (hb:W32 b):zAD Tryz.prog 195 [iv 1,uv a,uv b] (.tup [uv (uw (a+b)),.bool true]):=by
 have e0:iand .u32 b 31=b % 32:=zAY b 5 32 (by omega) (by decide)
 have e1:a.fdiv (2 ^ min (b % 32).toNat 32)=a / 2 ^ (b % 32).toNat:=by
  rw [zWb (by omega),zWZ _ (zWm (zWo (by decide)))]
 have e2:(sw a).fdiv (2 ^ min (b % 32).toNat 32)=sw a / 2 ^ (b % 32).toNat:=by
  rw [zWb (by omega),zWZ _ (zWm (zWo (by decide)))]
 have e3:min (b % 32).toNat 32=(b % 32).toNat:=zWb (by omega)
 have hpl:zAD Tryz.prog 273 [iv 1] (iv 1):=by have:=zAq 1;simpa [zBk] using this
 refine sZ Tryz.func195 Tryz.ntmps195 ?_;exact wx1 (qX3 (hpl) (zBT a b ha hb) (zBD (true))) trivial (kX2 @e0 @e0)
theorem zPw (a b:Int) (ha:W32 a) (hb:W32 b):zAD Tryz.prog 195 [iv 16,uv a,uv b] (.tup [uv (uw (a+b)),.bool true]):=by
 have e0:iand .u32 b 31=b % 32:=zAY b 5 32 (by omega) (by decide)
 have e1:a.fdiv (2 ^ min (b % 32).toNat 32)=a / 2 ^ (b % 32).toNat:=by
  rw [zWb (by omega),zWZ _ (zWm (zWo (by decide)))]
 have e2:(sw a).fdiv (2 ^ min (b % 32).toNat 32)=sw a / 2 ^ (b % 32).toNat:=by
  rw [zWb (by omega),zWZ _ (zWm (zWo (by decide)))]
 have e3:min (b % 32).toNat 32=(b % 32).toNat:=zWb (by omega)
 have hpl:zAD Tryz.prog 273 [iv 16] (iv 1):=by have:=zAq 16;simpa [zBk] using this
 refine sZ Tryz.func195 Tryz.ntmps195 ?_;exact wx1 (qX3 (hpl) (zBT a b ha hb) (zBD (true))) trivial (kX2 @e0 @e0)
theorem zSn (a b:Int) (ha:W32 a) (hb:W32 b):zAD Tryz.prog 195 [iv 2,uv a,uv b] (.tup [uv (uw (a-b)),.bool true]):=by
 have e0:iand .u32 b 31=b % 32:=zAY b 5 32 (by omega) (by decide)
 have e1:a.fdiv (2 ^ min (b % 32).toNat 32)=a / 2 ^ (b % 32).toNat:=by
  rw [zWb (by omega),zWZ _ (zWm (zWo (by decide)))]
 have e2:(sw a).fdiv (2 ^ min (b % 32).toNat 32)=sw a / 2 ^ (b % 32).toNat:=by
  rw [zWb (by omega),zWZ _ (zWm (zWo (by decide)))]
 have e3:min (b % 32).toNat 32=(b % 32).toNat:=zWb (by omega)
 have hpl:zAD Tryz.prog 273 [iv 2] (iv 2):=by have:=zAq 2;simpa [zBk] using this
 refine sZ Tryz.func195 Tryz.ntmps195 ?_;exact wx1 (qX3 (hpl) (zBT a b ha hb) (zBD (true))) trivial (kX2 @e0 @e0)
theorem zSo (a b:Int) (ha:W32 a) (hb:W32 b):zAD Tryz.prog 195 [iv 3,uv a,uv b] (.tup [uv (iand .u32 a b),.bool true]):=by
 have e0:iand .u32 b 31=b % 32:=zAY b 5 32 (by omega) (by decide)
 have e1:a.fdiv (2 ^ min (b % 32).toNat 32)=a / 2 ^ (b % 32).toNat:=by
  rw [zWb (by omega),zWZ _ (zWm (zWo (by decide)))]
 have e2:(sw a).fdiv (2 ^ min (b % 32).toNat 32)=sw a / 2 ^ (b % 32).toNat:=by
  rw [zWb (by omega),zWZ _ (zWm (zWo (by decide)))]
 have e3:min (b % 32).toNat 32=(b % 32).toNat:=zWb (by omega)
 have hpl:zAD Tryz.prog 273 [iv 3] (iv 3):=by have:=zAq 3;simpa [zBk] using this
 refine sZ Tryz.func195 Tryz.ntmps195 ?_;exact wx1 (qX3 (hpl) (zBT a b ha hb) (zBD (true))) trivial (kX2 @e0 @e0)
theorem zPx (a b:Int) (ha:W32 a) (hb:W32 b):zAD Tryz.prog 195 [iv 17,uv a,uv b] (.tup [uv (iand .u32 a b),.bool true]):=by
 have e0:iand .u32 b 31=b % 32:=zAY b 5 32 (by omega) (by decide)
 have e1:a.fdiv (2 ^ min (b % 32).toNat 32)=a / 2 ^ (b % 32).toNat:=by
  rw [zWb (by omega),zWZ _ (zWm (zWo (by decide)))]
 have e2:(sw a).fdiv (2 ^ min (b % 32).toNat 32)=sw a / 2 ^ (b % 32).toNat:=by
  rw [zWb (by omega),zWZ _ (zWm (zWo (by decide)))]
 have e3:min (b % 32).toNat 32=(b % 32).toNat:=zWb (by omega)
 have hpl:zAD Tryz.prog 273 [iv 17] (iv 3):=by have:=zAq 17;simpa [zBk] using this
 refine sZ Tryz.func195 Tryz.ntmps195 ?_;exact wx1 (qX3 (hpl) (zBT a b ha hb) (zBD (true))) trivial (kX2 @e0 @e0)
theorem zSp (a b:Int) (ha:W32 a) (hb:W32 b):zAD Tryz.prog 195 [iv 4,uv a,uv b] (.tup [uv (ior .u32 a b),.bool true]):=by
 have e0:iand .u32 b 31=b % 32:=zAY b 5 32 (by omega) (by decide)
 have e1:a.fdiv (2 ^ min (b % 32).toNat 32)=a / 2 ^ (b % 32).toNat:=by
  rw [zWb (by omega),zWZ _ (zWm (zWo (by decide)))]
 have e2:(sw a).fdiv (2 ^ min (b % 32).toNat 32)=sw a / 2 ^ (b % 32).toNat:=by
  rw [zWb (by omega),zWZ _ (zWm (zWo (by decide)))]
 have e3:min (b % 32).toNat 32=(b % 32).toNat:=zWb (by omega)
 have hpl:zAD Tryz.prog 273 [iv 4] (iv 4):=by have:=zAq 4;simpa [zBk] using this
 refine sZ Tryz.func195 Tryz.ntmps195 ?_;exact wx1 (qX3 (hpl) (zBT a b ha hb) (zBD (true))) trivial (kX2 @e0 @e0)
theorem zPy (a b:Int) (ha:W32 a) (hb:W32 b):zAD Tryz.prog 195 [iv 18,uv a,uv b] (.tup [uv (ior .u32 a b),.bool true]):=by
 have e0:iand .u32 b 31=b % 32:=zAY b 5 32 (by omega) (by decide)
 have e1:a.fdiv (2 ^ min (b % 32).toNat 32)=a / 2 ^ (b % 32).toNat:=by
  rw [zWb (by omega),zWZ _ (zWm (zWo (by decide)))]
 have e2:(sw a).fdiv (2 ^ min (b % 32).toNat 32)=sw a / 2 ^ (b % 32).toNat:=by
  rw [zWb (by omega),zWZ _ (zWm (zWo (by decide)))]
 have e3:min (b % 32).toNat 32=(b % 32).toNat:=zWb (by omega)
 have hpl:zAD Tryz.prog 273 [iv 18] (iv 4):=by have:=zAq 18;simpa [zBk] using this
 refine sZ Tryz.func195 Tryz.ntmps195 ?_;exact wx1 (qX3 (hpl) (zBT a b ha hb) (zBD (true))) trivial (kX2 @e0 @e0)
theorem zSq (a b:Int) (ha:W32 a) (hb:W32 b):zAD Tryz.prog 195 [iv 5,uv a,uv b] (.tup [uv (ixor .u32 a b),.bool true]):=by
 have e0:iand .u32 b 31=b % 32:=zAY b 5 32 (by omega) (by decide)
 have e1:a.fdiv (2 ^ min (b % 32).toNat 32)=a / 2 ^ (b % 32).toNat:=by
  rw [zWb (by omega),zWZ _ (zWm (zWo (by decide)))]
 have e2:(sw a).fdiv (2 ^ min (b % 32).toNat 32)=sw a / 2 ^ (b % 32).toNat:=by
  rw [zWb (by omega),zWZ _ (zWm (zWo (by decide)))]
 have e3:min (b % 32).toNat 32=(b % 32).toNat:=zWb (by omega)
 have hpl:zAD Tryz.prog 273 [iv 5] (iv 5):=by have:=zAq 5;simpa [zBk] using this
 refine sZ Tryz.func195 Tryz.ntmps195 ?_;exact wx1 (qX3 (hpl) (zBT a b ha hb) (zBD (true))) trivial (kX2 @e0 @e0)
theorem zPz (a b:Int) (ha:W32 a) (hb:W32 b):zAD Tryz.prog 195 [iv 19,uv a,uv b] (.tup [uv (ixor .u32 a b),.bool true]):=by
 have e0:iand .u32 b 31=b % 32:=zAY b 5 32 (by omega) (by decide)
 have e1:a.fdiv (2 ^ min (b % 32).toNat 32)=a / 2 ^ (b % 32).toNat:=by
  rw [zWb (by omega),zWZ _ (zWm (zWo (by decide)))]
 have e2:(sw a).fdiv (2 ^ min (b % 32).toNat 32)=sw a / 2 ^ (b % 32).toNat:=by
  rw [zWb (by omega),zWZ _ (zWm (zWo (by decide)))]
 have e3:min (b % 32).toNat 32=(b % 32).toNat:=zWb (by omega)
 have hpl:zAD Tryz.prog 273 [iv 19] (iv 5):=by have:=zAq 19;simpa [zBk] using this
 refine sZ Tryz.func195 Tryz.ntmps195 ?_;exact wx1 (qX3 (hpl) (zBT a b ha hb) (zBD (true))) trivial (kX2 @e0 @e0)
theorem zSr (a b:Int) (ha:W32 a) (hb:W32 b):zAD Tryz.prog 195 [iv 6,uv a,uv b] (.tup [uv (uw (a*2 ^ (b % 32).toNat)),.bool true]):=by
 have e0:iand .u32 b 31=b % 32:=zAY b 5 32 (by omega) (by decide)
 have e1:a.fdiv (2 ^ min (b % 32).toNat 32)=a / 2 ^ (b % 32).toNat:=by
  rw [zWb (by omega),zWZ _ (zWm (zWo (by decide)))]
 have e2:(sw a).fdiv (2 ^ min (b % 32).toNat 32)=sw a / 2 ^ (b % 32).toNat:=by
  rw [zWb (by omega),zWZ _ (zWm (zWo (by decide)))]
 have e3:min (b % 32).toNat 32=(b % 32).toNat:=zWb (by omega)
 have hpl:zAD Tryz.prog 273 [iv 6] (iv 6):=by have:=zAq 6;simpa [zBk] using this
 refine sZ Tryz.func195 Tryz.ntmps195 ?_;exact wx1 (qX3 (hpl) (zBT a b ha hb) (zBD (true))) trivial (kX3 @e0 @e0 @e3)
theorem zP0 (a b:Int) (ha:W32 a) (hb:W32 b):zAD Tryz.prog 195 [iv 20,uv a,uv b] (.tup [uv (uw (a*2 ^ (b % 32).toNat)),.bool true]):=by
 have e0:iand .u32 b 31=b % 32:=zAY b 5 32 (by omega) (by decide)
 have e1:a.fdiv (2 ^ min (b % 32).toNat 32)=a / 2 ^ (b % 32).toNat:=by
  rw [zWb (by omega),zWZ _ (zWm (zWo (by decide)))]
 have e2:(sw a).fdiv (2 ^ min (b % 32).toNat 32)=sw a / 2 ^ (b % 32).toNat:=by
  rw [zWb (by omega),zWZ _ (zWm (zWo (by decide)))]
 have e3:min (b % 32).toNat 32=(b % 32).toNat:=zWb (by omega)
 have hpl:zAD Tryz.prog 273 [iv 20] (iv 6):=by have:=zAq 20;simpa [zBk] using this
 refine sZ Tryz.func195 Tryz.ntmps195 ?_;exact wx1 (qX3 (hpl) (zBT a b ha hb) (zBD (true))) trivial (kX3 @e0 @e0 @e3)
theorem zSs (a b:Int) (ha:W32 a) (hb:W32 b):zAD Tryz.prog 195 [iv 7,uv a,uv b] (.tup [uv (a / 2 ^ (b % 32).toNat),.bool true]):=by
 have e0:iand .u32 b 31=b % 32:=zAY b 5 32 (by omega) (by decide)
 have e1:a.fdiv (2 ^ min (b % 32).toNat 32)=a / 2 ^ (b % 32).toNat:=by
  rw [zWb (by omega),zWZ _ (zWm (zWo (by decide)))]
 have e2:(sw a).fdiv (2 ^ min (b % 32).toNat 32)=sw a / 2 ^ (b % 32).toNat:=by
  rw [zWb (by omega),zWZ _ (zWm (zWo (by decide)))]
 have e3:min (b % 32).toNat 32=(b % 32).toNat:=zWb (by omega)
 have hpl:zAD Tryz.prog 273 [iv 7] (iv 7):=by have:=zAq 7;simpa [zBk] using this
 refine sZ Tryz.func195 Tryz.ntmps195 ?_;exact wx1 (qX3 (hpl) (zBT a b ha hb) (zBD (true))) trivial (kX3 @e0 @e0 @e1)
theorem zP1 (a b:Int) (ha:W32 a) (hb:W32 b):zAD Tryz.prog 195 [iv 21,uv a,uv b] (.tup [uv (a / 2 ^ (b % 32).toNat),.bool true]):=by
 have e0:iand .u32 b 31=b % 32:=zAY b 5 32 (by omega) (by decide)
 have e1:a.fdiv (2 ^ min (b % 32).toNat 32)=a / 2 ^ (b % 32).toNat:=by
  rw [zWb (by omega),zWZ _ (zWm (zWo (by decide)))]
 have e2:(sw a).fdiv (2 ^ min (b % 32).toNat 32)=sw a / 2 ^ (b % 32).toNat:=by
  rw [zWb (by omega),zWZ _ (zWm (zWo (by decide)))]
 have e3:min (b % 32).toNat 32=(b % 32).toNat:=zWb (by omega)
 have hpl:zAD Tryz.prog 273 [iv 21] (iv 7):=by have:=zAq 21;simpa [zBk] using this
 refine sZ Tryz.func195 Tryz.ntmps195 ?_;exact wx1 (qX3 (hpl) (zBT a b ha hb) (zBD (true))) trivial (kX3 @e0 @e0 @e1)
theorem zSt (a b:Int) (ha:W32 a) (hb:W32 b):zAD Tryz.prog 195 [iv 8,uv a,uv b] (.tup [uv (uw (sw a / 2 ^ (b % 32).toNat)),.bool true]):=by
 have e0:iand .u32 b 31=b % 32:=zAY b 5 32 (by omega) (by decide)
 have e1:a.fdiv (2 ^ min (b % 32).toNat 32)=a / 2 ^ (b % 32).toNat:=by
  rw [zWb (by omega),zWZ _ (zWm (zWo (by decide)))]
 have e2:(sw a).fdiv (2 ^ min (b % 32).toNat 32)=sw a / 2 ^ (b % 32).toNat:=by
  rw [zWb (by omega),zWZ _ (zWm (zWo (by decide)))]
 have e3:min (b % 32).toNat 32=(b % 32).toNat:=zWb (by omega)
 have hpl:zAD Tryz.prog 273 [iv 8] (iv 8):=by have:=zAq 8;simpa [zBk] using this
 refine sZ Tryz.func195 Tryz.ntmps195 ?_;exact wx1 (qX3 (hpl) (zBT a b ha hb) (zBD (true))) trivial (kX3 @e0 @e0 @e2)
theorem zP2 (a b:Int) (ha:W32 a) (hb:W32 b):zAD Tryz.prog 195 [iv 22,uv a,uv b] (.tup [uv (uw (sw a / 2 ^ (b % 32).toNat)),.bool true]):=by
 have e0:iand .u32 b 31=b % 32:=zAY b 5 32 (by omega) (by decide)
 have e1:a.fdiv (2 ^ min (b % 32).toNat 32)=a / 2 ^ (b % 32).toNat:=by
  rw [zWb (by omega),zWZ _ (zWm (zWo (by decide)))]
 have e2:(sw a).fdiv (2 ^ min (b % 32).toNat 32)=sw a / 2 ^ (b % 32).toNat:=by
  rw [zWb (by omega),zWZ _ (zWm (zWo (by decide)))]
 have e3:min (b % 32).toNat 32=(b % 32).toNat:=zWb (by omega)
 have hpl:zAD Tryz.prog 273 [iv 22] (iv 8):=by have:=zAq 22;simpa [zBk] using this
 refine sZ Tryz.func195 Tryz.ntmps195 ?_;exact wx1 (qX3 (hpl) (zBT a b ha hb) (zBD (true))) trivial (kX3 @e0 @e0 @e2)
theorem zSu (a b:Int) (ha:W32 a) (hb:W32 b):zAD Tryz.prog 195 [iv 9,uv a,uv b] (.tup [uv (uw (a*b)),.bool true]):=by
 have e0:iand .u32 b 31=b % 32:=zAY b 5 32 (by omega) (by decide)
 have e1:a.fdiv (2 ^ min (b % 32).toNat 32)=a / 2 ^ (b % 32).toNat:=by
  rw [zWb (by omega),zWZ _ (zWm (zWo (by decide)))]
 have e2:(sw a).fdiv (2 ^ min (b % 32).toNat 32)=sw a / 2 ^ (b % 32).toNat:=by
  rw [zWb (by omega),zWZ _ (zWm (zWo (by decide)))]
 have e3:min (b % 32).toNat 32=(b % 32).toNat:=zWb (by omega)
 have hpl:zAD Tryz.prog 273 [iv 9] (iv 9):=by have:=zAq 9;simpa [zBk] using this
 refine sZ Tryz.func195 Tryz.ntmps195 ?_;exact wx1 (qX3 (hpl) (zBT a b ha hb) (zBD (true))) trivial (kX2 @e0 @e0)
theorem zPs (a b:Int) (ha:W32 a) (hb:W32 b):zAD Tryz.prog 195 [iv 10,uv a,uv b] (.tup [uv (divQ a b),.bool true]):=by
 have e0:iand .u32 b 31=b % 32:=zAY b 5 32 (by omega) (by decide)
 have e1:a.fdiv (2 ^ min (b % 32).toNat 32)=a / 2 ^ (b % 32).toNat:=by
  rw [zWb (by omega),zWZ _ (zWm (zWo (by decide)))]
 have e2:(sw a).fdiv (2 ^ min (b % 32).toNat 32)=sw a / 2 ^ (b % 32).toNat:=by
  rw [zWb (by omega),zWZ _ (zWm (zWo (by decide)))]
 have e3:min (b % 32).toNat 32=(b % 32).toNat:=zWb (by omega)
 have hpl:zAD Tryz.prog 273 [iv 10] (iv 10):=by have:=zAq 10;simpa [zBk] using this
 refine sZ Tryz.func195 Tryz.ntmps195 ?_;exact wx1 (qX3 (hpl) (zBT a b ha hb) (zBD (true))) trivial (kX2 @e0 @e0)
theorem zPt (a b:Int) (ha:W32 a) (hb:W32 b):zAD Tryz.prog 195 [iv 11,uv a,uv b] (.tup [uv (divR a b),.bool true]):=by
 have e0:iand .u32 b 31=b % 32:=zAY b 5 32 (by omega) (by decide)
 have e1:a.fdiv (2 ^ min (b % 32).toNat 32)=a / 2 ^ (b % 32).toNat:=by
  rw [zWb (by omega),zWZ _ (zWm (zWo (by decide)))]
 have e2:(sw a).fdiv (2 ^ min (b % 32).toNat 32)=sw a / 2 ^ (b % 32).toNat:=by
  rw [zWb (by omega),zWZ _ (zWm (zWo (by decide)))]
 have e3:min (b % 32).toNat 32=(b % 32).toNat:=zWb (by omega)
 have hpl:zAD Tryz.prog 273 [iv 11] (iv 11):=by have:=zAq 11;simpa [zBk] using this
 refine sZ Tryz.func195 Tryz.ntmps195 ?_;exact wx1 (qX3 (hpl) (zBT a b ha hb) (zBD (true))) trivial (kX2 @e0 @e0)
theorem zPu (a b:Int) (ha:W32 a) (hb:W32 b):zAD Tryz.prog 195 [iv 12,uv a,uv b] (.tup [uv (b2w (decide (sw a<sw b))),.bool true]):=by
 have e0:iand .u32 b 31=b % 32:=zAY b 5 32 (by omega) (by decide)
 have e1:a.fdiv (2 ^ min (b % 32).toNat 32)=a / 2 ^ (b % 32).toNat:=by
  rw [zWb (by omega),zWZ _ (zWm (zWo (by decide)))]
 have e2:(sw a).fdiv (2 ^ min (b % 32).toNat 32)=sw a / 2 ^ (b % 32).toNat:=by
  rw [zWb (by omega),zWZ _ (zWm (zWo (by decide)))]
 have e3:min (b % 32).toNat 32=(b % 32).toNat:=zWb (by omega)
 have hpl:zAD Tryz.prog 273 [iv 12] (iv 12):=by have:=zAq 12;simpa [zBk] using this
 refine sZ Tryz.func195 Tryz.ntmps195 ?_;exact wx1 (qX3 (hpl) (zBT a b ha hb) (zBD (decide (sw a<sw b)))) trivial (kX2 @e0 @e0)
theorem zP3 (a b:Int) (ha:W32 a) (hb:W32 b):zAD Tryz.prog 195 [iv 23,uv a,uv b] (.tup [uv (b2w (decide (sw a<sw b))),.bool true]):=by
 have e0:iand .u32 b 31=b % 32:=zAY b 5 32 (by omega) (by decide)
 have e1:a.fdiv (2 ^ min (b % 32).toNat 32)=a / 2 ^ (b % 32).toNat:=by
  rw [zWb (by omega),zWZ _ (zWm (zWo (by decide)))]
 have e2:(sw a).fdiv (2 ^ min (b % 32).toNat 32)=sw a / 2 ^ (b % 32).toNat:=by
  rw [zWb (by omega),zWZ _ (zWm (zWo (by decide)))]
 have e3:min (b % 32).toNat 32=(b % 32).toNat:=zWb (by omega)
 have hpl:zAD Tryz.prog 273 [iv 23] (iv 12):=by have:=zAq 23;simpa [zBk] using this
 refine sZ Tryz.func195 Tryz.ntmps195 ?_;exact wx1 (qX3 (hpl) (zBT a b ha hb) (zBD (decide (sw a<sw b)))) trivial (kX2 @e0 @e0)
theorem zPv (a b:Int) (ha:W32 a) (hb:W32 b):zAD Tryz.prog 195 [iv 13,uv a,uv b] (.tup [uv (b2w (decide (a<b))),.bool true]):=by
 have e0:iand .u32 b 31=b % 32:=zAY b 5 32 (by omega) (by decide)
 have e1:a.fdiv (2 ^ min (b % 32).toNat 32)=a / 2 ^ (b % 32).toNat:=by
  rw [zWb (by omega),zWZ _ (zWm (zWo (by decide)))]
 have e2:(sw a).fdiv (2 ^ min (b % 32).toNat 32)=sw a / 2 ^ (b % 32).toNat:=by
  rw [zWb (by omega),zWZ _ (zWm (zWo (by decide)))]
 have e3:min (b % 32).toNat 32=(b % 32).toNat:=zWb (by omega)
 have hpl:zAD Tryz.prog 273 [iv 13] (iv 13):=by have:=zAq 13;simpa [zBk] using this
 refine sZ Tryz.func195 Tryz.ntmps195 ?_;exact wx1 (qX3 (hpl) (zBT a b ha hb) (zBD (decide (a<b)))) trivial (kX2 @e0 @e0)
theorem zIg (op a b:Int) (ha:W32 a) (hb:W32 b) (h:(1≤op∧op≤13)∨(16≤op∧op≤23)):zAD Tryz.prog 195 [iv op,uv a,uv b] (.tup [uv ((aluD op a b).getD 0),.bool true]):=by
 have hk:op=1∨op=16∨op=2∨op=3∨op=17∨op=4∨op=18∨op=5∨op=19∨op=6∨op=20∨op=7∨op=21∨op=8∨op=22∨op=9∨op=10∨op=11∨op=12∨op=23∨op=13:=by omega
 rcases hk with rfl|rfl|rfl|rfl|rfl|rfl|rfl|rfl|rfl|rfl|rfl|rfl|rfl|rfl|rfl|rfl|rfl|rfl|rfl|rfl|rfl
 ·exact zSm a b ha hb
 ·exact zPw a b ha hb
 ·exact zSn a b ha hb
 ·exact zSo a b ha hb
 ·exact zPx a b ha hb
 ·exact zSp a b ha hb
 ·exact zPy a b ha hb
 ·exact zSq a b ha hb
 ·exact zPz a b ha hb
 ·exact zSr a b ha hb
 ·exact zP0 a b ha hb
 ·exact zSs a b ha hb
 ·exact zP1 a b ha hb
 ·exact zSt a b ha hb
 ·exact zP2 a b ha hb
 ·exact zSu a b ha hb
 ·exact zPs a b ha hb
 ·exact zPt a b ha hb
 ·exact zPu a b ha hb
 ·exact zP3 a b ha hb
 exact zPv a b ha hb
end Go.Proofs.YtoondlebmacanaaGreat
end
