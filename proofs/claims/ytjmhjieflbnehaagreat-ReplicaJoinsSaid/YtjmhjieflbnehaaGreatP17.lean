/- A part of the proof of ReplicaJoins. -/
import Derived.Test.YtjmhjieflbnehaaGreatP16
set_option linter.unusedSimpArgs false
set_option linter.unusedVariables false
set_option maxHeartbeats 16000000
set_option maxRecDepth 100000
section
namespace Go.Proofs.YtjmhjieflbnehaaGreat
open Go.Ab Go.RowKit
theorem zSV (a b : Int) (ha : W32 a) (hb : W32 b) : zAD Tryz.prog 303 [iv 1, uv a, uv b] (.tup [uv (uw (a + b)), .bool true]) := by
 obtain ⟨e0, e1, e2, e3, e4, e5⟩ := alF a b
 refine sZ Tryz.func303 Tryz.ntmps303 ?_
 exact wx trivial trivial
theorem zPH (a b : Int) (ha : W32 a) (hb : W32 b) : zAD Tryz.prog 303 [iv 16, uv a, uv b] (.tup [uv (uw (a + b)), .bool true]) := by
 obtain ⟨e0, e1, e2, e3, e4, e5⟩ := alF a b
 refine sZ Tryz.func303 Tryz.ntmps303 ?_
 exact wx trivial trivial
theorem zTn (a b : Int) (ha : W32 a) (hb : W32 b) : zAD Tryz.prog 303 [iv 2, uv a, uv b] (.tup [uv (uw (a - b)), .bool true]) := by
 obtain ⟨e0, e1, e2, e3, e4, e5⟩ := alF a b
 refine sZ Tryz.func303 Tryz.ntmps303 ?_
 exact wx trivial trivial
theorem zSI (a b : Int) (ha : W32 a) (hb : W32 b) : zAD Tryz.prog 303 [iv 3, uv a, uv b] (.tup [uv (iand .u32 a b), .bool true]) := by
 obtain ⟨e0, e1, e2, e3, e4, e5⟩ := alF a b
 refine sZ Tryz.func303 Tryz.ntmps303 ?_
 exact wx trivial trivial
theorem zPV (a b : Int) (ha : W32 a) (hb : W32 b) : zAD Tryz.prog 303 [iv 17, uv a, uv b] (.tup [uv (iand .u32 a b), .bool true]) := by
 obtain ⟨e0, e1, e2, e3, e4, e5⟩ := alF a b
 refine sZ Tryz.func303 Tryz.ntmps303 ?_
 exact wx trivial trivial
theorem zSK (a b : Int) (ha : W32 a) (hb : W32 b) : zAD Tryz.prog 303 [iv 4, uv a, uv b] (.tup [uv (ior .u32 a b), .bool true]) := by
 obtain ⟨e0, e1, e2, e3, e4, e5⟩ := alF a b
 refine sZ Tryz.func303 Tryz.ntmps303 ?_
 exact wx trivial trivial
theorem zQl (a b : Int) (ha : W32 a) (hb : W32 b) : zAD Tryz.prog 303 [iv 18, uv a, uv b] (.tup [uv (ior .u32 a b), .bool true]) := by
 obtain ⟨e0, e1, e2, e3, e4, e5⟩ := alF a b
 refine sZ Tryz.func303 Tryz.ntmps303 ?_
 exact wx trivial trivial
theorem zRy (a b : Int) (ha : W32 a) (hb : W32 b) : zAD Tryz.prog 303 [iv 5, uv a, uv b] (.tup [uv (ixor .u32 a b), .bool true]) := by
 obtain ⟨e0, e1, e2, e3, e4, e5⟩ := alF a b
 refine sZ Tryz.func303 Tryz.ntmps303 ?_
 exact wx trivial trivial
theorem zQZ (a b : Int) (ha : W32 a) (hb : W32 b) : zAD Tryz.prog 303 [iv 19, uv a, uv b] (.tup [uv (ixor .u32 a b), .bool true]) := by
 obtain ⟨e0, e1, e2, e3, e4, e5⟩ := alF a b
 refine sZ Tryz.func303 Tryz.ntmps303 ?_
 exact wx trivial trivial
theorem zTB (a b : Int) (ha : W32 a) (hb : W32 b) : zAD Tryz.prog 303 [iv 6, uv a, uv b] (.tup [uv (uw (a * 2 ^ (b % 32).toNat)), .bool true]) := by
 obtain ⟨e0, e1, e2, e3, e4, e5⟩ := alF a b
 refine sZ Tryz.func303 Tryz.ntmps303 ?_
 exact wx trivial trivial
end Go.Proofs.YtjmhjieflbnehaaGreat
end
