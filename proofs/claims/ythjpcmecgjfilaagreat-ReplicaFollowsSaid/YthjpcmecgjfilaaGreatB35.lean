/- A part of the proof of ReplicaFollows. -/
import Derived.Test.YthjpcmecgjfilaaGreatB34
set_option linter.unusedSimpArgs false
set_option linter.unusedVariables false
set_option maxHeartbeats 16000000
set_option maxRecDepth 100000
section
namespace Go.Proofs.YthjpcmecgjfilaaGreat
open Go.Ab Go.RowKit Tryz

theorem zSk (s:Str) (b:UInt8) (hl:s.length<=1000):zAD prog 100 [.st [.str s],.int .u8 b.toNat] (.tup [.st [.str (zDv s b).1],.bool (zDv s b).2]):=by
 by_cases h:16<=s.length
 ·have h':(16:Int)<=s.length:=by omega
  have hE:zDv s b=(s,false):=if_pos h;rw [hE];refine sZ func100 ntmps100 ?_;exact wx1 trivial trivial @h'
 have h':¬ (16:Int)<=s.length:=by omega
 have hE:zDv s b=(s++[b],true):=if_neg h;have hb:zBq [.int .u8 (b.toNat:Int)]:=by exact ⟨b,rfl⟩
 rw [hE];refine sZ func100 ntmps100 ?_;exact wx1 trivial trivial (kX4 @h' @maxLen.eq_1 @hb @zDF.eq_1)
end Go.Proofs.YthjpcmecgjfilaaGreat
end
