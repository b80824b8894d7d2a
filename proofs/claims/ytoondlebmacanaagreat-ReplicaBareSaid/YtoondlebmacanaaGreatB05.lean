/- A part of the proof of ReplicaBare+ReplicaWindow. -/
import Derived.Test.YtoondlebmacanaaGreatB04
set_option linter.unusedSimpArgs false
set_option linter.unusedVariables false
set_option maxHeartbeats 16000000
set_option maxRecDepth 100000
section
namespace Go.Proofs.YtoondlebmacanaaGreat
open Go.Ab Go.RowKit
abbrev freshV (host:Int) (m:MchD) (gen limit:Int):V:=.tup [.st (RepD.row (if zBR host m gen limit then zDv host m gen limit else zRep)),.bool (zBR host m gen limit)]
theorem zGJ (host:Int) (m:MchD) (gen limit:Int) (h0:0≤m.given) (h1:m.given≤4294967295):zAD Tryz.prog 59 [iv host,.st m.row,lv gen,iv limit] (freshV host m gen limit):=by
 cases hd:zNH limit with
 | false =>
  have hf:zBR host m gen limit=false:=by simp [zBR,hd]
  refine sZ Tryz.func59 Tryz.ntmps59 ?_;exact wx1 (qX2 (zLt limit) (zFx m h0 h1)) trivial (kX2 @hd @hf)
 | true =>
  refine sX Tryz.func59 Tryz.ntmps59 ?_;intros;apply wr
  (refine au1 @hd ?_;intros;apply wr)
  repeat' ((first|(refine zAC rfl (fun h=>?_) (fun h=>?_)<;>(first|(simp [hd] at h;done)|(simp [hd] at h)|skip)<;>(first|(exfalso;omega)|skip))|refine cc1 (zLt limit) @hd ?_|refine cc1 (zFx m h0 h1) @hd ?_|exact rt1 @hd|fail)<;>(refine au1 @hd ?_;intros;apply wr))
  ·rename_i h _;have hf:zBR host m gen limit=false:=by simp [zBR,hd];grind
   refine zAA ?_;simp [hf]
  rename_i h _;have hf:zBR host m gen limit=true:=by simp [zBR,hd];grind
  refine zAA ?_;simp [hf,zDv]
abbrev zSh (host:Int) (m:MchD) (gen limit:Int):V:=.tup [.st (RepD.row (if zBR host m gen limit then zDm host m gen limit else zRep)),.bool (zBR host m gen limit)]
abbrev zUT (host:Int) (m:MchD) (gen limit:Int):V:=.tup [.st (RepD.row (if zBR host m gen limit then zM6 host m gen limit else zRep)),.bool (zBR host m gen limit)]
theorem zK2 (host:Int) (m:MchD) (gen limit:Int) (h0:0≤m.given) (h1:m.given≤4294967295) (hm:m.mem.length≤100000):zAD Tryz.prog 22 [iv host,.st m.row,lv gen,iv limit] (zSh host m gen limit):=by
 cases hf:zBR host m gen limit with
 | false =>
  refine sZ Tryz.func22 Tryz.ntmps22 ?_;exact wx1 (qX1 (zGJ host m gen limit h0 h1)) trivial @hf
 | true =>
  refine sZ Tryz.func22 Tryz.ntmps22 ?_;exact wx1 (qX3 (zGJ host m gen limit h0 h1) (zQC m hm) (zKC m.count)) trivial (kX3 @hf @zDv.eq_1 @zDm.eq_1)
theorem zOG (host:Int) (m:MchD) (gen limit:Int) (h0:0≤m.given) (h1:m.given≤4294967295) (hm:m.mem.length≤100000):zAD Tryz.prog 26 [iv host,.st m.row,lv gen,iv limit] (zUT host m gen limit):=by
 cases hf:zBR host m gen limit with
 | false =>
  refine sZ Tryz.func26 Tryz.ntmps26 ?_;exact wx1 (qX1 (zGJ host m gen limit h0 h1)) trivial @hf
 | true =>
  refine sZ Tryz.func26 Tryz.ntmps26 ?_;exact wx1 (qX3 (zGJ host m gen limit h0 h1) (zQS m hm) (zKC m.count)) trivial (kX3 @hf @zDv.eq_1 @zM6.eq_1)
end Go.Proofs.YtoondlebmacanaaGreat
end
