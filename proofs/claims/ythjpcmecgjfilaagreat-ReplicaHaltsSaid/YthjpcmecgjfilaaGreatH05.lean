/- A part of the proof of ReplicaHalts. -/
import Derived.Test.YthjpcmecgjfilaaGreatH04
set_option linter.unusedSimpArgs false
set_option linter.unusedVariables false
set_option maxHeartbeats 16000000
set_option maxRecDepth 100000
section
namespace Go.Proofs.YthjpcmecgjfilaaGreat
open Go.Ab Go.RowKit Tryz
theorem zFf (xs:List (List V)) (t:Bool) (z:Nat) (hz:z=4\/(z=0/\xs=[])) (hb:xs.length<=100000):zAD prog 66 [.sl z t xs] (.new 84 4 xs):=by
 refine sX func66 ntmps66 ?_;intros;apply wr;refine ⟨?_,fun hx=>?_⟩
 ·refine au ?_;intros;apply wr;refine cF0 rfl ?_;refine aum1 @maxLen.eq_1 ?_;intros;apply wr;refine zAB ?_;simp
 subst hx;refine au ?_;intros;apply wr;refine gT00 rfl ?_;intros;apply wr;refine zAT 2 84 4 (by decide) rfl ?_
 refine zAB ?_;simp
theorem zOO (xs:List (List V)) (t:Bool) (z:Nat) (hz:z=3\/(z=0/\xs=[])) (hb:xs.length<=100000):zAD prog 67 [.sl z t xs] (.new 72 3 xs):=by
 refine sX func67 ntmps67 ?_;intros;apply wr;refine ⟨?_,fun hx=>?_⟩
 ·refine au ?_;intros;apply wr;refine cF0 rfl ?_;refine aum1 @maxLen.eq_1 ?_;intros;apply wr;refine zAB ?_;simp
 subst hx;refine au ?_;intros;apply wr;refine gT00 rfl ?_;intros;apply wr;refine zAT 2 72 3 (by decide) rfl ?_
 refine zAB ?_;simp
theorem zLm (xs:List (List V)) (t:Bool) (z:Nat) (hz:z=4\/(z=0/\xs=[])) (hb:xs.length<=100000):zAD prog 68 [.sl z t xs] (.new 90 4 xs):=by
 refine sX func68 ntmps68 ?_;intros;apply wr;refine ⟨?_,fun hx=>?_⟩
 ·refine au ?_;intros;apply wr;refine cF0 rfl ?_;refine aum1 @maxLen.eq_1 ?_;intros;apply wr;refine zAB ?_;simp
 subst hx;refine au ?_;intros;apply wr;refine gT00 rfl ?_;intros;apply wr;refine zAT 2 90 4 (by decide) rfl ?_
 refine zAB ?_;simp
theorem cloneS (xs:List (List V)) (t:Bool) (z:Nat) (hz:z=3\/(z=0/\xs=[])) (hb:xs.length<=100000):zAD prog 69 [.sl z t xs] (.new 150 3 xs):=by
 refine sX func69 ntmps69 ?_;intros;apply wr;refine ⟨?_,fun hx=>?_⟩
 ·refine au ?_;intros;apply wr;refine cF0 rfl ?_;refine aum1 @maxLen.eq_1 ?_;intros;apply wr;refine zAB ?_;simp
 subst hx;refine au ?_;intros;apply wr;refine gT00 rfl ?_;intros;apply wr;refine zAT 2 150 3 (by decide) rfl ?_
 refine zAB ?_;simp
theorem cloneY (xs:List (List V)) (t:Bool) (z:Nat) (hz:z=4\/(z=0/\xs=[])) (hb:xs.length<=100000):zAD prog 71 [.sl z t xs] (.new 154 4 xs):=by
 refine sX func71 ntmps71 ?_;intros;apply wr;refine ⟨?_,fun hx=>?_⟩
 ·refine au ?_;intros;apply wr;refine cF0 rfl ?_;refine aum1 @maxLen.eq_1 ?_;intros;apply wr;refine zAB ?_;simp
 subst hx;refine au ?_;intros;apply wr;refine gT00 rfl ?_;intros;apply wr;refine zAT 2 154 4 (by decide) rfl ?_
 refine zAB ?_;simp
theorem zAt (l:List EntD):(ents l).length=l.length:=by simp [ents]
theorem zGb (l:List EvD):(evs l).length=l.length:=by simp [evs]
theorem zKI (r:RecD) (h1:r.m.mem.length<=100000) (h2:r.log.length<=100000) (h3:r.queue.length<=100000):zAD prog 72 [.st r.row] (.st r.row):=by
 refine sZ func72 ntmps72 ?_;exact wx (qX3 (zCH (ints .u32 r.m.mem) false 1 (.inl rfl) (by rw [zAN];exact h1)) (zFf (ents r.log) false 4 (.inl rfl) (by rw [zAt];exact h2)) (zOO (evs r.queue) false 3 (.inl rfl) (by rw [zGb];exact h3))) trivial
theorem zG9 (r:RplD) (h1:r.m.mem.length<=100000) (h2:r.log.length<=100000):zAD prog 124 [.st r.row] (.st r.row):=by
 refine sZ func124 ntmps124 ?_;exact wx (qX2 (zCH (ints .u32 r.m.mem) false 1 (.inl rfl) (by rw [zAN];exact h1)) (zFf (ents r.log) false 4 (.inl rfl) (by rw [zAt];exact h2))) trivial
theorem zPq (m:MchD) (h1:m.mem.length<=100000):zAD prog 59 [.st m.row] (.st (RecD.row ⟨m,0,[],[]⟩)):=by
 refine sZ func59 ntmps59 ?_;exact wx1 (qX1 (zKI ⟨m,0,[],[]⟩ h1 (by simp) (by simp))) trivial (kX2 @ents.eq_1 @evs.eq_1)
theorem zP3 (m:MchD) (h1:m.mem.length<=100000):zAD prog 65 [.st m.row] (.st (RplD.row ⟨m,[],m.count,0⟩)):=by
 refine sZ func65 ntmps65 ?_;exact wx1 (qX1 (zG9 ⟨m,[],m.count,0⟩ h1 (by simp))) trivial @ents.eq_1
theorem zKP (n:Int):zAD prog 60 [lv n] (.tup [.st (SndD.row ⟨1,n,n,[]⟩),.st (RcvD.row ⟨1,n,[]⟩)]):=by
 refine sZ func60 ntmps60 ?_;exact wx1 trivial trivial (kX2 @segs.eq_1 @zGX.eq_1)
theorem zJe (d:DetD):zAD prog 145 [.st d.row] (.bool (decide (1<=d.limit)&&decide (d.limit<=20)&&decide (0<=d.silent)&&decide (d.silent<=d.limit))):=by
 refine sZ func145 ntmps145 ?_;exact wx trivial trivial
theorem zL1 (k:Int):zAD prog 111 [iv k] (.tup [.st (DetD.row (if zHV k then ⟨k,0,0⟩ else zDet)),.bool (zHV k)]):=by
 refine sZ func111 ntmps111 ?_;exact wx1 (qX1 (zJe ⟨k,0,0⟩)) trivial (kX2 @zHV.eq_1 @zDet.eq_1)
abbrev freshV (host:Int) (m:MchD) (gen limit:Int):V:=.tup [.st (RepD.row (if zBL host m gen limit then zEJ host m gen limit else zRep)),.bool (zBL host m gen limit)]
theorem zF7 (host:Int) (m:MchD) (gen limit:Int) (h0:0<=m.given) (h1:m.given<=4294967295):zAD prog 58 [iv host,.st m.row,lv gen,iv limit] (freshV host m gen limit):=by
 cases hd:zHV limit with
 | false =>
  have hf:zBL host m gen limit=false:=by simp [zBL,hd]
  refine sZ func58 ntmps58 ?_;exact wx1 (qX2 (zL1 limit) (zH7 m h0 h1)) trivial (kX2 @hd @hf)
 | true =>
  refine sX func58 ntmps58 ?_;intros;apply wr
  (refine au1 @hd ?_;intros;apply wr)
  repeat' ((first|(refine zAC rfl (fun h=>?_) (fun h=>?_)<;>(first|(simp [hd] at h;done)|(simp [hd] at h)|skip)<;>(first|(exfalso;omega)|skip))|refine cc1 (zL1 limit) @hd ?_|refine cc1 (zH7 m h0 h1) @hd ?_|exact rt1 @hd|fail)<;>(refine au1 @hd ?_;intros;apply wr))
  ·rename_i h _;have hf:zBL host m gen limit=false:=by simp [zBL,hd];grind
   refine zAB ?_;simp [hf]
  rename_i h _;have hf:zBL host m gen limit=true:=by simp [zBL,hd];grind
  refine zAB ?_;simp [hf,zEJ]
abbrev zU5 (host:Int) (m:MchD) (gen limit:Int):V:=.tup [.st (RepD.row (if zBL host m gen limit then zCy host m gen limit else zRep)),.bool (zBL host m gen limit)]
abbrev backV (host:Int) (m:MchD) (gen limit:Int):V:=.tup [.st (RepD.row (if zBL host m gen limit then zEF host m gen limit else zRep)),.bool (zBL host m gen limit)]
theorem zPi (host:Int) (m:MchD) (gen limit:Int) (h0:0<=m.given) (h1:m.given<=4294967295) (hm:m.mem.length<=100000):zAD prog 23 [iv host,.st m.row,lv gen,iv limit] (zU5 host m gen limit):=by
 cases hf:zBL host m gen limit with
 | false =>
  refine sZ func23 ntmps23 ?_;exact wx1 (qX1 (zF7 host m gen limit h0 h1)) trivial @hf
 | true =>
  refine sZ func23 ntmps23 ?_;exact wx1 (qX3 (zF7 host m gen limit h0 h1) (zPq m hm) (zKP m.count)) trivial (kX3 @hf @zEJ.eq_1 @zCy.eq_1)
theorem zT2 (host:Int) (m:MchD) (gen limit:Int) (h0:0<=m.given) (h1:m.given<=4294967295) (hm:m.mem.length<=100000):zAD prog 27 [iv host,.st m.row,lv gen,iv limit] (backV host m gen limit):=by
 cases hf:zBL host m gen limit with
 | false =>
  refine sZ func27 ntmps27 ?_;exact wx1 (qX1 (zF7 host m gen limit h0 h1)) trivial @hf
 | true =>
  refine sZ func27 ntmps27 ?_;exact wx1 (qX3 (zF7 host m gen limit h0 h1) (zP3 m hm) (zKP m.count)) trivial (kX3 @hf @zEJ.eq_1 @zEF.eq_1)
end Go.Proofs.YthjpcmecgjfilaaGreat
end
