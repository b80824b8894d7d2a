/- A part of the proof of ReplicaFollows. -/
import Derived.Test.YthjpcmecgjfilaaGreatB06
set_option linter.unusedSimpArgs false
set_option linter.unusedVariables false
set_option maxHeartbeats 16000000
set_option maxRecDepth 100000
section
namespace Go.Proofs.YthjpcmecgjfilaaGreat
open Go.Ab Go.RowKit Tryz
theorem zCD (xs:List (List V)) (t:Bool) (z:Nat) (hz:z=1\/(z=0/\xs=[])) (hb:xs.length<=100000):zAD prog 91 [.sl z t xs] (.new 25 1 xs):=by
 refine sX func91 ntmps91 ?_;intros;apply wr;refine ⟨?_,fun hx=>?_⟩
 ·refine au ?_;intros;apply wr;refine cF0 rfl ?_;refine aum1 @maxLen.eq_1 ?_;intros;apply wr;refine zAB ?_;simp
 subst hx;refine au ?_;intros;apply wr;refine gT00 rfl ?_;intros;apply wr;refine zAT 2 25 1 (by decide) rfl ?_
 refine zAB ?_;simp
theorem zAM (k:IntKind) (l:List Int):(ints k l).length=l.length:=by simp [ints]
theorem zBv (l:List Int):zAD prog 157 [memV l] (iv (pagesD l)):=by
 refine sZ func157 ntmps157 ?_;exact wx1 trivial trivial (kX2 @zAM @pagesD.eq_1)
theorem zOj (s:Str):zAD prog 199 [.st [.str s]] (.bool (decide ((s.length:Int)<=16))):=by
 refine sZ func199 ntmps199 ?_;exact wx trivial trivial
theorem zQi (t:TimD):zAD prog 200 [.st t.row] (.bool (timMay t)):=by
 refine sZ func200 ntmps200 ?_;exact wx1 trivial trivial @timMay.eq_1
theorem zOh (d:DskD):zAD prog 259 [.st d.row] (.bool (zHx d)):=by
 refine sZ func259 ntmps259 ?_;exact wx1 trivial trivial @zHx.eq_1
theorem zOo (d:DskD) (p:Int):zAD prog 201 [.st d.row,iv p] (.bool (dskMay d p)):=by
 refine sZ func201 ntmps201 ?_;exact wx1 (qX1 (zOh _)) trivial @dskMay.eq_1
theorem zPi (n:NicD) (p:Int):zAD prog 202 [.st n.row,iv p] (.bool (nicMay n p)):=by
 refine sZ func202 ntmps202 ?_;exact wx1 trivial trivial @nicMay.eq_1
theorem u8a (x:Int):0<=IntKind.u8.wrap x:=by rw [IntKind.wrap_u8];omega
theorem u8b (x:Int):IntKind.u8.wrap x<256:=by rw [IntKind.wrap_u8];omega
theorem lit8f:∀ k:Fin 256,(([0,1,2,2,3,3,3,3,4,4,4,4,4,4,4,4,5,5,5,5,5,5,5,5,5,5,5,5,5,5,5,5,6,6,6,6,6,6,6,6,6,6,6,6,6,6,6,6,6,6,6,6,6,6,6,6,6,6,6,6,6,6,6,6,7,7,7,7,7,7,7,7,7,7,7,7,7,7,7,7,7,7,7,7,7,7,7,7,7,7,7,7,7,7,7,7,7,7,7,7,7,7,7,7,7,7,7,7,7,7,7,7,7,7,7,7,7,7,7,7,7,7,7,7,7,7,7,7,8,8,8,8,8,8,8,8,8,8,8,8,8,8,8,8,8,8,8,8,8,8,8,8,8,8,8,8,8,8,8,8,8,8,8,8,8,8,8,8,8,8,8,8,8,8,8,8,8,8,8,8,8,8,8,8,8,8,8,8,8,8,8,8,8,8,8,8,8,8,8,8,8,8,8,8,8,8,8,8,8,8,8,8,8,8,8,8,8,8,8,8,8,8,8,8,8,8,8,8,8,8,8,8,8,8,8,8,8,8,8,8,8,8,8,8,8,8,8,8,8,8,8,8,8,8,8,8]:List UInt8)[k.val]?.getD 0).toNat=Lib.bitLen k.val:=by decide +kernel
theorem lit8 (x:Int):(([0,1,2,2,3,3,3,3,4,4,4,4,4,4,4,4,5,5,5,5,5,5,5,5,5,5,5,5,5,5,5,5,6,6,6,6,6,6,6,6,6,6,6,6,6,6,6,6,6,6,6,6,6,6,6,6,6,6,6,6,6,6,6,6,7,7,7,7,7,7,7,7,7,7,7,7,7,7,7,7,7,7,7,7,7,7,7,7,7,7,7,7,7,7,7,7,7,7,7,7,7,7,7,7,7,7,7,7,7,7,7,7,7,7,7,7,7,7,7,7,7,7,7,7,7,7,7,7,8,8,8,8,8,8,8,8,8,8,8,8,8,8,8,8,8,8,8,8,8,8,8,8,8,8,8,8,8,8,8,8,8,8,8,8,8,8,8,8,8,8,8,8,8,8,8,8,8,8,8,8,8,8,8,8,8,8,8,8,8,8,8,8,8,8,8,8,8,8,8,8,8,8,8,8,8,8,8,8,8,8,8,8,8,8,8,8,8,8,8,8,8,8,8,8,8,8,8,8,8,8,8,8,8,8,8,8,8,8,8,8,8,8,8,8,8,8,8,8,8,8,8,8,8,8,8,8]:List UInt8)[(IntKind.u8.wrap x).toNat]?.getD 0).toNat=Lib.bitLen (IntKind.u8.wrap x).toNat:=lit8f ⟨(IntKind.u8.wrap x).toNat,by have:=u8a x;have:=u8b x;omega⟩
theorem lit8g (x:Int) (h:(IntKind.u8.wrap x).toNat<([0,1,2,2,3,3,3,3,4,4,4,4,4,4,4,4,5,5,5,5,5,5,5,5,5,5,5,5,5,5,5,5,6,6,6,6,6,6,6,6,6,6,6,6,6,6,6,6,6,6,6,6,6,6,6,6,6,6,6,6,6,6,6,6,7,7,7,7,7,7,7,7,7,7,7,7,7,7,7,7,7,7,7,7,7,7,7,7,7,7,7,7,7,7,7,7,7,7,7,7,7,7,7,7,7,7,7,7,7,7,7,7,7,7,7,7,7,7,7,7,7,7,7,7,7,7,7,7,8,8,8,8,8,8,8,8,8,8,8,8,8,8,8,8,8,8,8,8,8,8,8,8,8,8,8,8,8,8,8,8,8,8,8,8,8,8,8,8,8,8,8,8,8,8,8,8,8,8,8,8,8,8,8,8,8,8,8,8,8,8,8,8,8,8,8,8,8,8,8,8,8,8,8,8,8,8,8,8,8,8,8,8,8,8,8,8,8,8,8,8,8,8,8,8,8,8,8,8,8,8,8,8,8,8,8,8,8,8,8,8,8,8,8,8,8,8,8,8,8,8,8,8,8,8,8,8]:List UInt8).length):(([0,1,2,2,3,3,3,3,4,4,4,4,4,4,4,4,5,5,5,5,5,5,5,5,5,5,5,5,5,5,5,5,6,6,6,6,6,6,6,6,6,6,6,6,6,6,6,6,6,6,6,6,6,6,6,6,6,6,6,6,6,6,6,6,7,7,7,7,7,7,7,7,7,7,7,7,7,7,7,7,7,7,7,7,7,7,7,7,7,7,7,7,7,7,7,7,7,7,7,7,7,7,7,7,7,7,7,7,7,7,7,7,7,7,7,7,7,7,7,7,7,7,7,7,7,7,7,7,8,8,8,8,8,8,8,8,8,8,8,8,8,8,8,8,8,8,8,8,8,8,8,8,8,8,8,8,8,8,8,8,8,8,8,8,8,8,8,8,8,8,8,8,8,8,8,8,8,8,8,8,8,8,8,8,8,8,8,8,8,8,8,8,8,8,8,8,8,8,8,8,8,8,8,8,8,8,8,8,8,8,8,8,8,8,8,8,8,8,8,8,8,8,8,8,8,8,8,8,8,8,8,8,8,8,8,8,8,8,8,8,8,8,8,8,8,8,8,8,8,8,8,8,8,8,8,8]:List UInt8)[(IntKind.u8.wrap x).toNat]'h).toNat=Lib.bitLen (IntKind.u8.wrap x).toNat:=by
 rw [<- lit8 x,zWH h];rfl
theorem fd16 (x:Int):x.fdiv (2 ^ min 16 IntKind.u32.bits)=x / 65536:=by rw [zWQ _ (by decide)];rfl
theorem fd8 (x:Int):x.fdiv (2 ^ min 8 IntKind.u32.bits)=x / 256:=by rw [zWQ _ (by decide)];rfl
theorem bl_w (x:Int) (k:Nat) (hk:k<=24) (h0:0<=x) (h1:x<256):IntKind.i64.wrap ((k:Int)+IntKind.i64.wrap (Lib.bitLen (IntKind.u8.wrap x).toNat))=k+Lib.bitLen x.toNat:=by
 have hw:IntKind.u8.wrap x=x:=by rw [IntKind.wrap_u8];omega
 rw [hw];have:=Lib.bitLen_le x.toNat 8 (by omega) (by omega)
 rw [zAA (n:=(Lib.bitLen x.toNat:Int)) (by omega) (by omega),zAA (by omega) (by omega)]
theorem zDk:IntKind.i64.wrap 16=16:=by decide
theorem zDl:IntKind.i64.wrap 24=24:=by decide
theorem zGp:IntKind.i64.wrap 8=8:=by decide
theorem zOY (x:Int) (h0:0<=x) (h1:x<=4294967295):zAD prog 260 [uv x] (iv (bitLen x)):=by
 refine sX func260 ntmps260 ?_;(repeat intro K hK);apply wr
 repeat' (first|(with_reducible first|refine zAw fun K hK=>?_|refine zAk ?_)|((with_reducible first|refine zAf (by kernel_rfl) ?_|refine zA1 ?_|refine zAy ?_|refine zA0 ?_|refine zAz ?_|refine zAx ?_|refine zAv ?_);simp [u8a,u8b,lit8,fd16,fd8,zDk,zDl,zGp])|((repeat ((fail_if_success ((with_reducible refine hK _ ?_)));clear hK));(with_reducible refine hK _ ?_);clear hK)|refine And.intro (by first|omega|assumption|grind) ?_|(refine zAC rfl (fun h=>?_) (fun h=>?_)<;>(first|(simp [u8a,u8b,lit8,fd16,fd8,zDk,zDl,zGp] at h;done)|(simp [u8a,u8b,lit8,fd16,fd8,zDk,zDl,zGp] at h)|skip)<;>(first|(exfalso;omega)|skip))|(refine zAB ?_;simp [u8a,u8b,lit8,fd16,fd8,zDk,zDl,zGp];(first|done|(simp_all [u8a,u8b,lit8,fd16,fd8,zDk,zDl,zGp];done)|(simp_all [u8a,u8b,lit8,fd16,fd8,zDk,zDl,zGp];omega)|grind);done)|(refine zAI ?_;refine zAB ?_;simp [u8a,u8b,lit8,fd16,fd8,zDk,zDl,zGp];(first|done|(simp_all [u8a,u8b,lit8,fd16,fd8,zDk,zDl,zGp];done)|(simp_all [u8a,u8b,lit8,fd16,fd8,zDk,zDl,zGp];omega)|grind);done)|(refine zAB ?_;simp [u8a,u8b,lit8,fd16,fd8,zDk,zDl,zGp];done)|(refine zAI ?_;refine zAB ?_;simp [u8a,u8b,lit8,fd16,fd8,zDk,zDl,zGp];done))
 all_goals refine zAB ?_
 all_goals simp [lit8g]
 ·skip
  have e:=bl_w (x / 65536 / 256) 24 (by omega) (by omega) (by omega)
  simp at e;rw [e];have e2:=Lib.bitLen_shift24 x.toNat (by omega) (by omega)
  unfold bitLen;rw [e2,show (x / 65536 / 256).toNat=x.toNat / 16777216 by omega]
  simp
 ·skip
  have e:=bl_w (x / 65536) 16 (by omega) (by omega) (by omega)
  simp at e;rw [e];have e2:=Lib.bitLen_shift16 x.toNat (by omega) (by omega)
  unfold bitLen;rw [e2,show (x / 65536).toNat=x.toNat / 65536 by omega]
  simp
 ·skip
  have e:=bl_w (x / 256) 8 (by omega) (by omega) (by omega)
  simp at e;rw [e];have e2:=Lib.bitLen_shift8 x.toNat (by omega) (by omega)
  unfold bitLen;rw [e2,show (x / 256).toNat=x.toNat / 256 by omega]
  simp
 skip
 have e:=bl_w x 0 (by omega) (by omega) (by omega)
 simp at e;rw [e];rfl
theorem zOR (a g p:Int) (h0:0<=g) (h1:g<=4294967295):zAD prog 203 [.st [uv a,uv g],iv p] (.bool (balMay g p)):=by
 refine sZ func203 ntmps203 ?_;exact wx1 (qX1 (zOY _ h0 h1)) trivial @balMay.eq_1
theorem zPb (m:MchD) (h0:0<=m.given) (h1:m.given<=4294967295):zAD prog 158 [.st m.row] (.bool (decide ((m.keys.length:Int)<=16)&&timMay m.tim&&dskMay m.dk (pagesD m.mem)&&nicMay m.nc (pagesD m.mem)&&balMay m.given (pagesD m.mem))):=by
 refine sZ func158 ntmps158 ?_;exact wx (qX6 (zBv m.mem) (zOj m.keys) (zQi m.tim) (zOo m.dk (pagesD m.mem)) (zPi m.nc (pagesD m.mem)) (zOR m.tgt m.given (pagesD m.mem) h0 h1)) trivial
theorem zIC (m:MchD) (h0:0<=m.given) (h1:m.given<=4294967295):zAD prog 112 [.st m.row] (.bool (mayD m)):=by
 refine sZ func112 ntmps112 ?_;exact wx1 (qX2 (zBv m.mem) (zPb m h0 h1)) trivial @mayD.eq_1
theorem zEe (xs:List (List V)) (t:Bool) (z:Nat) (hz:z=4\/(z=0/\xs=[])) (hb:xs.length<=100000):zAD prog 66 [.sl z t xs] (.new 84 4 xs):=by
 refine sX func66 ntmps66 ?_;intros;apply wr;refine ⟨?_,fun hx=>?_⟩
 ·refine au ?_;intros;apply wr;refine cF0 rfl ?_;refine aum1 @maxLen.eq_1 ?_;intros;apply wr;refine zAB ?_;simp
 subst hx;refine au ?_;intros;apply wr;refine gT00 rfl ?_;intros;apply wr;refine zAT 2 84 4 (by decide) rfl ?_
 refine zAB ?_;simp
theorem zLy (xs:List (List V)) (t:Bool) (z:Nat) (hz:z=3\/(z=0/\xs=[])) (hb:xs.length<=100000):zAD prog 67 [.sl z t xs] (.new 72 3 xs):=by
 refine sX func67 ntmps67 ?_;intros;apply wr;refine ⟨?_,fun hx=>?_⟩
 ·refine au ?_;intros;apply wr;refine cF0 rfl ?_;refine aum1 @maxLen.eq_1 ?_;intros;apply wr;refine zAB ?_;simp
 subst hx;refine au ?_;intros;apply wr;refine gT00 rfl ?_;intros;apply wr;refine zAT 2 72 3 (by decide) rfl ?_
 refine zAB ?_;simp
theorem zLx (xs:List (List V)) (t:Bool) (z:Nat) (hz:z=4\/(z=0/\xs=[])) (hb:xs.length<=100000):zAD prog 68 [.sl z t xs] (.new 90 4 xs):=by
 refine sX func68 ntmps68 ?_;intros;apply wr;refine ⟨?_,fun hx=>?_⟩
 ·refine au ?_;intros;apply wr;refine cF0 rfl ?_;refine aum1 @maxLen.eq_1 ?_;intros;apply wr;refine zAB ?_;simp
 subst hx;refine au ?_;intros;apply wr;refine gT00 rfl ?_;intros;apply wr;refine zAT 2 90 4 (by decide) rfl ?_
 refine zAB ?_;simp
theorem cloneS (xs:List (List V)) (t:Bool) (z:Nat) (hz:z=3\/(z=0/\xs=[])) (hb:xs.length<=100000):zAD prog 69 [.sl z t xs] (.new 150 3 xs):=by
 refine sX func69 ntmps69 ?_;intros;apply wr;refine ⟨?_,fun hx=>?_⟩
 ·refine au ?_;intros;apply wr;refine cF0 rfl ?_;refine aum1 @maxLen.eq_1 ?_;intros;apply wr;refine zAB ?_;simp
 subst hx;refine au ?_;intros;apply wr;refine gT00 rfl ?_;intros;apply wr;refine zAT 2 150 3 (by decide) rfl ?_
 refine zAB ?_;simp
theorem cloneY (xs:List (List V)) (t:Bool) (z:Nat) (hz:z=4\/(z=0/\xs=[])) (hb:xs.length<=100000):zAD prog 71 [.sl z t xs] (.new 154 4 xs):=by
 refine sX func71 ntmps71 ?_;intros;apply wr;refine ⟨?_,fun hx=>?_⟩
 ·refine au ?_;intros;apply wr;refine cF0 rfl ?_;refine aum1 @maxLen.eq_1 ?_;intros;apply wr;refine zAB ?_;simp
 subst hx;refine au ?_;intros;apply wr;refine gT00 rfl ?_;intros;apply wr;refine zAT 2 154 4 (by decide) rfl ?_
 refine zAB ?_;simp
theorem zAn (l:List EntD):(ents l).length=l.length:=by simp [ents]
theorem zFQ (l:List EvD):(evs l).length=l.length:=by simp [evs]
theorem zKS (r:RecD) (h1:r.m.mem.length<=100000) (h2:r.log.length<=100000) (h3:r.queue.length<=100000):zAD prog 72 [.st r.row] (.st r.row):=by
 refine sZ func72 ntmps72 ?_;exact wx (qX3 (zCD (ints .u32 r.m.mem) false 1 (.inl rfl) (by rw [zAM];exact h1)) (zEe (ents r.log) false 4 (.inl rfl) (by rw [zAn];exact h2)) (zLy (evs r.queue) false 3 (.inl rfl) (by rw [zFQ];exact h3))) trivial
theorem zHH (r:RplD) (h1:r.m.mem.length<=100000) (h2:r.log.length<=100000):zAD prog 124 [.st r.row] (.st r.row):=by
 refine sZ func124 ntmps124 ?_;exact wx (qX2 (zCD (ints .u32 r.m.mem) false 1 (.inl rfl) (by rw [zAM];exact h1)) (zEe (ents r.log) false 4 (.inl rfl) (by rw [zAn];exact h2))) trivial
theorem zP5 (m:MchD) (h1:m.mem.length<=100000):zAD prog 59 [.st m.row] (.st (RecD.row ⟨m,0,[],[]⟩)):=by
 refine sZ func59 ntmps59 ?_;exact wx1 (qX1 (zKS ⟨m,0,[],[]⟩ h1 (by simp) (by simp))) trivial (kX2 @ents.eq_1 @evs.eq_1)
theorem zQK (m:MchD) (h1:m.mem.length<=100000):zAD prog 65 [.st m.row] (.st (RplD.row ⟨m,[],m.count,0⟩)):=by
 refine sZ func65 ntmps65 ?_;exact wx1 (qX1 (zHH ⟨m,[],m.count,0⟩ h1 (by simp))) trivial @ents.eq_1
theorem zKZ (n:Int):zAD prog 60 [lv n] (.tup [.st (SndD.row ⟨1,n,n,[]⟩),.st (RcvD.row ⟨1,n,[]⟩)]):=by
 refine sZ func60 ntmps60 ?_;exact wx1 trivial trivial (kX2 @segs.eq_1 @zGg.eq_1)
theorem zJl (d:DetD):zAD prog 145 [.st d.row] (.bool (decide (1<=d.limit)&&decide (d.limit<=20)&&decide (0<=d.silent)&&decide (d.silent<=d.limit))):=by
 refine sZ func145 ntmps145 ?_;exact wx trivial trivial
theorem zMF (k:Int):zAD prog 111 [iv k] (.tup [.st (DetD.row (if zHa k then ⟨k,0,0⟩ else zDet)),.bool (zHa k)]):=by
 refine sZ func111 ntmps111 ?_;exact wx1 (qX1 (zJl ⟨k,0,0⟩)) trivial (kX2 @zHa.eq_1 @zDet.eq_1)
end Go.Proofs.YthjpcmecgjfilaaGreat
end
