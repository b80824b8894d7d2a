/- A part of the proof of ReplicaBare+ReplicaWindow. -/
import Derived.Test.YtoondlebmacanaaGreatB03
import Derived.Shelf.Strings.Builder1
set_option linter.unusedSimpArgs false
set_option linter.unusedVariables false
set_option maxHeartbeats 16000000
set_option maxRecDepth 100000
section
namespace Go.Proofs.YtoondlebmacanaaGreat
open Go.Ab Go.RowKit
theorem zBi (xs:List (List V)) (t:Bool) (z:Nat) (hz:z=1∨(z=0∧xs=[])) (hb:xs.length≤100000):zAD Tryz.prog 79 [.sl z t xs] (.new 25 1 xs):=by
 refine sX Tryz.func79 Tryz.ntmps79 ?_;intros;apply wr;refine ⟨?_,fun hx=>?_⟩
 ·refine au ?_;intros;apply wr;refine cF0 rfl ?_;refine aum1 @maxLen.eq_1 ?_;intros;apply wr;refine zAA ?_;simp
 subst hx;refine au ?_;intros;apply wr;refine gT00 rfl ?_;intros;apply wr;refine zAW 2 25 1 (by decide) rfl ?_
 refine zAA ?_;simp
theorem zAN (k:IntKind) (l:List Int):(ints k l).length=l.length:=by simp [ints]
theorem zBz (l:List Int):zAD Tryz.prog 170 [memV l] (iv (pagesD l)):=by
 refine sZ Tryz.func170 Tryz.ntmps170 ?_;exact wx1 trivial trivial (kX2 @zAN @pagesD.eq_1)
theorem zOW (s:Str):zAD Tryz.prog 223 [.st [.str s]] (.bool (decide ((s.length:Int)≤16))):=by
 refine sZ Tryz.func223 Tryz.ntmps223 ?_;exact wx trivial trivial
theorem zQm (t:TimD):zAD Tryz.prog 224 [.st t.row] (.bool (timMay t)):=by
 refine sZ Tryz.func224 Tryz.ntmps224 ?_;exact wx1 trivial trivial @timMay.eq_1
theorem zOU (d:DskD):zAD Tryz.prog 286 [.st d.row] (.bool (zHd d)):=by
 refine sZ Tryz.func286 Tryz.ntmps286 ?_;exact wx1 trivial trivial @zHd.eq_1
theorem zOf (d:DskD) (p:Int):zAD Tryz.prog 225 [.st d.row,iv p] (.bool (dskMay d p)):=by
 refine sZ Tryz.func225 Tryz.ntmps225 ?_;exact wx1 (qX1 (zOU _)) trivial @dskMay.eq_1
theorem zPa (n:NicD) (p:Int):zAD Tryz.prog 226 [.st n.row,iv p] (.bool (nicMay n p)):=by
 refine sZ Tryz.func226 Tryz.ntmps226 ?_;exact wx1 trivial trivial @nicMay.eq_1
theorem u8a (x:Int):0≤IntKind.u8.wrap x:=by rw [IntKind.wrap_u8];omega
theorem u8b (x:Int):IntKind.u8.wrap x<256:=by rw [IntKind.wrap_u8];omega
theorem lit8f:∀ k:Fin 256,(([0,1,2,2,3,3,3,3,4,4,4,4,4,4,4,4,5,5,5,5,5,5,5,5,5,5,5,5,5,5,5,5,6,6,6,6,6,6,6,6,6,6,6,6,6,6,6,6,6,6,6,6,6,6,6,6,6,6,6,6,6,6,6,6,7,7,7,7,7,7,7,7,7,7,7,7,7,7,7,7,7,7,7,7,7,7,7,7,7,7,7,7,7,7,7,7,7,7,7,7,7,7,7,7,7,7,7,7,7,7,7,7,7,7,7,7,7,7,7,7,7,7,7,7,7,7,7,7,8,8,8,8,8,8,8,8,8,8,8,8,8,8,8,8,8,8,8,8,8,8,8,8,8,8,8,8,8,8,8,8,8,8,8,8,8,8,8,8,8,8,8,8,8,8,8,8,8,8,8,8,8,8,8,8,8,8,8,8,8,8,8,8,8,8,8,8,8,8,8,8,8,8,8,8,8,8,8,8,8,8,8,8,8,8,8,8,8,8,8,8,8,8,8,8,8,8,8,8,8,8,8,8,8,8,8,8,8,8,8,8,8,8,8,8,8,8,8,8,8,8,8,8,8,8,8,8]:List UInt8)[k.val]?.getD 0).toNat=Lib.bitLen k.val:=by decide +kernel
theorem lit8 (x:Int):(([0,1,2,2,3,3,3,3,4,4,4,4,4,4,4,4,5,5,5,5,5,5,5,5,5,5,5,5,5,5,5,5,6,6,6,6,6,6,6,6,6,6,6,6,6,6,6,6,6,6,6,6,6,6,6,6,6,6,6,6,6,6,6,6,7,7,7,7,7,7,7,7,7,7,7,7,7,7,7,7,7,7,7,7,7,7,7,7,7,7,7,7,7,7,7,7,7,7,7,7,7,7,7,7,7,7,7,7,7,7,7,7,7,7,7,7,7,7,7,7,7,7,7,7,7,7,7,7,8,8,8,8,8,8,8,8,8,8,8,8,8,8,8,8,8,8,8,8,8,8,8,8,8,8,8,8,8,8,8,8,8,8,8,8,8,8,8,8,8,8,8,8,8,8,8,8,8,8,8,8,8,8,8,8,8,8,8,8,8,8,8,8,8,8,8,8,8,8,8,8,8,8,8,8,8,8,8,8,8,8,8,8,8,8,8,8,8,8,8,8,8,8,8,8,8,8,8,8,8,8,8,8,8,8,8,8,8,8,8,8,8,8,8,8,8,8,8,8,8,8,8,8,8,8,8,8]:List UInt8)[(IntKind.u8.wrap x).toNat]?.getD 0).toNat=Lib.bitLen (IntKind.u8.wrap x).toNat:=lit8f ⟨(IntKind.u8.wrap x).toNat,by have:=u8a x;have:=u8b x;omega⟩
theorem lit8g (x:Int) (h:(IntKind.u8.wrap x).toNat<([0,1,2,2,3,3,3,3,4,4,4,4,4,4,4,4,5,5,5,5,5,5,5,5,5,5,5,5,5,5,5,5,6,6,6,6,6,6,6,6,6,6,6,6,6,6,6,6,6,6,6,6,6,6,6,6,6,6,6,6,6,6,6,6,7,7,7,7,7,7,7,7,7,7,7,7,7,7,7,7,7,7,7,7,7,7,7,7,7,7,7,7,7,7,7,7,7,7,7,7,7,7,7,7,7,7,7,7,7,7,7,7,7,7,7,7,7,7,7,7,7,7,7,7,7,7,7,7,8,8,8,8,8,8,8,8,8,8,8,8,8,8,8,8,8,8,8,8,8,8,8,8,8,8,8,8,8,8,8,8,8,8,8,8,8,8,8,8,8,8,8,8,8,8,8,8,8,8,8,8,8,8,8,8,8,8,8,8,8,8,8,8,8,8,8,8,8,8,8,8,8,8,8,8,8,8,8,8,8,8,8,8,8,8,8,8,8,8,8,8,8,8,8,8,8,8,8,8,8,8,8,8,8,8,8,8,8,8,8,8,8,8,8,8,8,8,8,8,8,8,8,8,8,8,8,8]:List UInt8).length):(([0,1,2,2,3,3,3,3,4,4,4,4,4,4,4,4,5,5,5,5,5,5,5,5,5,5,5,5,5,5,5,5,6,6,6,6,6,6,6,6,6,6,6,6,6,6,6,6,6,6,6,6,6,6,6,6,6,6,6,6,6,6,6,6,7,7,7,7,7,7,7,7,7,7,7,7,7,7,7,7,7,7,7,7,7,7,7,7,7,7,7,7,7,7,7,7,7,7,7,7,7,7,7,7,7,7,7,7,7,7,7,7,7,7,7,7,7,7,7,7,7,7,7,7,7,7,7,7,8,8,8,8,8,8,8,8,8,8,8,8,8,8,8,8,8,8,8,8,8,8,8,8,8,8,8,8,8,8,8,8,8,8,8,8,8,8,8,8,8,8,8,8,8,8,8,8,8,8,8,8,8,8,8,8,8,8,8,8,8,8,8,8,8,8,8,8,8,8,8,8,8,8,8,8,8,8,8,8,8,8,8,8,8,8,8,8,8,8,8,8,8,8,8,8,8,8,8,8,8,8,8,8,8,8,8,8,8,8,8,8,8,8,8,8,8,8,8,8,8,8,8,8,8,8,8,8]:List UInt8)[(IntKind.u8.wrap x).toNat]'h).toNat=Lib.bitLen (IntKind.u8.wrap x).toNat:=by
 rw [← lit8 x,zWa h];rfl
theorem fd16 (x:Int):x.fdiv (2 ^ min 16 IntKind.u32.bits)=x / 65536:=by rw [zWZ _ (by decide)];rfl
theorem fd8 (x:Int):x.fdiv (2 ^ min 8 IntKind.u32.bits)=x / 256:=by rw [zWZ _ (by decide)];rfl
theorem bl_w (x:Int) (k:Nat) (hk:k≤24) (h0:0≤x) (h1:x<256):IntKind.i64.wrap ((k:Int)+IntKind.i64.wrap (Lib.bitLen (IntKind.u8.wrap x).toNat))=k+Lib.bitLen x.toNat:=by
 have hw:IntKind.u8.wrap x=x:=by rw [IntKind.wrap_u8];omega
 rw [hw];have:=Lib.bitLen_le x.toNat 8 (by omega) (by omega)
 rw [zAB (n:=(Lib.bitLen x.toNat:Int)) (by omega) (by omega),zAB (by omega) (by omega)]
theorem zDx:IntKind.i64.wrap 16=16:=by decide
theorem zDy:IntKind.i64.wrap 24=24:=by decide
theorem zGk:IntKind.i64.wrap 8=8:=by decide
theorem zOM (x:Int) (h0:0≤x) (h1:x≤4294967295):zAD Tryz.prog 287 [uv x] (iv (bitLen x)):=by
 refine sX Tryz.func287 Tryz.ntmps287 ?_;(repeat intro K hK);apply wr
 repeat' (first|(with_reducible first|refine zA6 fun K hK=>?_|refine zAu ?_)|((with_reducible first|refine zAk (by kernel_rfl) ?_|refine zBC ?_|refine zA9 ?_|refine zBB ?_|refine zBA ?_|refine zA7 ?_|refine zA5 ?_);simp [u8a,u8b,lit8,fd16,fd8,zDx,zDy,zGk])|((repeat ((fail_if_success ((with_reducible refine hK _ ?_)));clear hK));(with_reducible refine hK _ ?_);clear hK)|refine And.intro (by first|omega|assumption|grind) ?_|(refine zAC rfl (fun h=>?_) (fun h=>?_)<;>(first|(simp [u8a,u8b,lit8,fd16,fd8,zDx,zDy,zGk] at h;done)|(simp [u8a,u8b,lit8,fd16,fd8,zDx,zDy,zGk] at h)|skip)<;>(first|(exfalso;omega)|skip))|(refine zAA ?_;simp [u8a,u8b,lit8,fd16,fd8,zDx,zDy,zGk];(first|done|(simp_all [u8a,u8b,lit8,fd16,fd8,zDx,zDy,zGk];done)|(simp_all [u8a,u8b,lit8,fd16,fd8,zDx,zDy,zGk];omega)|grind);done)|(refine zAI ?_;refine zAA ?_;simp [u8a,u8b,lit8,fd16,fd8,zDx,zDy,zGk];(first|done|(simp_all [u8a,u8b,lit8,fd16,fd8,zDx,zDy,zGk];done)|(simp_all [u8a,u8b,lit8,fd16,fd8,zDx,zDy,zGk];omega)|grind);done)|(refine zAA ?_;simp [u8a,u8b,lit8,fd16,fd8,zDx,zDy,zGk];done)|(refine zAI ?_;refine zAA ?_;simp [u8a,u8b,lit8,fd16,fd8,zDx,zDy,zGk];done))
 all_goals refine zAA ?_
 all_goals simp [lit8g]
 ·skip
  have e:=bl_w (x / 65536 / 256) 24 (by omega) (by omega) (by omega)
  simp at e;rw [e];have e2:=Lib.bitLen_shift24 x.toNat (by omega) (by omega)
  unfold bitLen;rw [e2,show (x / 65536 / 256).toNat=x.toNat / 16777216 by omega]
  simp
 ·skip
  have e:=bl_w (x / 65536) 16 (by omega) (by omega) (by omega)
  simp at e;rw [e];have e2:=Lib.bitLen_shift16 x.toNat (by omega) (by omega)
  unfold bitLen;rw [e2,show (x / 65536).toNat=x.toNat / 65536 by omega]
  simp
 ·skip
  have e:=bl_w (x / 256) 8 (by omega) (by omega) (by omega)
  simp at e;rw [e];have e2:=Lib.bitLen_shift8 x.toNat (by omega) (by omega)
  unfold bitLen;rw [e2,show (x / 256).toNat=x.toNat / 256 by omega]
  simp
 skip
 have e:=bl_w x 0 (by omega) (by omega) (by omega)
 simp at e;rw [e];rfl
theorem zOH (a g p:Int) (h0:0≤g) (h1:g≤4294967295):zAD Tryz.prog 227 [.st [uv a,uv g],iv p] (.bool (balMay g p)):=by
 refine sZ Tryz.func227 Tryz.ntmps227 ?_;exact wx1 (qX1 (zOM _ h0 h1)) trivial @balMay.eq_1
theorem zPW (m:MchD) (h0:0≤m.given) (h1:m.given≤4294967295):zAD Tryz.prog 171 [.st m.row] (.bool (decide ((m.keys.length:Int)≤16)&&timMay m.tim&&dskMay m.dk (pagesD m.mem)&&nicMay m.nc (pagesD m.mem)&&balMay m.given (pagesD m.mem))):=by
 refine sZ Tryz.func171 Tryz.ntmps171 ?_;exact wx (qX6 (zBz m.mem) (zOW m.keys) (zQm m.tim) (zOf m.dk (pagesD m.mem)) (zPa m.nc (pagesD m.mem)) (zOH m.tgt m.given (pagesD m.mem) h0 h1)) trivial
theorem zFx (m:MchD) (h0:0≤m.given) (h1:m.given≤4294967295):zAD Tryz.prog 113 [.st m.row] (.bool (mayD m)):=by
 refine sZ Tryz.func113 Tryz.ntmps113 ?_;exact wx1 (qX2 (zBz m.mem) (zPW m h0 h1)) trivial @mayD.eq_1
theorem zDC (xs:List (List V)) (t:Bool) (z:Nat) (hz:z=4∨(z=0∧xs=[])) (hb:xs.length≤100000):zAD Tryz.prog 64 [.sl z t xs] (.new 108 4 xs):=by
 refine sX Tryz.func64 Tryz.ntmps64 ?_;intros;apply wr;refine ⟨?_,fun hx=>?_⟩
 ·refine au ?_;intros;apply wr;refine cF0 rfl ?_;refine aum1 @maxLen.eq_1 ?_;intros;apply wr;refine zAA ?_;simp
 subst hx;refine au ?_;intros;apply wr;refine gT00 rfl ?_;intros;apply wr;refine zAW 2 108 4 (by decide) rfl ?_
 refine zAA ?_;simp
theorem zHb (xs:List (List V)) (t:Bool) (z:Nat) (hz:z=3∨(z=0∧xs=[])) (hb:xs.length≤100000):zAD Tryz.prog 65 [.sl z t xs] (.new 72 3 xs):=by
 refine sX Tryz.func65 Tryz.ntmps65 ?_;intros;apply wr;refine ⟨?_,fun hx=>?_⟩
 ·refine au ?_;intros;apply wr;refine cF0 rfl ?_;refine aum1 @maxLen.eq_1 ?_;intros;apply wr;refine zAA ?_;simp
 subst hx;refine au ?_;intros;apply wr;refine gT00 rfl ?_;intros;apply wr;refine zAW 2 72 3 (by decide) rfl ?_
 refine zAA ?_;simp
theorem zFs (xs:List (List V)) (t:Bool) (z:Nat) (hz:z=4∨(z=0∧xs=[])) (hb:xs.length≤100000):zAD Tryz.prog 66 [.sl z t xs] (.new 81 4 xs):=by
 refine sX Tryz.func66 Tryz.ntmps66 ?_;intros;apply wr;refine ⟨?_,fun hx=>?_⟩
 ·refine au ?_;intros;apply wr;refine cF0 rfl ?_;refine aum1 @maxLen.eq_1 ?_;intros;apply wr;refine zAA ?_;simp
 subst hx;refine au ?_;intros;apply wr;refine gT00 rfl ?_;intros;apply wr;refine zAW 2 81 4 (by decide) rfl ?_
 refine zAA ?_;simp
theorem zOR (xs:List (List V)) (t:Bool) (z:Nat) (hz:z=3∨(z=0∧xs=[])) (hb:xs.length≤100000):zAD Tryz.prog 67 [.sl z t xs] (.new 149 3 xs):=by
 refine sX Tryz.func67 Tryz.ntmps67 ?_;intros;apply wr;refine ⟨?_,fun hx=>?_⟩
 ·refine au ?_;intros;apply wr;refine cF0 rfl ?_;refine aum1 @maxLen.eq_1 ?_;intros;apply wr;refine zAA ?_;simp
 subst hx;refine au ?_;intros;apply wr;refine gT00 rfl ?_;intros;apply wr;refine zAW 2 149 3 (by decide) rfl ?_
 refine zAA ?_;simp
theorem zOS (xs:List (List V)) (t:Bool) (z:Nat) (hz:z=4∨(z=0∧xs=[])) (hb:xs.length≤100000):zAD Tryz.prog 69 [.sl z t xs] (.new 153 4 xs):=by
 refine sX Tryz.func69 Tryz.ntmps69 ?_;intros;apply wr;refine ⟨?_,fun hx=>?_⟩
 ·refine au ?_;intros;apply wr;refine cF0 rfl ?_;refine aum1 @maxLen.eq_1 ?_;intros;apply wr;refine zAA ?_;simp
 subst hx;refine au ?_;intros;apply wr;refine gT00 rfl ?_;intros;apply wr;refine zAW 2 153 4 (by decide) rfl ?_
 refine zAA ?_;simp
theorem zA8 (l:List EntD):(ents l).length=l.length:=by simp [ents]
theorem zEb (l:List EvD):(evs l).length=l.length:=by simp [evs]
theorem zE8 (r:RecD) (h1:r.m.mem.length≤100000) (h2:r.log.length≤100000) (h3:r.queue.length≤100000):zAD Tryz.prog 70 [.st r.row] (.st r.row):=by
 refine sZ Tryz.func70 Tryz.ntmps70 ?_;exact wx (qX3 (zBi (ints .u32 r.m.mem) false 1 (.inl rfl) (by rw [zAN];exact h1)) (zDC (ents r.log) false 4 (.inl rfl) (by rw [zA8];exact h2)) (zHb (evs r.queue) false 3 (.inl rfl) (by rw [zEb];exact h3))) trivial
theorem zGz (r:RplD) (h1:r.m.mem.length≤100000) (h2:r.log.length≤100000):zAD Tryz.prog 114 [.st r.row] (.st r.row):=by
 refine sZ Tryz.func114 Tryz.ntmps114 ?_;exact wx (qX2 (zBi (ints .u32 r.m.mem) false 1 (.inl rfl) (by rw [zAN];exact h1)) (zDC (ents r.log) false 4 (.inl rfl) (by rw [zA8];exact h2))) trivial
theorem zQC (m:MchD) (h1:m.mem.length≤100000):zAD Tryz.prog 60 [.st m.row] (.st (RecD.row ⟨m,0,[],[]⟩)):=by
 refine sZ Tryz.func60 Tryz.ntmps60 ?_;exact wx1 (qX1 (zE8 ⟨m,0,[],[]⟩ h1 (by simp) (by simp))) trivial (kX2 @ents.eq_1 @evs.eq_1)
theorem zQS (m:MchD) (h1:m.mem.length≤100000):zAD Tryz.prog 63 [.st m.row] (.st (RplD.row ⟨m,[],m.count,0⟩)):=by
 refine sZ Tryz.func63 Tryz.ntmps63 ?_;exact wx1 (qX1 (zGz ⟨m,[],m.count,0⟩ h1 (by simp))) trivial @ents.eq_1
theorem zKC (n:Int):zAD Tryz.prog 61 [lv n] (.tup [.st (SndD.row ⟨1,n,n,[]⟩),.st (RcvD.row ⟨1,n,[]⟩)]):=by
 refine sZ Tryz.func61 Tryz.ntmps61 ?_;exact wx1 trivial trivial (kX2 @segs.eq_1 @zHF.eq_1)
theorem zOc (d:DetD):zAD Tryz.prog 161 [.st d.row] (.bool (decide (1≤d.limit)&&decide (d.limit≤20)&&decide (0≤d.silent)&&decide (d.silent≤d.limit))):=by
 refine sZ Tryz.func161 Tryz.ntmps161 ?_;exact wx trivial trivial
theorem zLt (k:Int):zAD Tryz.prog 112 [iv k] (.tup [.st (DetD.row (if zNH k then ⟨k,0,0⟩ else zDet)),.bool (zNH k)]):=by
 refine sZ Tryz.func112 Tryz.ntmps112 ?_;exact wx1 (qX1 (zOc ⟨k,0,0⟩)) trivial (kX2 @zNH.eq_1 @zDet.eq_1)
theorem zOP:Tryz.prog.cellsOf 371=2:=by kernel_rfl
theorem lies90 (count:Nat) (h:1≤count):liesAt Tryz.prog Tryz.prog.depth 371 count 0 371 1=true:=by
 have hc:=zOP;have hd:Tryz.prog.depth=(2*(Tryz.prog.types.size+Made.depth)+1)+1:=rfl;rw [hd];simp only [liesAt,Bool.or_eq_true];left;rw [hd];simp [rowAt,hc,h,sameLayout]
theorem zTt:∃ j,Tryz.prog.info? 371=some j∧j.size=2:=by
 have h:(Tryz.prog.info? 371).map (·.size)=some 2:=by kernel_rfl
 exact Option.map_eq_some_iff.1 h
set_option maxHeartbeats 2000000 in
theorem zUW (b:Nat) (w:World) (h0:w.cell? ⟨b,0,none⟩=some (.pointer (some ⟨b,0,none⟩))) :
  Calls Tryz.prog 314 #[.pointer (some ⟨b,0,none⟩)] w fun e w'=>e=.returned (.tuple #[])∧w'=w:=by
 obtain ⟨j,hj,_⟩:=zTt
 go_enter Tryz.func314,Tryz.ntmps314
 go_wp2
 rw [Lib.run_neq_ptr_same w _ Tryz.underlying369 hj]
 go_wp2
 go_end0
 exact ⟨rfl,rfl⟩
set_option maxHeartbeats 2000000 in
theorem zRW (b count:Nat) (w:World) (h0:w.cell? ⟨b,0,none⟩=some (.pointer none)) (hsh:w.shape? b=some (371,count*2)) (hct:1≤count) (hfz:w.frozen? ⟨b,0,none⟩=false) :
  Calls Tryz.prog 314 #[.pointer (some ⟨b,0,none⟩)] w fun e w'=>e=.returned (.tuple #[])∧w'=w.setCell ⟨b,0,none⟩ (.pointer (some ⟨b,0,none⟩)):=by
 obtain ⟨j,hj,hjs⟩:=zTt;have hlies:liesAt Tryz.prog Tryz.prog.depth 371 (count*2 / Tryz.prog.cellsOf 371) 0 371 1=true:=by
  rw [zOP,Nat.mul_div_cancel _ (by decide)];exact lies90 count hct
 go_enter Tryz.func314,Tryz.ntmps314
 go_wp2
 rw [Lib.run_to_unsafe w ⟨b,0,none⟩ Tryz.underlying369 Tryz.underlying429 hj (by rw [hjs];decide) hsh (show 0<count*2 by omega)]
 simp only [Result.andThen];rw [Oper.upon_value]
 go_wp2
 rw [run_callFunc_extern Tryz.func334 (by kernel_rfl) (by kernel_rfl) (by kernel_rfl) (e:=Extern.AbiNoEscape.same) (by kernel_rfl)]
 rw [Lib.run_noEscape];simp only [Result.andThen];rw [Oper.upon_value]
 go_wp2
 rw [Lib.run_from_unsafe w ⟨b,0,none⟩ Tryz.underlying429 Tryz.underlying369 hj hsh hlies];simp only [Result.andThen];rw [Oper.upon_value]
 go_wp2
 go_end0
 exact ⟨rfl,rfl⟩
set_option maxHeartbeats 2000000 in
theorem zIo (b:Nat) (A:Option Addr) (n c:Nat) (q:Value) (s:ByteArray) (w w1 w2:World) (c1:w.drew.cell? ⟨b,1,none⟩=some (.slice A n c)) (hSD:(Builtin.unsafeSliceData_ #[158] 417 #[.slice A n c]).run Tryz.prog w.drew=.ok q w1)
  (c2:w1.cell? ⟨b,1,none⟩=some (.slice A n c)) (hUS:(Builtin.unsafeString_ #[417,3] 9 #[q,.int .i64 n]).run Tryz.prog w1=.ok (.string s) w2) :
  Calls Tryz.prog 255 #[.pointer (some ⟨b,0,none⟩)] w fun e w'=>e=.returned (.string s)∧w'=w2:=by
 go_enter Tryz.func255,Tryz.ntmps255
 go_wp2
 go_region
 all_goals (go_wp2;go_ret;exact ⟨rfl,rfl⟩)
theorem vals1 {a:Value} {vals:Array Value} (hs:vals.size=1) (h0:vals.getD 0 undef=a):vals=#[a]:=by
 apply Array.ext
 ·simpa using hs
 intro i hi hi'
 have:i=0:=by simp at hi';omega
 subst this;simpa [Array.getD,hi] using h0
abbrev bldO (c0 c1:V):Ob:=⟨371,2,true,false,[[c0,c1]]⟩
abbrev bufO (s:Str):Ob:=⟨5,1,false,false,zAU s⟩
theorem zJB [Glo] {base:Nat} {Xa:Nat→Prop} {w0:W0} {st:St} {a:Act} {w:World} {M:Mp} (hR:RelM base Xa w0 st a w M) {id:Nat} {c0 c1:V} (hob:lookO st.ob id=some (bldO c0 c1)) {g:Nat} (hg:(M id).ownBlock=some g) :
  ∃ cap cur,1≤cap∧w.rowAt g cur 371∧cur.size=cap*2∧(∃ v0,w.cell? ⟨g,0,none⟩=some v0∧R M w (Xf base Xa w M st.ob) st.nx c0 v0)∧∃ v1,w.cell? ⟨g,1,none⟩=some v1∧R M w (Xf base Xa w M st.ob) st.nx c1 v1:=by
 obtain ⟨_,hok⟩:=hR.obs id _ hob;obtain ⟨vs,hrow,hone,hrr⟩:=hok.row;simp only [if_true] at hrr;have hvl:vs.length=2:=by have:=hrow.1;simpa using this
 rcases hrow.sl (zG1 hg) with ⟨hn,_⟩|⟨g',cap,cur,hM,hbg,hgr,hnc,hcm,hcs,htk⟩
 ·rw [hn] at hg;cases hg
 rw [hM] at hg;simp only [Value.ownBlock,zWY] at hg;subst hg;have hcell:∀ j u,vs[j]? =some u→w.cell? ⟨g',j,none⟩=some u:=fun j u hu=>by
  have:=hrow.cells (g:=g') (by rw [hM];rfl) j u hu
  have hadd:(⟨g',0,none⟩:Addr).add j=⟨g',j,none⟩:=by unfold Addr.add;split<;>simp_all
  rwa [hadd] at this
 have hat:∀ j,j<2→vs[j]? =some (vs.getD j undef):=fun j hj=>by rw [zWX,zWa (by omega)];rfl
 exact ⟨cap,cur,by simpa using hnc,hgr,hcs,⟨_,hcell 0 _ (hat 0 (by omega)),hrr 0 c0 rfl⟩,_,hcell 1 _ (hat 1 (by omega)),hrr 1 c1 rfl⟩
theorem zNB {nx:Nat} {ob:List (Nat × Option Ob)} (id:Nat) (c0 c1:V) (hob:lookO ob id=some (bldO c0 c1)) (hc:c0=.nilp∨c0=.ptr id 2 0 0) :
  InlC Tryz.prog 314 [.ptr id 2 0 0] nx ob fun r nx' ob'=>r=.tup []∧nx'=nx∧ob'=(id,some (bldO (.ptr id 2 0 0) c1))::ob:=by
 refine ⟨by kernel_rfl,fun base Xa w0 w M vals hR hs hr=>?_⟩
 obtain ⟨g,hid,hg,hve⟩:=zHO (hr 0 _ rfl);obtain rfl:=vals1 hs hve;obtain ⟨cap,cur,hcap,hgr,hcs,⟨v0,hv0,hr0⟩,_⟩:=zJB (id:=id) hR hob hg;rcases hc with rfl|rfl
 ·obtain rfl:v0=.pointer none:=by cases hr0;rfl
  have hfz:=hgr.frozen 0 (by omega)
  have hsh:w.shape? g=some (371,cap*2):=by
   obtain ⟨fz,h1,_⟩:=hgr;simp [World.shape?,h1,hcs]
  refine (zRW g cap w hv0 hsh hcap hfz).mono ?_;rintro e w' ⟨rfl,rfl⟩;have hp:R M w (Xf base Xa w M ob) nx (.ptr id 2 0 0) (.pointer (some ⟨g,0,none⟩)):=hve ▸ hr 0 _ rfl
  obtain ⟨w',h1,h2⟩:=hR.store (P:=Tryz.prog) (id:=id) hob rfl hg (i:=0) (by simp) (ds:=[.ptr id 2 0 0]) (us:=[.pointer (some ⟨g,0,none⟩)]) (off:=0) (by simp) (by
   simp only [if_true];exact .one_ rfl hp)
  have h3:(storeCells ⟨g,0,none⟩ [.pointer (some ⟨g,0,none⟩)] 0).run Tryz.prog w=.ok () (w.setCell ⟨g,0,none⟩ (.pointer (some ⟨g,0,none⟩))):=by
   have hadd:(⟨g,0,none⟩:Addr).add 0=⟨g,0,none⟩:=by unfold Addr.add;simp
   have hst:=run_store Tryz.prog w ⟨g,0,none⟩ (.pointer (some ⟨g,0,none⟩)) .plain (by rfl)
   rw [hv0,hfz] at hst;simp only [storeCells,Sem.run_bind,hadd,hst];simp [Result.andThen]
  simp only [Nat.zero_mul,Nat.zero_add] at h1;rw [h3] at h1;simp only [Result.ok.injEq,true_and] at h1;subst h1;exact ⟨_,.tup [],nx,_,M,rfl,⟨rfl,rfl,rfl⟩,h2,.tup _ _ _ rfl fun j u hu=>by simp at hu⟩
 obtain ⟨g',_,hg',rfl⟩:=zHO hr0;obtain rfl:g=g':=by rw [hg] at hg';simpa using hg'
 refine (zUW g w hv0).mono ?_;rintro e w' ⟨rfl,rfl⟩;refine ⟨_,.tup [],nx,_,M,rfl,⟨rfl,rfl,rfl⟩,hR.sub fun i o ho=>?_,.tup _ _ _ rfl fun j u hu=>by simp at hu⟩
 simp only [lookO] at ho;split at ho
 ·rename_i e;subst e;simp only [zWY] at ho;subst ho;exact ⟨false,hob,fun h=>h⟩
 exact ⟨o.fz,ho,fun h=>h⟩
theorem zFP {nx:Nat} {ob:List (Nat × Option Ob)} (id bid:Nat) (c0:V) (s:Str) (hob:lookO ob id=some (bldO c0 (.own bid))) (hbb:lookO ob bid=some (bufO s)) :
  InlC Tryz.prog 255 [.ptr id 2 0 0] nx ob fun r _ _=>r=.str s:=by
 refine ⟨by kernel_rfl,fun base Xa w0 w M vals hR hs hr=>?_⟩
 obtain ⟨g,hid,hg,hve⟩:=zHO (hr 0 _ rfl);obtain rfl:=vals1 hs hve;obtain ⟨cap0,cur0,hcap,hgr0,_,_,v1,hv1,hr1⟩:=zJB (id:=id) hR hob hg;obtain ⟨hbid,hM⟩:=zGX hr1;obtain ⟨A,l,c,rfl⟩:∃ A l c,v1=.slice A l c:=by cases hr1;exact ⟨_,_,_,rfl⟩
 obtain ⟨_,hok⟩:=hR.obs bid _ hbb;obtain ⟨vs,hrow,hone,hrr⟩:=hok.row;simp only [zWv,if_false] at hrr;have hbl:(zAU s).length=s.length:=by simp [zAU]
 simp only [hbl] at hrow;have hfin:∀ (w2:World) (row:Option Nat),w.grownBy w2 row→(∀ k,row=some k→(M bid).ownB=some k)→(Calls Tryz.prog 255 #[.pointer (some ⟨g,0,none⟩)] w fun e w'=>e=.returned (.string ⟨s.toArray⟩)∧w'=w2) →
   Calls Tryz.prog 255 #[.pointer (some ⟨g,0,none⟩)] w fun e w'=>∃ val r nx' ob' M',e=.returned val∧r=.str s∧RelM base Xa w0 ⟨0,[],nx',ob',nx⟩ ⟨#[],[]⟩ w' M'∧R M' w' (Xf base Xa w' M' ob') nx' r val:=by
  intro w2 row hgb hrw hcl
  refine hcl.mono ?_;rintro e w' ⟨rfl,rfl⟩;obtain ⟨M',_,_,hR'⟩:=hR.grow (ob1:=[]) (fun i o ho=>by simp [lookO] at ho) row (fun b hb e=>hb.2 bid _ hbb rfl (hrw b e.symm)) (fun i o ho=>by simp [lookO] at ho) (fun k hk=>(hrow.lt k (hrw k hk)).1) hgb (.slice none 0 0) (fun k hk=>by simp [Value.ownB] at hk) ⟨5,1,false,false,[]⟩ (fun _=>by simp) (by simp) [] (World.ownsG_nil _ _ _ _) (by simp) (fun j u hu=>by simp at hu)
  exact ⟨_,.str s,_,_,M',rfl,rfl,hR',.str _ _⟩
 have hdrew:∀ k,w.drew.cell? k=w.cell? k:=fun k=>rfl
 have gdrew:w.grownBy w.drew none:=⟨rfl,rfl,rfl,zWg _,fun _ _ _=>rfl⟩
 rw [hM] at hrow;rcases hrow.2 with ⟨h,h0⟩|⟨g2,cap,cur,h,hbg,hg2,hnc,hcm,hcs,htk⟩|hodd
 ·simp only [Value.slice.injEq] at h;obtain ⟨rfl,rfl,rfl⟩:=h;obtain rfl:s=[]:=zWk h0;exact hfin w.drew none gdrew (fun k hk=>by cases hk) (zIo g none 0 0 (.pointer none) ⟨#[]⟩ w w.drew w.drew hv1 rfl hv1 (Lib.run_unsafeString_none _ _ _ _ _))
 ·simp only [Value.slice.injEq] at h;obtain ⟨rfl,rfl,rfl⟩:=h;by_cases h0:s=[]
  ·subst h0;by_cases hc0:c=0
   ·subst hc0;have hlt:g<w.heap.size:=hgr0.lt;have hsh:w.drew.shape? g2=some (5,cur.size):=by
     obtain ⟨fz,h1,_⟩:=hg2;have h1':w.drew.heap[g2]? =some (.cells cur 5 fz):=h1;simp [World.shape?,h1']
    have hSD:=Lib.run_unsafeSliceData_zero (P:=Tryz.prog) w.drew #[158] 417 5 Tryz.underlying417 ⟨g2,0,none⟩ 0 _ hsh;have hv1':(w.drew.alloc (.view ⟨g2,0,none⟩ 5)).cell? ⟨g,1,none⟩=some (.slice (some ⟨g2,0,none⟩) 0 0):=by
     rw [World.cell?_of_block (w:=w.drew) (w':=w.drew.alloc (.view ⟨g2,0,none⟩ 5)) (a:=⟨g,1,none⟩) (Lib.alloc_old w.drew _ g hlt)];exact hv1
    refine hfin (w.drew.alloc (.view ⟨g2,0,none⟩ 5)) none ⟨rfl,rfl,rfl,by simp,fun k hk _=>?_⟩ (fun k hk=>by cases hk) (zIo g (some ⟨g2,0,none⟩) 0 0 _ ⟨#[]⟩ w _ _ hv1 hSD hv1' (Lib.run_unsafeString_none _ _ _ _ _))
    exact Lib.alloc_old w.drew _ k hk
   exact hfin w.drew none gdrew (fun k hk=>by cases hk) (zIo g (some ⟨g2,0,none⟩) 0 c (.pointer (some ⟨g2,0,none⟩)) ⟨#[]⟩ w w.drew w.drew hv1 (Lib.run_unsafeSliceData_row _ _ _ _ _ _ hc0) hv1 (Lib.run_unsafeString_none _ _ _ _ _))
  have hl0:s.length≠0:=by simpa using h0
  have hsh:w.drew.shape? g2=some (5,cur.size):=by
   obtain ⟨fz,h1,_⟩:=hg2;have h1':w.drew.heap[g2]? =some (.cells cur 5 fz):=h1;simp [World.shape?,h1']
  have hflat:(zAU s).flatten=s.map fun (c:UInt8)=>V.int .u8 (c.toNat:Int):=by
   unfold zAU;clear hrow hbb hbl hfin h0 hl0 hnc htk hrr hok hv1 hr1 hM hsh;induction s with
   | nil=>rfl
   | cons c s ih=>simp [ih]
  have hUS:=Lib.run_unsafeString_row (P:=Tryz.prog) w.drew 417 3 9 5 Tryz.underlying417 (by kernel_rfl) g2 cur.size hsh s h0 (by omega) (by simp only [maxLen] at hcm;omega) (fun j x hx=>by
   have h1:=hrr j (.int .u8 x.toNat) (by rw [hflat,zWl,hx];rfl)
   have h2:=zCN h1;have hvj:vs[j]? =some (.int .u8 x.toNat):=by
    rw [← h2,zWX];have hjl:j<vs.length:=by
     have:=(List.getElem?_eq_some_iff.1 hx).1;have:=hrow.1;omega
    rw [zWa hjl];rfl
   have:=hrow.cells (g:=g2) (by rfl) j _ hvj
   exact this)
  refine hfin (w.drew.freeze ⟨g2,0,none⟩ s.length) (some g2) ?_ (fun k hk=>by rw [hM];simpa [Value.ownB] using hk) (zIo g (some ⟨g2,0,none⟩) s.length c (.pointer (some ⟨g2,0,none⟩)) ⟨s.toArray⟩ w w.drew _ hv1 (Lib.run_unsafeSliceData_row _ _ _ _ _ _ (by omega)) hv1 hUS)
  unfold World.freeze;rw [if_neg hl0];refine ⟨rfl,rfl,rfl,by simp,fun k _ hk=>?_⟩
  have hne:g2≠k:=fun e=>hk (by rw [e])
  simp [Array.getElem?_modify,hne];rfl
 exact hodd.noSl.elim
def WPost (nx:Nat) (ob:List (Nat × Option Ob)) (id bid:Nat) (s:Str) (nx':Nat) (ob':List (Nat × Option Ob)):Prop:=∃ k,nx≤k∧k<nx'∧lookO ob' k=some (bufO s)∧lookO ob' id=some (bldO (.ptr id 2 0 0) (.own k))∧∀ j,j≠id→j≠bid→j<nx→lookO ob' j=lookO ob j
set_option maxHeartbeats 8000000 in
theorem zFo {nx:Nat} {ob:List (Nat × Option Ob)} (id bid:Nat) (c0:V) (s t:Str) (hob:lookO ob id=some (bldO c0 (.own bid))) (hbb:lookO ob bid=some (bufO s)) (hc:c0=.nilp∨c0=.ptr id 2 0 0) (hi:id<nx) (hb:bid<nx) (hne:id≠bid) (hl:s.length+t.length≤1000000) :
  InlC Tryz.prog 252 [.ptr id 2 0 0,.str t] nx ob fun r nx' ob'=>r=.tup [.int .i64 t.length,.poi]∧WPost nx ob id bid (s++t) nx' ob':=by
 have hbl:(zAU s).length=s.length:=by simp [zAU]
 have hm:s.length+t.length≤maxLen:=by simp only [maxLen];omega
 have hap:zAU s++zAU t=zAU (s++t):=by simp [zAU]
 have n1:¬ bid=id:=fun e=>hne e.symm
 have n2:¬ id=nx:=by omega
 have n3:¬ bid=nx:=by omega
 have n4:¬ nx=id:=by omega
 have n5:¬ nx=bid:=by omega
 refine InlC.of Tryz.func252 rfl (by kernel_rfl) rfl ?_
 simp only [Tryz.ntmps252,St.startI,argT];refine au ?_;intros;apply wr
 first|refine .inr ((zNB id c0 (.own bid) hob hc).mono fun r nx' ob' hp=>?_)|refine (zNB id c0 (.own bid) hob hc).mono fun r nx' ob' hp=>?_|refine ((zNB id c0 (.own bid) hob hc).mono fun r nx' ob' hp=>?_).2
 simp only [aftI];obtain ⟨rfl,rfl,rfl⟩:=hp;simp [hne,n1,n2,n3,n4,n5,hob,hbb,hbl,hap];refine au1 (kX10 @hne @n1 @n2 @n3 @n4 @n5 @hob @hbb @hbl @hap) ?_;intros;apply wr;refine zAA ?_;simp;exact ⟨_,zWg _,Nat.lt_succ_self _,by simp [lookO,n4],by simp [lookO],fun j h1 h2 h3=>by
  have h4:¬ j=nx':=by omega
  simp [lookO,h1,h2,h4]⟩
set_option maxHeartbeats 8000000 in
theorem zEV {nx:Nat} {ob:List (Nat × Option Ob)} (id:Nat) (t:Str) (hob:lookO ob id=some (bldO .nilp (.sl 0 true []))) (hi:id<nx) (hl:t.length≤1000000) :
  InlC Tryz.prog 252 [.ptr id 2 0 0,.str t] nx ob fun r nx' ob'=>r=.tup [.int .i64 t.length,.poi]∧WPost nx ob id nx t nx' ob':=by
 have hbl:(zAU ([]:Str)).length=0:=by simp [zAU]
 have hm:t.length≤maxLen:=by simp only [maxLen];omega
 have n2:¬ id=nx:=by omega
 have n3:¬ nx=id:=by omega
 have n4:¬ id=nx+1:=by omega
 have n5:¬ nx+1=id:=by omega
 refine InlC.of Tryz.func252 rfl (by kernel_rfl) rfl ?_
 simp only [Tryz.ntmps252,St.startI,argT];refine zKS id 1 5 1 (by decide) hob rfl rfl rfl ?_
 refine au1 (kX2 @n2 @n3) ?_;intros;apply wr
 first|refine .inr ((zNB id .nilp (.own nx) (by simp [lookO]) (.inl rfl)).mono fun r nx' ob' hp=>?_)|refine (zNB id .nilp (.own nx) (by simp [lookO]) (.inl rfl)).mono fun r nx' ob' hp=>?_|refine ((zNB id .nilp (.own nx) (by simp [lookO]) (.inl rfl)).mono fun r nx' ob' hp=>?_).2
 simp only [aftI];obtain ⟨rfl,rfl,rfl⟩:=hp;simp [n2,n3,n4,n5,hob];refine au1 (kX6 @n2 @n3 @n4 @n5 @hob @hm) ?_;intros;apply wr;refine zAA ?_;simp;exact ⟨_,Nat.le_succ _,Nat.lt_succ_self _,by simp [lookO,n4,n5],by simp [lookO],fun j h1 h2 h3=>by
  have h4:¬ j=nx+1:=by omega
  simp [lookO,h1,h2,h4]⟩
theorem zFO {nx:Nat} {ob:List (Nat × Option Ob)} (id bid:Nat) (c0:V) (s:Str) (hob:lookO ob id=some (bldO c0 (.own bid))) (hbb:lookO ob bid=some (bufO s)) :
  InlC Tryz.prog 254 [.ptr id 2 0 0] nx ob fun r nx' ob'=>r=.int .i64 s.length∧nx'=nx∧ob'=ob:=by
 have hbl:(zAU s).length=s.length:=by simp [zAU]
 refine InlC.of Tryz.func254 rfl (by kernel_rfl) rfl ?_
 simp only [Tryz.ntmps254,St.startI,argT];refine au1 (kX3 @hob @hbb @hbl) ?_;intros;apply wr;refine zAA ?_;simp
end Go.Proofs.YtoondlebmacanaaGreat
end
