/- A part of the proof of ReplicaBare+ReplicaWindow. -/
import Derived.Test.YtoondlebmacanaaGreatB04
import Derived.Test.YtoondlebmacanaaGreatB26
import Derived.Test.YtoondlebmacanaaGreatB28
import Derived.Shelf.Strings.Repeat
set_option linter.unusedSimpArgs false
set_option linter.unusedVariables false
set_option maxHeartbeats 16000000
set_option maxRecDepth 100000
section
namespace Go.Proofs.YtoondlebmacanaaGreat
open Go.Ab Go.RowKit
def popB (x:Int):Int:=x % 2+x / 2 % 2+x / 4 % 2+x / 8 % 2+x / 16 % 2+x / 32 % 2+x / 64 % 2+x / 128 % 2
theorem popf:∀ k:Fin 256,(((([0,1,1,2,1,2,2,3,1,2,2,3,2,3,3,4,1,2,2,3,2,3,3,4,2,3,3,4,3,4,4,5,1,2,2,3,2,3,3,4,2,3,3,4,3,4,4,5,2,3,3,4,3,4,4,5,3,4,4,5,4,5,5,6,1,2,2,3,2,3,3,4,2,3,3,4,3,4,4,5,2,3,3,4,3,4,4,5,3,4,4,5,4,5,5,6,2,3,3,4,3,4,4,5,3,4,4,5,4,5,5,6,3,4,4,5,4,5,5,6,4,5,5,6,5,6,6,7,1,2,2,3,2,3,3,4,2,3,3,4,3,4,4,5,2,3,3,4,3,4,4,5,3,4,4,5,4,5,5,6,2,3,3,4,3,4,4,5,3,4,4,5,4,5,5,6,3,4,4,5,4,5,5,6,4,5,5,6,5,6,6,7,2,3,3,4,3,4,4,5,3,4,4,5,4,5,5,6,3,4,4,5,4,5,5,6,4,5,5,6,5,6,6,7,3,4,4,5,4,5,5,6,4,5,5,6,5,6,6,7,4,5,5,6,5,6,6,7,5,6,6,7,6,7,7,8]:List UInt8))[k.val]?.getD 0).toNat:Int)=popB (k.val:Int):=by decide +kernel
theorem zMM {x:Int} (h0:0≤x) (h1:x<256):(((([0,1,1,2,1,2,2,3,1,2,2,3,2,3,3,4,1,2,2,3,2,3,3,4,2,3,3,4,3,4,4,5,1,2,2,3,2,3,3,4,2,3,3,4,3,4,4,5,2,3,3,4,3,4,4,5,3,4,4,5,4,5,5,6,1,2,2,3,2,3,3,4,2,3,3,4,3,4,4,5,2,3,3,4,3,4,4,5,3,4,4,5,4,5,5,6,2,3,3,4,3,4,4,5,3,4,4,5,4,5,5,6,3,4,4,5,4,5,5,6,4,5,5,6,5,6,6,7,1,2,2,3,2,3,3,4,2,3,3,4,3,4,4,5,2,3,3,4,3,4,4,5,3,4,4,5,4,5,5,6,2,3,3,4,3,4,4,5,3,4,4,5,4,5,5,6,3,4,4,5,4,5,5,6,4,5,5,6,5,6,6,7,2,3,3,4,3,4,4,5,3,4,4,5,4,5,5,6,3,4,4,5,4,5,5,6,4,5,5,6,5,6,6,7,3,4,4,5,4,5,5,6,4,5,5,6,5,6,6,7,4,5,5,6,5,6,6,7,5,6,6,7,6,7,7,8]:List UInt8))[x.toNat]?.getD 0).toNat:Int)=popB x:=by
 have h:=popf ⟨x.toNat,by omega⟩
 rwa [show ((⟨x.toNat,by omega⟩:Fin 256).val:Int)=x by simp;omega] at h
theorem zF0 (x:Int):0≤popB x∧popB x≤8:=by unfold popB;omega
theorem pb0 (g:Int):g % 256 % 2=g % 2:=by omega
theorem pb1 (g:Int):g % 256 / 2 % 2=g / 2 % 2:=by omega
theorem pb2 (g:Int):g % 256 / 4 % 2=g / 4 % 2:=by omega
theorem pb3 (g:Int):g % 256 / 8 % 2=g / 8 % 2:=by omega
theorem pb4 (g:Int):g % 256 / 16 % 2=g / 16 % 2:=by omega
theorem pb5 (g:Int):g % 256 / 32 % 2=g / 32 % 2:=by omega
theorem pb6 (g:Int):g % 256 / 64 % 2=g / 64 % 2:=by omega
theorem pb7 (g:Int):g % 256 / 128 % 2=g / 128 % 2:=by omega
theorem pb9 (g:Int):g / 256 / 2 % 2=g / 512 % 2:=by omega
theorem pb10 (g:Int):g / 256 / 4 % 2=g / 1024 % 2:=by omega
theorem pb11 (g:Int):g / 256 / 8 % 2=g / 2048 % 2:=by omega
theorem pb12 (g:Int):g / 256 / 16 % 2=g / 4096 % 2:=by omega
theorem pb13 (g:Int):g / 256 / 32 % 2=g / 8192 % 2:=by omega
theorem pb14 (g:Int):g / 256 / 64 % 2=g / 16384 % 2:=by omega
theorem pb15 (g:Int):g / 256 / 128 % 2=g / 32768 % 2:=by omega
theorem pb17 (g:Int):g / 65536 / 2 % 2=g / 131072 % 2:=by omega
theorem pb18 (g:Int):g / 65536 / 4 % 2=g / 262144 % 2:=by omega
theorem pb19 (g:Int):g / 65536 / 8 % 2=g / 524288 % 2:=by omega
theorem pb20 (g:Int):g / 65536 / 16 % 2=g / 1048576 % 2:=by omega
theorem pb21 (g:Int):g / 65536 / 32 % 2=g / 2097152 % 2:=by omega
theorem pb22 (g:Int):g / 65536 / 64 % 2=g / 4194304 % 2:=by omega
theorem pb23 (g:Int):g / 65536 / 128 % 2=g / 8388608 % 2:=by omega
theorem pb25 (g:Int):g / 16777216 / 2 % 2=g / 33554432 % 2:=by omega
theorem pb26 (g:Int):g / 16777216 / 4 % 2=g / 67108864 % 2:=by omega
theorem pb27 (g:Int):g / 16777216 / 8 % 2=g / 134217728 % 2:=by omega
theorem pb28 (g:Int):g / 16777216 / 16 % 2=g / 268435456 % 2:=by omega
theorem pb29 (g:Int):g / 16777216 / 32 % 2=g / 536870912 % 2:=by omega
theorem pb30 (g:Int):g / 16777216 / 64 % 2=g / 1073741824 % 2:=by omega
theorem pb31 (g:Int):g / 16777216 / 128 % 2=g / 2147483648 % 2:=by omega
theorem zJK {g:Int} (h:W32 g):popB (g / 16777216)+popB (g / 65536 % 256)+popB (g / 256 % 256)+popB (g % 256)=countB g:=by
 have e:countB g=g % 2+g / 2 % 2+g / 4 % 2+g / 8 % 2+g / 16 % 2+g / 32 % 2+g / 64 % 2+g / 128 % 2+g / 256 % 2+g / 512 % 2+g / 1024 % 2+g / 2048 % 2+g / 4096 % 2+g / 8192 % 2+g / 16384 % 2+g / 32768 % 2+g / 65536 % 2+g / 131072 % 2+g / 262144 % 2+g / 524288 % 2+g / 1048576 % 2+g / 2097152 % 2+g / 4194304 % 2+g / 8388608 % 2+g / 16777216 % 2+g / 33554432 % 2+g / 67108864 % 2+g / 134217728 % 2+g / 268435456 % 2+g / 536870912 % 2+g / 1073741824 % 2+g / 2147483648 % 2:=by simp [countB,List.range,List.range.loop]
 rw [e];unfold popB;simp only [pb0,pb1,pb2,pb3,pb4,pb5,pb6,pb7,pb9,pb10,pb11,pb12,pb13,pb14,pb15,pb17,pb18,pb19,pb20,pb21,pb22,pb23,pb25,pb26,pb27,pb28,pb29,pb30,pb31];clear e;generalize g % 2=x0;generalize g / 2 % 2=x1;generalize g / 4 % 2=x2;generalize g / 8 % 2=x3;generalize g / 16 % 2=x4;generalize g / 32 % 2=x5;generalize g / 64 % 2=x6;generalize g / 128 % 2=x7;generalize g / 256 % 2=x8;generalize g / 512 % 2=x9;generalize g / 1024 % 2=x10;generalize g / 2048 % 2=x11;generalize g / 4096 % 2=x12;generalize g / 8192 % 2=x13;generalize g / 16384 % 2=x14;generalize g / 32768 % 2=x15;generalize g / 65536 % 2=x16;generalize g / 131072 % 2=x17;generalize g / 262144 % 2=x18;generalize g / 524288 % 2=x19;generalize g / 1048576 % 2=x20;generalize g / 2097152 % 2=x21;generalize g / 4194304 % 2=x22;generalize g / 8388608 % 2=x23;generalize g / 16777216 % 2=x24;generalize g / 33554432 % 2=x25;generalize g / 67108864 % 2=x26;generalize g / 134217728 % 2=x27;generalize g / 268435456 % 2=x28;generalize g / 536870912 % 2=x29;generalize g / 1073741824 % 2=x30;generalize g / 2147483648 % 2=x31;omega
theorem zDS {g:Int} (h:W32 g):0≤countB g∧countB g≤32:=by
 rw [← zJK h];have:=zF0 (g / 16777216);have:=zF0 (g / 65536 % 256);have:=zF0 (g / 256 % 256);have:=zF0 (g % 256);omega
theorem u8_in {n:Int} (h0:0≤n) (h1:n<256):IntKind.u8.wrap n=n:=by rw [IntKind.wrap_u8];omega
theorem zVT (g:Int) (h:W32 g):zAD Tryz.prog 330 [uv g] (iv (countB g)):=by
 have h0:=h.1;have h1:=h.2;have q1:=zMM (x:=g / 16777216) (by omega) (by omega)
 have q2:=zMM (x:=g / 65536 % 256) (by omega) (by omega)
 have q3:=zMM (x:=g / 256 % 256) (by omega) (by omega)
 have q4:=zMM (x:=g % 256) (by omega) (by omega)
 have r1:=zF0 (g / 16777216);have r2:=zF0 (g / 65536 % 256);have r3:=zF0 (g / 256 % 256);have r4:=zF0 (g % 256);have e1:IntKind.u8.wrap (popB (g / 16777216)+popB (g / 65536 % 256))=popB (g / 16777216)+popB (g / 65536 % 256):=u8_in (by omega) (by omega)
 have e2:IntKind.u8.wrap (popB (g / 16777216)+popB (g / 65536 % 256)+popB (g / 256 % 256))=popB (g / 16777216)+popB (g / 65536 % 256)+popB (g / 256 % 256):=u8_in (by omega) (by omega)
 have e3:IntKind.u8.wrap (popB (g / 16777216)+popB (g / 65536 % 256)+popB (g / 256 % 256)+popB (g % 256))=countB g:=by rw [zJK h];have:=zDS h;exact u8_in (by omega) (by omega)
 have e4:IntKind.i64.wrap (countB g)=countB g:=by have:=zDS h;exact zAB (by omega) (by omega)
 refine sZ Tryz.func330 Tryz.ntmps330 ?_
 (refine af1 (kX12 @zF5 @zCp @zBL @zBw @q1 @q2 @q3 @q4 @e1 @e2 @e3 @e4) ?_;intros;apply wr)
 repeat' ((first|(refine zAC rfl (fun h=>?_) (fun h=>?_)<;>(first|(simp [zF5,zCp,zBL,zBw,q1,q2,q3,q4,e1,e2,e3,e4] at h;done)|(simp [zF5,zCp,zBL,zBw,q1,q2,q3,q4,e1,e2,e3,e4] at h)|skip)<;>(first|(exfalso;omega)|skip))|(refine zAG 19 [0,1,3,0,8,24,56,127,0,256,768,1792,4095,0,8192,24576,65535,131071,262143] [(16,([[],[0],[0,1],[],[3],[3,4],[3,4,5],[0,1,2,3,4,5,6],[],[8],[8,9],[8,9,10],[0,1,2,3,4,5,6,7,8,9,10,11],[],[13],[13,14]],[])),(1,([],[])),(1,([],[])),(1,([],[]))] ?_)|exact rt1 (kX12 @zF5 @zCp @zBL @zBw @q1 @q2 @q3 @q4 @e1 @e2 @e3 @e4)|fail)<;>(refine af1 (kX12 @zF5 @zCp @zBL @zBw @q1 @q2 @q3 @q4 @e1 @e2 @e3 @e4) ?_;intros;apply wr))
theorem zI4 (t g:Int) (hw:W32 g):zAD Tryz.prog 309 [.st [uv t,uv g]] (iv (countB g)):=by
 refine sZ Tryz.func309 Tryz.ntmps309 ?_;exact wx (qX1 (zVT g hw)) trivial
theorem zM8 (t g:Int) (hw:W32 g):zAD Tryz.prog 294 [.st [uv t,uv g]] (.bool (zBK t g)):=by
 have e:IntKind.u32.wrap (countB g)=countB g:=by have:=zDS hw;exact u32_in (by omega) (by omega)
 refine sZ Tryz.func294 Tryz.ntmps294 ?_
 (refine af1 (kX2 @e @zBK.eq_1) ?_;intros;apply wr)
 repeat' ((first|(refine zAC rfl (fun h=>?_) (fun h=>?_)<;>(first|(simp [e,zBK] at h;done)|(simp [e,zBK] at h)|skip)<;>(first|(exfalso;omega)|skip))|refine cc1 (zI4 t g hw) (kX2 @e @zBK.eq_1) ?_|(refine zAG 7 [0,1,3,0,8,31,63] [(5,([[],[0],[0,1],[],[3]],[(4,1)])),(1,([],[])),(1,([],[]))] ?_)|exact rt1 (kX2 @e @zBK.eq_1)|fail)<;>(refine af1 (kX2 @e @zBK.eq_1) ?_;intros;apply wr))
theorem zRO (t g p:Int) (hw:W32 g):zAD Tryz.prog 245 [.st [uv t,uv g],iv p] (uv (zI3 t g p)):=by
 have e:IntKind.u32.wrap (countB g)=countB g:=by have:=zDS hw;exact u32_in (by omega) (by omega)
 refine sZ Tryz.func245 Tryz.ntmps245 ?_;exact wx1 (qX1 (zI4 t g hw)) trivial (kX2 @e @zI3.eq_1)
end Go.Proofs.YtoondlebmacanaaGreat
end
section
namespace Go.Proofs.YtoondlebmacanaaGreat
open Go.Ab Go.RowKit
open Go.Proofs (Any.strings_Repeat)
theorem zEU {C D E G:Prop} (c:C) (d:D) (e:E) (t:C→D→E→G:=by intro c d e;(refine af1 e ?_;intros;apply wr);repeat' ((first|(refine zAC rfl (fun h=>?_) (fun h=>?_)<;>(first|(simp [e] at h;done)|(simp [e] at h)|skip)<;>(first|(exfalso;omega)|skip))|((first|refine .inl ⟨1,_,d.1,?_⟩|refine ⟨1,_,d.1,?_⟩);simp [aftC,aftE,noX,noXc,noX1,e];first|refine And.intro zAP ?_|skip)|((first|refine .inl ⟨1,_,d.2.1,?_⟩|refine ⟨1,_,d.2.1,?_⟩);simp [aftC,aftE,noX,noXc,noX1,e];first|refine And.intro zAP ?_|skip)|refine cc1 c.1 e ?_|refine cc1 c.2.1 e ?_|refine cc1 c.2.2.1 e ?_|refine cc1 c.2.2.2.1 e ?_|refine cc1 c.2.2.2.2.1 e ?_|refine cc1 c.2.2.2.2.2.1 e ?_|(refine zAG (rid:=2) 5 [0,0,2,7,15] [(3,([[],[],[1]],[(0,2)])),(1,([],[])),(1,([],[]))] ?_)|(refine zAG (rid:=12) 5 [0,0,2,7,15] [(3,([[],[],[1]],[(0,2)])),(1,([],[])),(1,([],[]))] ?_)|exact rt1 e|fail)<;>(refine af1 e ?_;intros;apply wr))):G:=t c d e
theorem bldX:Builder.Extra Tryz.prog repLays_ren:={sizeBuilder:=by kernel_rfl,liesBuilder:=by kernel_rfl,t5:=Tryz.underlying5,a5:=Tryz.isAgg5,z5:=Tryz.sizeOf5,v5:=Tryz.zeroValue5,infoByte:=by kernel_rfl,cellsByte:=by kernel_rfl,sizeByte:=by kernel_rfl,neB5:=by decide}
theorem vals2 {a b:Value} {vals:Array Value} (hs:vals.size=2) (h0:vals.getD 0 undef=a) (h1:vals.getD 1 undef=b):vals=#[a,b]:=by
 apply Array.ext
 ·simpa using hs
 intro i hi hi'
 have:i=0∨i=1:=by simp at hi';omega
 rcases this with rfl|rfl
 ·simpa [Array.getD,hi] using h0
 simpa [Array.getD,hi] using h1
theorem zS3 (n:Nat):Lib.repeatL ([0]:Str) n=List.replicate n 0:=by
 induction n with
 | zero=>rfl
 | succ n ih=>simp [Lib.repeatL,List.replicate_succ,ih]
theorem rep_ok:zAD Tryz.prog 312 [.str [0],iv 128] (.str zB3):=by
 refine ⟨by kernel_rfl,fun w Xa vals M hXa hs hrr=>?_⟩
 obtain rfl:=vals2 hs (zDn (hrr 0 _ rfl)) (zCN (hrr 1 _ rfl));have h:=Any.strings_Repeat repLays bldX ⟨[0].toArray⟩ 128 w (by omega) (by simp [ByteArray.size])
 refine h.mono ?_;rintro e w' ⟨rfl,hb⟩;have he:Lib.repeatL (⟨[0].toArray⟩:ByteArray).data.toList 128=zB3:=zS3 128
 rw [he];refine ⟨_,rfl,hb,fun M n' hM=>⟨.str _ _,fun id o ho=>?_,fun id id' o o' g ho=>?_⟩⟩
 ·simp [V.fcells,V.cells,obsL,lookO] at ho
 simp [V.fcells,V.cells,obsL,lookO] at ho
theorem pow_in {v:Int} (h0:0≤v) (h1:v<32):IntKind.u32.wrap (1*2 ^ min v.toNat 32)=2 ^ v.toNat:=by
 have h:∀ k:Fin 32,IntKind.u32.wrap (1*2 ^ min k.val 32)=2 ^ k.val:=by decide +kernel
 exact h ⟨v.toNat,by omega⟩
theorem zOI (t g:Int) (l:List Int) (p v:Int) (hg:W32 g) (hv:W32 v) (hb:l.length≤100000) :
  zAD Tryz.prog 249 [.st [uv t,uv g],memV l,iv p,uv v] (.tup [.st [uv t,uv (zAh g l p v).1],memV (zAh g l p v).2]):=by
 have hp:=zAb l;have hcl:=zBi (ints .u32 l) false 1 (.inl rfl) (by rw [zAN];exact hb)
 by_cases h32:32≤v
 ·have hE:zAh g l p v=(g,l):=by unfold zAh;rw [if_pos h32]
  rw [hE];refine sZ Tryz.func249 Tryz.ntmps249 ?_;exact zEU (qX1 (hcl)) trivial @h32
 have hpw:=pow_in hv.1 (by omega:v<32)
 simp at hpw;have hw1:IntKind.i64.wrap v=v:=zAB (by have:=hv.1;omega) (by omega)
 have hia:=zR3 hg v.toNat (by omega)
 by_cases h10:p=10
 ·subst h10;by_cases hpg:v<pagesD l
  ·by_cases hbit:g / 2 ^ v.toNat % 2=0
   ·have hE:zAh g l 10 v=(ior .u32 g (2 ^ v.toNat),zBV l v zB3):=by unfold zAh;rw [if_neg h32,if_pos rfl,if_pos ⟨hpg,hbit⟩]
    rw [hE];refine sZ Tryz.func249 Tryz.ntmps249 ?_;exact zEU (qX3 (zBz l) (rep_ok) (zFj l v zB3 hv.1 hpg (by simp [zB3]))) trivial (kX6 @h32 @hpw @hw1 @hia @hpg @hbit)
   have hE:zAh g l 10 v=(g,l):=by unfold zAh;rw [if_neg h32,if_pos rfl,if_neg (fun q=>hbit q.2)]
   rw [hE];refine sZ Tryz.func249 Tryz.ntmps249 ?_;exact zEU (qX2 (zBz l) (hcl)) trivial (kX6 @h32 @hpw @hw1 @hia @hpg @hbit)
  have hE:zAh g l 10 v=(g,l):=by unfold zAh;rw [if_neg h32,if_pos rfl,if_neg (fun q=>hpg q.1)]
  rw [hE];refine sZ Tryz.func249 Tryz.ntmps249 ?_;exact zEU (qX2 (zBz l) (hcl)) trivial (kX4 @h32 @hpw @hw1 @hpg)
 by_cases h11:p=11
 ·subst h11;have hE:zAh g l 11 v=(zAV .u32 g (2 ^ v.toNat),l):=by unfold zAh;rw [if_neg h32];simp
  rw [hE];refine sZ Tryz.func249 Tryz.ntmps249 ?_;exact zEU (qX1 (hcl)) trivial (kX2 @h32 @hpw)
 have hE:zAh g l p v=(g,l):=by unfold zAh;rw [if_neg h32,if_neg h10,if_neg h11]
 rw [hE];refine sZ Tryz.func249 Tryz.ntmps249 ?_;exact zEU (qX1 (hcl)) trivial (kX4 @h32 @hpw @h10 @h11)
end Go.Proofs.YtoondlebmacanaaGreat
end
