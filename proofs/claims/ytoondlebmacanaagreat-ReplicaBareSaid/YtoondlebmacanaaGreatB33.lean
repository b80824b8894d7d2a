/- A part of the proof of ReplicaBare+ReplicaWindow. -/
import Derived.Test.YtoondlebmacanaaGreatB29
import Derived.Test.YtoondlebmacanaaGreatB31
set_option linter.unusedSimpArgs false
set_option linter.unusedVariables false
set_option maxHeartbeats 16000000
set_option maxRecDepth 100000
section
namespace Go.Proofs.YtoondlebmacanaaGreat
open Go.Ab Go.RowKit
theorem zKQ (m:MchD) (p v t:Int) (hM:OkM m) (hv:W32 v):zAD Tryz.prog 181 [.st m.row,iv p,uv v,lv t] (.tup [.st (zAJ m p v t).1.row,zFb (zAJ m p v t).2]):=by
 have hd:=zOg m.dk m.mem p v t hM.d.c hv;have hn:=zPb m.nc m.mem p v t hM.r.a hM.r.b;have hb:=zOI m.tgt m.given m.mem p v hM.gv hv (by have:=hM.n;omega)
 by_cases h0:p=0
 ·subst h0;have hbv:zB0 [.int .u8 (IntKind.u8.wrap v)]:=zJD v;have hE:zAJ m 0 v t=(m,[⟨1,t,0,[UInt8.ofNat (v % 256).toNat]⟩]):=by simp [zAJ]
  have hw:zDp [.int .u8 (IntKind.u8.wrap v)]=UInt8.ofNat (v % 256).toNat:=by simp [zDp,IntKind.wrap_u8]
  rw [hE];refine sZ Tryz.func181 Tryz.ntmps181 ?_;exact wx1 trivial trivial (kX3 @hbv @hw @zK0)
 by_cases h3:p=3
 ·subst h3;have hE:zAJ m 3 v t=({m with tim:=armD v},[]):=by simp [zAJ]
  rw [hE];refine sZ Tryz.func181 Tryz.ntmps181 ?_;exact wx1 (qX1 (arm_ok m.tim v)) trivial @outs.eq_1
 by_cases h4:p=4∨p=5∨p=6
 ·have hE:zAJ m p v t=({m with dk:=(zAn m.dk m.mem p v t).1},(zAn m.dk m.mem p v t).2):=by unfold zAJ;rw [if_neg h0,if_neg h3,if_pos h4]
  rw [hE];generalize zAn m.dk m.mem p v t=R at *
  rcases h4 with rfl|rfl|rfl
  ·refine sZ Tryz.func181 Tryz.ntmps181 ?_;exact wx (qX1 (hd)) trivial
  ·refine sZ Tryz.func181 Tryz.ntmps181 ?_;exact wx (qX1 (hd)) trivial
  refine sZ Tryz.func181 Tryz.ntmps181 ?_;exact wx (qX1 (hd)) trivial
 by_cases h7:p=7∨p=8∨p=9
 ·have hE:zAJ m p v t=({m with nc:=(zAd m.nc m.mem p v t).1},(zAd m.nc m.mem p v t).2):=by unfold zAJ;rw [if_neg h0,if_neg h3,if_neg h4,if_pos h7]
  rw [hE];generalize zAd m.nc m.mem p v t=R at *
  rcases h7 with rfl|rfl|rfl
  ·refine sZ Tryz.func181 Tryz.ntmps181 ?_;exact wx (qX1 (hn)) trivial
  ·refine sZ Tryz.func181 Tryz.ntmps181 ?_;exact wx (qX1 (hn)) trivial
  refine sZ Tryz.func181 Tryz.ntmps181 ?_;exact wx (qX1 (hn)) trivial
 by_cases h10:p=10∨p=11
 ·have hE:zAJ m p v t=({m with given:=(zAh m.given m.mem p v).1,mem:=(zAh m.given m.mem p v).2},[]):=by unfold zAJ;rw [if_neg h0,if_neg h3,if_neg h4,if_neg h7,if_pos h10]
  rw [hE];generalize zAh m.given m.mem p v=R at *
  rcases h10 with rfl|rfl
  ·refine sZ Tryz.func181 Tryz.ntmps181 ?_;exact wx (qX1 (hb)) trivial
  refine sZ Tryz.func181 Tryz.ntmps181 ?_;exact wx (qX1 (hb)) trivial
 have hE:zAJ m p v t=(m,[]):=by unfold zAJ;rw [if_neg h0,if_neg h3,if_neg h4,if_neg h7,if_neg h10]
 rw [hE];have n4:¬ p=4:=by omega
 have n5:¬ p=5:=by omega
 have n6:¬ p=6:=by omega
 have n7:¬ p=7:=by omega
 have n8:¬ p=8:=by omega
 have n9:¬ p=9:=by omega
 have n10:¬ p=10:=by omega
 have n11:¬ p=11:=by omega
 refine sZ Tryz.func181 Tryz.ntmps181 ?_;exact wx1 trivial trivial (kX10 @h0 @h3 @n4 @n5 @n6 @n7 @n8 @n9 @n10 @n11)
theorem zEZ (m:MchD) (p k:Int):(zAS m p k).1.count=m.count:=by unfold zAS;(repeat' split)<;>rfl
theorem zEC (m:MchD) (p v t:Int):(zAJ m p v t).1.count=m.count:=by unfold zAJ;(repeat' split)<;>rfl
theorem zKT (m:MchD):(zAO m).count=m.count:=by unfold zAO;split;rfl;split<;>rfl
theorem zSN (m:MchD) {r:Int} (v:Int) (h0:0≤r) (h1:r≤15):m.row.set r.toNat (uv v)=({m with cpu:=m.cpu.setX r v}:MchD).row:=by
 rcases zGw h0 h1 with rfl|rfl|rfl|rfl|rfl|rfl|rfl|rfl|rfl|rfl|rfl|rfl|rfl|rfl|rfl|rfl<;>simp [CpuD.setX]
theorem step_ok (m:MchD) (k:Int) (hM:OkM m) :
  zAD Tryz.prog 121 [.st m.row,uv k] (.tup [.st (stepD m k).1.row,zFb (stepD m k).2]):=by
 obtain ⟨hb,he⟩:=zGC hM;have hcl:=zBi (ints .u32 m.mem) false 1 (.inl rfl) (by rw [zAN];have:=hM.n;omega)
 have hr:=zQZ m hM;cases hR:runsD m with
 | false =>
  have hE:stepD m k=(m,[]):=by unfold stepD;rw [hR];rfl
  rw [hR] at hr;rw [hE];refine sZ Tryz.func121 Tryz.ntmps121 ?_;exact wx (qX2 (hcl) (hr)) trivial
 | true =>
  have hE:stepD m k=goD m k:=by unfold stepD;rw [hR];rfl
  rw [hR] at hr;rw [hE];have hx:=zOn (zAO m).cpu m.mem (zGY hM) hM.w (by have:=hM.n;omega)
  have hbe:=zLX m hM;have hm:=zKU m;have hbc:=zKT m;have hct0:=hM.ct;unfold goD effD zCC;unfold effD at he;unfold zCC at hb;generalize zAO m=b at *
  generalize zAr b.cpu m.mem=Z at *
  obtain ⟨M,hMd⟩:∃ M:MchD,M={b with cpu:=Z.1,mem:=Z.2.1}:=⟨_,rfl⟩
  have hMc:M.count=m.count:=by rw [hMd];exact hbc
  rw [← hMd] at hb ⊢;by_cases k1:Z.2.2.kind=1
  ·obtain ⟨r0,r1⟩:=he.r k1;have hp:=zK8 M Z.2.2.port k hb;have hc:=zEZ M Z.2.2.port k;have hD:zBQ M Z.2.2 k m.count=({(zAS M Z.2.2.port k).1 with cpu:=(zAS M Z.2.2.port k).1.cpu.setR Z.2.2.reg (zAS M Z.2.2.port k).2},[]):=by unfold zBQ;rw [if_pos k1]
   rw [hD];generalize zAS M Z.2.2.port k=R at *
   rw [hMc] at hc;have hct:IntKind.u64.wrap (R.1.count+1)=R.1.count+1:=u64_in (by omega) (by omega)
   subst hMd;by_cases hz:Z.2.2.reg=0
   ·refine sZ Tryz.func121 Tryz.ntmps121 ?_;exact wx1 (qX5 (hcl) (hr) (hbe) (hx) (hp)) trivial (kX5 @hm @k1 @hz @hct @CpuD.setR.eq_1)
   have hs:=zSN R.1 R.2 r0 r1;simp at hs;refine sZ Tryz.func121 Tryz.ntmps121 ?_;exact wx1 (qX5 (hcl) (hr) (hbe) (hx) (hp)) trivial (kX6 @hm @k1 @hz @hct @hs @CpuD.setR.eq_1)
  by_cases k2:Z.2.2.kind=2
  ·have hp:=zKQ M Z.2.2.port Z.2.2.val m.count hb he.v;have hc:=zEC M Z.2.2.port Z.2.2.val m.count;have hD:zBQ M Z.2.2 k m.count=zAJ M Z.2.2.port Z.2.2.val m.count:=by unfold zBQ;rw [if_neg k1,if_pos k2]
   rw [hD];generalize zAJ M Z.2.2.port Z.2.2.val m.count=R at *
   rw [hMc] at hc;have hct:IntKind.u64.wrap (R.1.count+1)=R.1.count+1:=u64_in (by omega) (by omega)
   subst hMd;refine sZ Tryz.func121 Tryz.ntmps121 ?_;exact wx1 (qX5 (hcl) (hr) (hbe) (hx) (hp)) trivial (kX3 @hm @k2 @hct)
  have hct:IntKind.u64.wrap (b.count+1)=b.count+1:=u64_in (by omega) (by omega)
  by_cases k3:Z.2.2.kind=3
  ·have hD:zBQ M Z.2.2 k m.count=({M with waiting:=true},[]):=by unfold zBQ;rw [if_neg k1,if_neg k2,if_pos k3]
   rw [hD];subst hMd;refine sZ Tryz.func121 Tryz.ntmps121 ?_;exact wx1 (qX4 (hcl) (hr) (hbe) (hx)) trivial (kX3 @hm @k3 @hct)
  by_cases k4:Z.2.2.kind=4
  ·have hD:zBQ M Z.2.2 k m.count=({M with halted:=true},[]):=by unfold zBQ;rw [if_neg k1,if_neg k2,if_neg k3,if_pos k4]
   rw [hD];subst hMd;refine sZ Tryz.func121 Tryz.ntmps121 ?_;exact wx1 (qX4 (hcl) (hr) (hbe) (hx)) trivial (kX3 @hm @k4 @hct)
  have hD:zBQ M Z.2.2 k m.count=(M,[]):=by unfold zBQ;rw [if_neg k1,if_neg k2,if_neg k3,if_neg k4]
  rw [hD];subst hMd;refine sZ Tryz.func121 Tryz.ntmps121 ?_;exact wx1 (qX4 (hcl) (hr) (hbe) (hx)) trivial (kX6 @hm @k1 @k2 @k3 @k4 @hct)
end Go.Proofs.YtoondlebmacanaaGreat
end
