/- A part of the proof of ReplicaBare+ReplicaWindow. -/
import Derived.Test.YtoondlebmacanaaGreatB04
import Derived.Test.YtoondlebmacanaaGreatB15
set_option linter.unusedSimpArgs false
set_option linter.unusedVariables false
set_option maxHeartbeats 16000000
set_option maxRecDepth 100000
section
namespace Go.Proofs.YtoondlebmacanaaGreat
open Go.Ab Go.RowKit
theorem zBw (x:Int):iand .u32 x 255=x % 256:=zAY x 8 256 (by omega) (by decide)
theorem u64_in {n:Int} (h0:0≤n) (h1:n<18446744073709551616):IntKind.u64.wrap n=n:=by rw [IntKind.wrap_u64];omega
theorem u32_in {n:Int} (h0:0≤n) (h1:n<4294967296):IntKind.u32.wrap n=n:=by rw [IntKind.wrap_u32];omega
theorem u32c (n:Int) (h:(0≤n∧n<4294967296)=True):IntKind.u32.wrap n=n:=u32_in (of_eq_true h).1 (of_eq_true h).2
theorem u64c (n:Int) (h:(0≤n∧n<18446744073709551616)=True):IntKind.u64.wrap n=n:=u64_in (of_eq_true h).1 (of_eq_true h).2
theorem i64c (n:Int) (h:(-9223372036854775808≤n∧n≤9223372036854775807)=True):IntKind.i64.wrap n=n:=zAB (of_eq_true h).1 (of_eq_true h).2
theorem zKF {a:Int} (h:W32 a):IntKind.u32.wrap (a.tdiv 4)=a / 4:=by rw [Int.tdiv_eq_ediv_of_nonneg h.1,IntKind.wrap_u32];have:=h.1;have:=h.2;omega
theorem zIp {a:Int} (h:0≤a):a.tmod 4=a % 4:=Int.tmod_eq_emod_of_nonneg h
theorem zEq (w low:Int) (h0:0≤low) (h1:low≤31):zAD Tryz.prog 298 [uv w,iv low,iv 8] (uv (w / 2 ^ low.toNat % 256)):=by
 have e1:IntKind.u64.wrap low=low:=u64_in h0 (by omega)
 have e2:iand .u32 (w.fdiv (2 ^ min low.toNat 32)) 255=w / 2 ^ low.toNat % 256:=by
  rw [zBw,zWb (by omega),zWZ _ (zWm (zWo (by decide)))]
 refine sZ Tryz.func298 Tryz.ntmps298 ?_;exact wx1 (qX1 (zC3)) trivial (kX2 @e1 @e2)
theorem zV4 (w k v:Int) (hw:W32 w) (hk:k=0∨k=1∨k=2∨k=3):zAD Tryz.prog 327 [uv w,iv (k*8),iv 8,uv v] (uv (putB w k v)):=by
 have e2:=setB w v k hw hk;rcases hk with rfl|rfl|rfl|rfl
 all_goals simp at e2
 ·have e3:IntKind.u32.wrap (v % 256)=v % 256:=u32_in (by omega) (by omega)
  refine sZ Tryz.func327 Tryz.ntmps327 ?_;exact wx1 (qX1 (zC3)) trivial (kX4 @zBw @e2 @e3 @u32c)
 ·have e3:IntKind.u32.wrap (v % 256*256)=v % 256*256:=u32_in (by omega) (by omega)
  refine sZ Tryz.func327 Tryz.ntmps327 ?_;exact wx1 (qX1 (zC3)) trivial (kX4 @zBw @e2 @e3 @u32c)
 ·have e3:IntKind.u32.wrap (v % 256*65536)=v % 256*65536:=u32_in (by omega) (by omega)
  refine sZ Tryz.func327 Tryz.ntmps327 ?_;exact wx1 (qX1 (zC3)) trivial (kX4 @zBw @e2 @e3 @u32c)
 have e3:IntKind.u32.wrap (v % 256*16777216)=v % 256*16777216:=u32_in (by omega) (by omega)
 refine sZ Tryz.func327 Tryz.ntmps327 ?_;exact wx1 (qX1 (zC3)) trivial (kX4 @zBw @e2 @e3 @u32c)
theorem zH0 (l:List Int) (a s:Int) (hs:s=1∨s=4) (ha:W32 a):zAD Tryz.prog 324 [memV l,uv a,iv s] (.bool (zAT l a s)):=by
 have e1:IntKind.u64.wrap a=a:=u64_in ha.1 (by have:=ha.2;omega)
 have e2:IntKind.u64.wrap (pagesD l)=pagesD l:=u64_in (zAb l).1 (by have:=zAb l;omega)
 have e3:IntKind.u64.wrap (pagesD l*128)=pagesD l*128:=u64_in (by have:=zAb l;omega) (by have:=zAb l;omega)
 have e4:IntKind.u64.wrap (a+s)=a+s:=u64_in (by have:=ha.1;omega) (by have:=ha.2;omega)
 have e5:=zIp ha.1;rcases hs with rfl|rfl
 ·refine sZ Tryz.func324 Tryz.ntmps324 ?_;exact wx1 (qX1 (zBz l)) trivial (kX8 @e1 @e2 @e3 @e4 @e5 @zAT.eq_1 @u32c @u64c)
 refine sZ Tryz.func324 Tryz.ntmps324 ?_;exact wx1 (qX1 (zBz l)) trivial (kX8 @e1 @e2 @e3 @e4 @e5 @zAT.eq_1 @u32c @u64c)
theorem zBM {l:List Int} {a s:Int} (h:zAT l a s=true) (ha:0≤a):(a / 4).toNat<l.length:=by
 unfold zAT at h;simp only [zWd,Bool.or_eq_true,decide_eq_true_eq] at h;have hp:pagesD l≠0:=by
  intro q
  rw [q] at h;omega
 have:=zBo hp;omega
theorem zBU {k:IntKind} {l:List Int} {n:Nat} {w:Int} (h:l[n]? =some w):(ints k l)[n]? =some [.int k w]:=by simp [ints,h]
theorem zD8 {l:List Int} {a:Int} (h:a.toNat<l.length):l[a.toNat]? =some (wAt l a):=by
 unfold wAt;rw [zWX,zWa h];rfl
theorem ints_set (k:IntKind) (l:List Int) (n:Nat) (v:Int):(ints k l).set n [.int k v]=ints k (l.set n v):=by simp [ints,List.map_set]
theorem zAP {k:IntKind} {l:List Int}:∀ x:List V,x∈ints k l→∀ c:V,c∈x→noX1 c=true:=by
 intro x hx c hc
 simp only [ints,List.mem_map] at hx;obtain ⟨n,_,rfl⟩:=hx;simp only [List.mem_singleton] at hc;subst hc;rfl
theorem zRU (w a:Int):w / 2 ^ (a % 4*8).toNat % 256=byteAt w (a % 4):=by rw [Int.mul_comm];rfl
theorem zEw (l:List Int) (a s:Int) (hs:s=1∨s=4) (ha:W32 a):zAD Tryz.prog 297 [memV l,uv a,iv s] (.tup [uv (if zAT l a s=true then zBY l a s else 0),.bool (zAT l a s)]):=by
 have hW:=zH0 l a s hs ha;cases hw:zAT l a s with
 | false =>
  rw [hw] at hW;refine sZ Tryz.func297 Tryz.ntmps297 ?_;exact wx (qX1 (hW)) trivial
 | true =>
  rw [hw] at hW;have hi:=zBM hw ha.1;have e1:=zKF ha;obtain ⟨w,hw'⟩:∃ w,w=wAt l (a / 4):=⟨_,rfl⟩;have e2:=zBU (k:=.u32) (zD8 hi);rw [← hw'] at e2;have hw2:=hw'.symm;have e3:=zAN .u32 l;have e4:=zIp ha.1;have e5:IntKind.i64.wrap (a % 4)=a % 4:=zAB (by omega) (by omega)
  have e6:IntKind.i64.wrap (a % 4*8)=a % 4*8:=zAB (by omega) (by omega)
  have e7:(0:Int)≤a / 4:=by have:=ha.1;omega
  have e8:a / 4<(l.length:Int):=by omega
  rcases hs with rfl|rfl
  ·refine sZ Tryz.func297 Tryz.ntmps297 ?_;exact wx1 (qX2 (hW) (zEq w (a % 4*8) (by omega) (by omega))) trivial (kX9 @e1 @e2 @e3 @e4 @e5 @e6 @zRU @zBY.eq_1 @hw2)
  refine sZ Tryz.func297 Tryz.ntmps297 ?_;exact wx1 (qX1 (hW)) trivial (kX6 @e1 @e2 @e3 @e4 @zBY.eq_1 @hw2)
theorem zG4 (l:List Int) (a s v:Int) (hs:s=1∨s=4) (ha:W32 a) (hl:OkW l) (hb:l.length≤100000):zAD Tryz.prog 304 [memV l,uv a,iv s,uv v] (.tup [memV (if zAT l a s=true then zBt l a s v else l),.bool (zAT l a s)]):=by
 have hW:=zH0 l a s hs ha;have e3:=zAN .u32 l;cases hw:zAT l a s with
 | false =>
  rw [hw] at hW;refine sZ Tryz.func304 Tryz.ntmps304 ?_;exact wx (qX1 (hW)) (qX1 (zBi (ints .u32 l) false 1 (.inl rfl) (by rw [e3];exact hb)))
 | true =>
  rw [hw] at hW;have hi:=zBM hw ha.1;have e1:=zKF ha;obtain ⟨w,hw'⟩:∃ w,w=wAt l (a / 4):=⟨_,rfl⟩;have e2:=zBU (k:=.u32) (zD8 hi);rw [← hw'] at e2;have hw2:=hw'.symm;have e4:=zIp ha.1;have e5:IntKind.i64.wrap (a % 4)=a % 4:=zAB (by omega) (by omega)
  have e6:IntKind.i64.wrap (a % 4*8)=a % 4*8:=zAB (by omega) (by omega)
  have e7:(0:Int)≤a / 4:=by have:=ha.1;omega
  have e8:a / 4<(l.length:Int):=by omega
  rcases hs with rfl|rfl
  ·refine sZ Tryz.func304 Tryz.ntmps304 ?_;exact wx1 (qX2 (hW) (zV4 w (a % 4) v (by rw [hw'];exact zLO hl _) (by omega))) (qX1 (zBi (ints .u32 l) false 1 (.inl rfl) (by rw [e3];exact hb))) (kX9 @e1 @e2 @e3 @e4 @e5 @e6 @ints_set @zBt.eq_1 @hw2)
  refine sZ Tryz.func304 Tryz.ntmps304 ?_;exact wx1 (qX1 (hW)) (qX1 (zBi (ints .u32 l) false 1 (.inl rfl) (by rw [e3];exact hb))) (kX7 @e1 @e2 @e3 @e4 @ints_set @zBt.eq_1 @hw2)
theorem zDI (l:List Int) (f:Int) (h:W32 f):zAD Tryz.prog 337 [memV l,uv f] (.bool (decide (f<pagesD l))):=by
 have e1:IntKind.u64.wrap f=f:=u64_in h.1 (by have:=h.2;omega)
 have e2:IntKind.u64.wrap (pagesD l)=pagesD l:=u64_in (zAb l).1 (by have:=zAb l;omega)
 refine sZ Tryz.func337 Tryz.ntmps337 ?_;exact wx1 (qX1 (zBz l)) trivial (kX2 @e1 @e2)
theorem zDH (a:Int) (h:a=1∨a=2∨a=3):zAD Tryz.prog 336 [iv a] (.tup [iv (a+3),.bool true]):=by
 rcases h with rfl|rfl|rfl
 ·refine sZ Tryz.func336 Tryz.ntmps336 ?_;exact wx trivial trivial
 ·refine sZ Tryz.func336 Tryz.ntmps336 ?_;exact wx trivial trivial
 refine sZ Tryz.func336 Tryz.ntmps336 ?_;exact wx trivial trivial
theorem zCF (a:Int) (h:a=1∨a=2∨a=3):zAD Tryz.prog 321 [iv a] (.tup [iv (a+3),.bool true]):=by
 rcases h with rfl|rfl|rfl
 ·refine sZ Tryz.func321 Tryz.ntmps321 ?_;exact wx trivial trivial
 ·refine sZ Tryz.func321 Tryz.ntmps321 ?_;exact wx trivial trivial
 refine sZ Tryz.func321 Tryz.ntmps321 ?_;exact wx trivial trivial
theorem zHl (w:Int):zAD Tryz.prog 339 [uv w] (uv (w / 256 % 256)):=by
 refine sZ Tryz.func339 Tryz.ntmps339 ?_;exact wx (qX1 (zEq w 8 (by decide) (by decide))) trivial
theorem zFc (w a:Int):zAD Tryz.prog 338 [uv w,iv a] (.bool (zIe w a)):=by
 refine sZ Tryz.func338 Tryz.ntmps338 ?_;exact wx1 trivial trivial @zIe.eq_1
theorem zGH {l:List Int} {root va:Int} (h:root<pagesD l) (h0:0≤root) (hv:va<4096) (hv0:0≤va):zAT l (root*128+va / 128*4) 4=true:=by
 unfold zAT;simp only [zWd,Bool.or_eq_true,decide_eq_true_eq];have q:(root*128+va / 128*4) % 4=0:=by omega
 have q2:root*128+va / 128*4+4≤pagesD l*128:=by omega
 simp [q,q2]
def zB5 (l:List Int) (root va acc:Int):V:=match zD9 l root va acc with
 | some (a,e)=>.st [uv a,uv e,iv 0]
 | none=>.st [uv 0,uv 0,iv (acc+3)]
theorem zWP (l:List Int) (root va acc:Int) (hr:W32 root) (hv:W32 va) (ha:acc=1∨acc=2∨acc=3):zAD Tryz.prog 322 [memV l,uv root,uv va,iv acc] (zB5 l root va acc):=by
 have hp:=zAb l;by_cases h1:va<4096
 ·by_cases h2:root<pagesD l
  ·have hi:=zGH h2 hr.1 h1 hv.1;obtain ⟨e,he⟩:∃ e,e=root*128+va / 128*4:=⟨_,rfl⟩;rw [← he] at hi;have w1:IntKind.u32.wrap (va.tdiv 128)=va / 128:=by rw [Int.tdiv_eq_ediv_of_nonneg hv.1];exact u32_in (by omega) (by omega)
   have w2:IntKind.u32.wrap (4*(va / 128))=va / 128*4:=by rw [u32_in (by omega) (by omega)];omega
   have w3:IntKind.u32.wrap (root*128)=root*128:=u32_in (by omega) (by omega)
   have w4:IntKind.u32.wrap (root*128+va / 128*4)=e:=by rw [he];exact u32_in (by omega) (by omega)
   have hl:=zEw l e 4 (.inr rfl) ⟨by omega,by omega⟩
   rw [hi] at hl;simp only [if_true] at hl;obtain ⟨w,hw⟩:∃ w,w=wAt l (e / 4):=⟨_,rfl⟩;rw [show zBY l e 4=w by rw [hw];simp [zBY]] at hl
   have w5:va.tmod 128=va % 128:=Int.tmod_eq_emod_of_nonneg hv.1;by_cases h3:zIe w acc=true
   ·by_cases h4:w / 256 % 256<pagesD l
    ·have w6:IntKind.u32.wrap (w / 256 % 256*128)=w / 256 % 256*128:=u32_in (by omega) (by omega)
     have w7:IntKind.u32.wrap (w / 256 % 256*128+va % 128)=w / 256 % 256*128+va % 128:=u32_in (by omega) (by omega)
     have hV:zB5 l root va acc=.st [uv (w / 256 % 256*128+va % 128),uv e,iv 0]:=by
      unfold zB5 zD9;rw [← he,← hw,if_pos ⟨h1,h2,h3,h4⟩]
     rw [hV];refine sZ Tryz.func322 Tryz.ntmps322 ?_;exact wx1 (qX6 (zDH acc ha) (zDI l root hr) (hl) (zFc w acc) (zHl w) (zDI l (w / 256 % 256) ⟨by omega,by omega⟩)) trivial (kX11 @w1 @w2 @w3 @w4 @w5 @w6 @w7 @h1 @h2 @h3 @h4)
    have hV:zB5 l root va acc=.st [uv 0,uv 0,iv (acc+3)]:=by
     unfold zB5 zD9;rw [← he,← hw,if_neg (fun q=>h4 q.2.2.2)]
    rw [hV];refine sZ Tryz.func322 Tryz.ntmps322 ?_;exact wx1 (qX6 (zDH acc ha) (zDI l root hr) (hl) (zFc w acc) (zHl w) (zDI l (w / 256 % 256) ⟨by omega,by omega⟩)) trivial (kX8 @w1 @w2 @w3 @w4 @h1 @h2 @h3 @h4)
   have hV:zB5 l root va acc=.st [uv 0,uv 0,iv (acc+3)]:=by
    unfold zB5 zD9;rw [← he,← hw,if_neg (fun q=>h3 q.2.2.1)]
   rw [hV];refine sZ Tryz.func322 Tryz.ntmps322 ?_;exact wx1 (qX4 (zDH acc ha) (zDI l root hr) (hl) (zFc w acc)) trivial (kX7 @w1 @w2 @w3 @w4 @h1 @h2 @h3)
  have hV:zB5 l root va acc=.st [uv 0,uv 0,iv (acc+3)]:=by
   unfold zB5 zD9;rw [if_neg (fun q=>h2 q.2.1)]
  rw [hV];refine sZ Tryz.func322 Tryz.ntmps322 ?_;exact wx1 (qX2 (zDH acc ha) (zDI l root hr)) trivial (kX2 @h1 @h2)
 have hV:zB5 l root va acc=.st [uv 0,uv 0,iv (acc+3)]:=by
  unfold zB5 zD9;rw [if_neg (fun q=>h1 q.1)]
 rw [hV];have h1':4096≤va:=by omega
 refine sZ Tryz.func322 Tryz.ntmps322 ?_;exact wx1 (qX1 (zDH acc ha)) trivial (kX2 @h1 @h1')
theorem zTQ (l:List Int) (e acc:Int) (hi:zAT l e 4=true) (he:W32 e) (hl:OkW l) (hb:l.length≤100000):zAD Tryz.prog 323 [memV l,uv e,iv acc] (memV (zC8 l e acc)):=by
 have h1:=zEw l e 4 (.inr rfl) he;rw [hi] at h1;simp only [if_true] at h1;rw [show zBY l e 4=wAt l (e / 4) by simp [zBY]] at h1
 have h2:=zG4 l e 4 (ior .u32 (wAt l (e / 4)) 8) (.inr rfl) he hl hb;have h3:=zG4 l e 4 (ior .u32 (ior .u32 (wAt l (e / 4)) 8) 16) (.inr rfl) he hl hb;rw [hi] at h2 h3;simp only [if_true] at h2 h3;by_cases ha:acc=3
 ·subst ha;refine sZ Tryz.func323 Tryz.ntmps323 ?_;exact wx1 (qX2 (h1) (h3)) trivial (kX3 @zC8.eq_1 @zHy.eq_1 @zBt.eq_1)
 refine sZ Tryz.func323 Tryz.ntmps323 ?_;exact wx1 (qX2 (h1) (h2)) trivial (kX4 @zC8.eq_1 @zHy.eq_1 @zBt.eq_1 @ha)
structure OkC (c:CpuD):Prop where
 x:∀ i,W32 (c.x i)
 pc:W32 c.pc
 csr:∀ i,W32 (c.csr i)
 s:c.csr 0≤31
theorem kernel_ok (c:CpuD) (h:OkC c):zAD Tryz.prog 237 [.st c.row] (.bool (!decide (c.csr 0 % 2=0))):=by
 have e:=zPD (h.csr 0);refine sZ Tryz.func237 Tryz.ntmps237 ?_;exact wx1 trivial trivial @e
theorem zIr (b:Bool):zAD Tryz.prog 329 [.bool b] (uv (b2w b)):=by
 refine sZ Tryz.func329 Tryz.ntmps329 ?_;exact wx1 trivial trivial @b2w.eq_1
theorem zIY (s f t:Int):zAD Tryz.prog 295 [uv s,uv f,uv t] (uv (zF8 s f t)):=by
 refine sZ Tryz.func295 Tryz.ntmps295 ?_;exact wx1 trivial trivial @zF8.eq_1
theorem zC2 (c:CpuD) (cause bad:Int) (h:OkC c):zAD Tryz.prog 233 [.st c.row,iv cause,uv bad] (.st (zA4 c cause bad).row):=by
 have e:=trap_s (h.csr 0).1 h.s;refine sZ Tryz.func233 Tryz.ntmps233 ?_;exact wx1 (qX2 (zIY (c.csr 0) 1 8) (zIY (zF8 (c.csr 0) 1 8) 2 16)) trivial (kX2 @e @zA4.eq_1)
theorem zQG (c:CpuD) (h:OkC c):zAD Tryz.prog 306 [.st c.row] (.st (retD c).row):=by
 have e:=ret_s (h.csr 0).1 h.s;refine sZ Tryz.func306 Tryz.ntmps306 ?_;exact wx1 (qX2 (zIY (c.csr 0) 8 1) (zIY (zF8 (c.csr 0) 8 1) 16 2)) trivial (kX2 @e @retD.eq_1)
theorem zTb (c:CpuD) (k v:Int) (h0:0≤k) (h1:k≤7):zAD Tryz.prog 307 [.st c.row,iv k,uv v] (.st (zBW c k v).row):=by
 have hk:k=0∨k=1∨k=2∨k=3∨k=4∨k=5∨k=6∨k=7:=by omega
 rcases hk with rfl|rfl|rfl|rfl|rfl|rfl|rfl|rfl
 ·refine sZ Tryz.func307 Tryz.ntmps307 ?_;exact wx1 trivial trivial (kX2 @zBW.eq_1 @CpuD.setS.eq_1)
 ·refine sZ Tryz.func307 Tryz.ntmps307 ?_;exact wx1 trivial trivial (kX2 @zBW.eq_1 @CpuD.setS.eq_1)
 ·refine sZ Tryz.func307 Tryz.ntmps307 ?_;exact wx1 trivial trivial (kX2 @zBW.eq_1 @CpuD.setS.eq_1)
 ·refine sZ Tryz.func307 Tryz.ntmps307 ?_;exact wx1 trivial trivial (kX2 @zBW.eq_1 @CpuD.setS.eq_1)
 ·refine sZ Tryz.func307 Tryz.ntmps307 ?_;exact wx1 trivial trivial (kX2 @zBW.eq_1 @CpuD.setS.eq_1)
 ·refine sZ Tryz.func307 Tryz.ntmps307 ?_;exact wx1 trivial trivial (kX2 @zBW.eq_1 @CpuD.setS.eq_1)
 ·refine sZ Tryz.func307 Tryz.ntmps307 ?_;exact wx1 trivial trivial (kX2 @zBW.eq_1 @CpuD.setS.eq_1)
 refine sZ Tryz.func307 Tryz.ntmps307 ?_;exact wx1 trivial trivial (kX2 @zBW.eq_1 @CpuD.setS.eq_1)
theorem zGw {r:Int} (h0:0≤r) (h1:r≤15):r=0∨r=1∨r=2∨r=3∨r=4∨r=5∨r=6∨r=7∨r=8∨r=9∨r=10∨r=11∨r=12∨r=13∨r=14∨r=15:=by omega
theorem zAQ (c:CpuD) {r:Int} (h0:0≤r) (h1:r≤15):c.row[r.toNat]? =some (uv (c.x r.toNat)):=by
 rcases zGw h0 h1 with rfl|rfl|rfl|rfl|rfl|rfl|rfl|rfl|rfl|rfl|rfl|rfl|rfl|rfl|rfl|rfl<;>rfl
theorem zOZ (c:CpuD) {k:Int} (h0:0≤k) (h1:k≤7):c.row[17+k.toNat]? =some (uv (c.csr k.toNat)):=by
 have hk:k=0∨k=1∨k=2∨k=3∨k=4∨k=5∨k=6∨k=7:=by omega
 rcases hk with rfl|rfl|rfl|rfl|rfl|rfl|rfl|rfl<;>rfl
theorem zQD (c:CpuD) {r:Int} (v:Int) (h0:0≤r) (h1:r≤15):c.row.set r.toNat (uv v)=(c.setX r v).row:=by
 rcases zGw h0 h1 with rfl|rfl|rfl|rfl|rfl|rfl|rfl|rfl|rfl|rfl|rfl|rfl|rfl|rfl|rfl|rfl<;>simp [CpuD.setX]
theorem zF1 (c:CpuD) (r v:Int) (h0:0≤r) (h1:r≤15):zAD Tryz.prog 303 [.st c.row,iv r,uv v] (.st (c.setR r v).row):=by
 have e:=zQD c v h0 h1;by_cases hr:r=0
 ·subst hr;refine sZ Tryz.func303 Tryz.ntmps303 ?_;exact wx1 trivial trivial @CpuD.setR.eq_1
 refine sZ Tryz.func303 Tryz.ntmps303 ?_;exact wx1 trivial trivial (kX3 @e @CpuD.setR.eq_1 @hr)
theorem zFJ (op:Int):zAD Tryz.prog 302 [iv op] (iv (zAa op)):=by
 refine sZ Tryz.func302 Tryz.ntmps302 ?_;exact wx1 trivial trivial @zAa.eq_1
theorem zTM (op a b:Int):zAD Tryz.prog 305 [iv op,uv a,uv b] (.bool (zFF op a b)):=by
 refine sZ Tryz.func305 Tryz.ntmps305 ?_;exact wx1 trivial trivial @zFF.eq_1
theorem zU1 (x:Int) (h0:0≤x) (h1:x<256):zAD Tryz.prog 300 [uv x,iv 8] (uv (zEX x)):=by
 have e:IntKind.u32.wrap ((IntKind.i32.wrap (IntKind.u32.wrap (x*2 ^ 24))).fdiv (2 ^ 24))=zEX x:=by
  rw [zWZ _ (by omega)]
  simp only [IntKind.wrap_u32,IntKind.wrap_i32];unfold zEX;split<;>omega
 simp at e;refine sZ Tryz.func300 Tryz.ntmps300 ?_;exact wx1 trivial trivial (kX4 @e @u64c @i64c @u32c)
theorem zTj (a b:Int) (ha:W32 a) (hb:W32 b):zAD Tryz.prog 328 [uv a,uv b] (.tup [uv (divQ a b),uv (divR a b)]):=by
 obtain ⟨ha0,ha1⟩:=ha;obtain ⟨hb0,hb1⟩:=hb;by_cases h1:b=0
 ·subst h1;refine sZ Tryz.func328 Tryz.ntmps328 ?_
  (refine af1 (kX2 @divQ.eq_1 @divR.eq_1) ?_;intros;apply wr)
  repeat' ((first|(refine zAC rfl (fun h=>?_) (fun h=>?_)<;>(first|(simp [divQ,divR] at h;done)|(simp [divQ,divR] at h)|skip)<;>(first|(exfalso;omega)|skip))|(refine zAG 10 [0,0,3,7,0,0,48,112,15,511] [(9,([[],[],[0,1],[0,1,2],[],[],[4,5],[4,5,6],[0,1,2,3]],[])),(1,([],[]))] ?_)|exact rt1 (kX2 @divQ.eq_1 @divR.eq_1)|fail)<;>(refine af1 (kX2 @divQ.eq_1 @divR.eq_1) ?_;intros;apply wr))
 by_cases h2:a=2147483648∧b=4294967295
 ·obtain ⟨rfl,rfl⟩:=h2;have q:divQ 2147483648 4294967295=2147483648:=by decide
  have r:divR 2147483648 4294967295=0:=by decide
  rw [q,r];refine sZ Tryz.func328 Tryz.ntmps328 ?_
  (refine af ?_;intros;apply wr)
  repeat' ((first|(refine zAC rfl (fun h=>?_) (fun h=>?_)<;>(first|(simp at h;done)|(simp at h)|skip)<;>(first|(exfalso;omega)|skip))|(refine zAG 10 [0,0,3,7,0,0,48,112,15,511] [(9,([[],[],[0,1],[0,1,2],[],[],[4,5],[4,5,6],[0,1,2,3]],[])),(1,([],[]))] ?_)|exact rt|fail)<;>(refine af ?_;intros;apply wr))
 have hn:¬ sw b=0:=by unfold sw;rw [IntKind.wrap_i32];omega
 have e1:IntKind.u32.wrap (IntKind.i32.wrap ((sw a).tdiv (sw b)))=divQ a b:=by
  unfold divQ uw;rw [if_neg h1];simp only [IntKind.wrap_u32,IntKind.wrap_i32];omega
 have e2:IntKind.u32.wrap ((sw a).tmod (sw b))=divR a b:=by
  unfold divR;rw [if_neg h1]
 refine sZ Tryz.func328 Tryz.ntmps328 ?_
 (refine af1 (kX4 @e1 @e2 @h1 @hn) ?_;intros;apply wr)
 repeat' ((first|(refine zAC rfl (fun h=>?_) (fun h=>?_)<;>(first|(simp [e1,e2,h1,hn] at h;done)|(simp [e1,e2,h1,hn] at h)|skip)<;>(first|(exfalso;omega)|skip))|(refine zAG 10 [0,0,3,7,0,0,48,112,15,511] [(9,([[],[],[0,1],[0,1,2],[],[],[4,5],[4,5,6],[0,1,2,3]],[])),(1,([],[]))] ?_)|exact rt1 (kX4 @e1 @e2 @h1 @hn)|fail)<;>(refine af1 (kX4 @e1 @e2 @h1 @hn) ?_;intros;apply wr))
theorem alF (a b:Int):iand .u32 b 31=b % 32∧a.fdiv (2 ^ min (b % 32).toNat 32)=a / 2 ^ (b % 32).toNat∧(sw a).fdiv (2 ^ min (b % 32).toNat 32)=sw a / 2 ^ (b % 32).toNat∧min (b % 32).toNat 32=(b % 32).toNat∧IntKind.u32.wrap (a+IntKind.u32.wrap (0-b))=uw (a-b)∧IntKind.u32.wrap (a+IntKind.u32.wrap (-b))=uw (a-b):=by
 have e0:iand .u32 b 31=b % 32:=zAY b 5 32 (by omega) (by decide)
 have e1:a.fdiv (2 ^ min (b % 32).toNat 32)=a / 2 ^ (b % 32).toNat:=by
  rw [zWb (by omega),zWZ _ (zWm (zWo (by decide)))]
 have e2:(sw a).fdiv (2 ^ min (b % 32).toNat 32)=sw a / 2 ^ (b % 32).toNat:=by
  rw [zWb (by omega),zWZ _ (zWm (zWo (by decide)))]
 have e3:min (b % 32).toNat 32=(b % 32).toNat:=zWb (by omega)
 have e4:IntKind.u32.wrap (a+IntKind.u32.wrap (0-b))=uw (a-b):=by unfold uw;simp only [IntKind.wrap_u32];omega
 have e5:IntKind.u32.wrap (a+IntKind.u32.wrap (-b))=uw (a-b):=by unfold uw;simp only [IntKind.wrap_u32];omega
 exact ⟨e0,e1,e2,e3,e4,e5⟩
end Go.Proofs.YtoondlebmacanaaGreat
end
