/- A part of the proof of ReplicaFollows. -/
import Derived.Test.YthjpcmecgjfilaaGreatB07
import Derived.Test.YthjpcmecgjfilaaGreatB13
set_option linter.unusedSimpArgs false
set_option linter.unusedVariables false
set_option maxHeartbeats 16000000
set_option maxRecDepth 100000
section
namespace Go.Proofs.YthjpcmecgjfilaaGreat
open Go.Ab Go.RowKit Tryz
theorem sfield (w f low:Nat) (hl:low<=24) (hw:w<4294967296) (hf:f<256) :
  ((BitVec.ofNat 32 w &&& ~~~ BitVec.ofNat 32 (255*2 ^ low)) ||| BitVec.ofNat 32 (f*2 ^ low)).toNat=2 ^ low*(2 ^ 8*(w / 2 ^ low / 2 ^ 8)+f)+w % 2 ^ low:=by
 have hlt:2 ^ low*(2 ^ 8*(w / 2 ^ low / 2 ^ 8)+f)+w % 2 ^ low<2 ^ 32:=by
  have p:0<2 ^ low:=Nat.two_pow_pos low;have d:w / 2 ^ low / 2 ^ 8<2 ^ (24-low):=by
   rw [Nat.div_div_eq_div_mul,<- Nat.pow_add];apply Nat.div_lt_of_lt_mul;rw [<- Nat.pow_add,show low+8+(24-low)=32 by omega];exact hw
  have e:2 ^ low*2 ^ 8*2 ^ (24-low)=2 ^ 32:=by rw [<- Nat.pow_add,<- Nat.pow_add];congr 1;omega
  have m:w % 2 ^ low<2 ^ low:=Nat.mod_lt _ p;have q:2 ^ 8*(w / 2 ^ low / 2 ^ 8)+f+1<=2 ^ 8*2 ^ (24-low):=by omega
  have q2:=Nat.mul_le_mul_left (2 ^ low) q;rw [<- Nat.mul_assoc,e,Nat.mul_add] at q2;omega
 have h2:((BitVec.ofNat 32 w &&& ~~~ BitVec.ofNat 32 (255*2 ^ low)) ||| BitVec.ofNat 32 (f*2 ^ low))=BitVec.ofNat 32 (2 ^ low*(2 ^ 8*(w / 2 ^ low / 2 ^ 8)+f)+w % 2 ^ low):=by
  apply BitVec.eq_of_getLsbD_eq;intro i hi;have m:w % 2 ^ low<2 ^ low:=Nat.mod_lt _ (Nat.two_pow_pos low);simp only [BitVec.getLsbD_or,BitVec.getLsbD_and,BitVec.getLsbD_not,BitVec.getLsbD_ofNat,hi,decide_true,Bool.true_and];rw [Nat.testBit_two_pow_mul_add _ m,Nat.testBit_two_pow_mul_add _ (show f<2 ^ 8 from hf),Nat.mul_comm 255,Nat.mul_comm f]
  rw [show (255:Nat)=2 ^ 8-1 from rfl,Nat.testBit_two_pow_mul,Nat.testBit_two_pow_mul,Nat.testBit_two_pow_sub_one,Nat.testBit_mod_two_pow,Nat.testBit_div_two_pow,Nat.testBit_div_two_pow]
  by_cases h1:i<low
  ·simp [h1,show ¬ low<=i by omega]
  by_cases h3:i-low<8
  ·simp [h1,h3,show low<=i by omega]
  have e:low+(8+(i-low-8))=i:=by omega
  have hf2:f.testBit (i-low)=false:=Nat.testBit_lt_two_pow (Nat.lt_of_lt_of_le (show f<2 ^ 8 from hf) (Nat.pow_le_pow_right (by decide) (by omega)))
  simp [h1,h3,show low<=i by omega,hf2]
  try (congr 1;omega)
 rw [h2,BitVec.toNat_ofNat,Nat.mod_eq_of_lt hlt]
theorem zR4 (x k:Nat):x &&& 2 ^ k=x / 2 ^ k % 2*2 ^ k:=by
 apply Nat.eq_of_testBit_eq;intro i;rw [Nat.testBit_and,Nat.testBit_two_pow,Nat.testBit_mul_two_pow];by_cases h:k=i
 ·subst h;rcases Nat.mod_two_eq_zero_or_one (x / 2 ^ k) with h|h<;>simp [Nat.testBit_eq_decide_div_mod_eq,h]
 simp only [h,decide_false,Bool.and_false];by_cases h2:k<=i
 ·have h3:1<=i-k:=by omega
  rcases Nat.mod_two_eq_zero_or_one (x / 2 ^ k) with q|q
  ·simp [q]
  rw [q,Nat.testBit_lt_two_pow (Nat.lt_of_lt_of_le (show 1<2 ^ 1 by decide) (Nat.pow_le_pow_right (by decide) h3))];simp
 simp [h2]
theorem zCf {n:Nat} (h:n<4294967296):IntKind.u32.wrap (n:Int)=n:=by rw [IntKind.wrap_u32];omega
theorem zD7 (x:Int) (k:Nat) (h:W32 x) (hk:k<32):iand .u32 x ((2 ^ k:Nat):Int)=x / ((2 ^ k:Nat):Int) % 2*((2 ^ k:Nat):Int):=by
 obtain ⟨n,rfl⟩:=Int.eq_ofNat_of_zero_le h.1;have p:2 ^ k<2 ^ 32:=Nat.pow_lt_pow_right (by decide) hk
 have hn:n<4294967296:=by have:=h.2;omega
 have e:(BitVec.ofInt 32 (n:Int) &&& BitVec.ofInt 32 ((2 ^ k:Nat):Int)).toNat=n / 2 ^ k % 2*2 ^ k:=by
  have hb:∀ m:Nat,BitVec.ofInt 32 (m:Int)=BitVec.ofNat 32 m:=fun m=>by simp
  rw [hb n,hb (2 ^ k),BitVec.toNat_and,BitVec.toNat_ofNat,BitVec.toNat_ofNat,Nat.mod_eq_of_lt (show n<2 ^ 32 from hn),Nat.mod_eq_of_lt p,zR4]
 unfold iand;rw [show IntKind.u32.bits=32 from rfl,e,zCf]
 ·push_cast;rfl
 have:n / 2 ^ k % 2<2:=Nat.mod_lt _ (by decide)
 rcases Nat.mod_two_eq_zero_or_one (n / 2 ^ k) with q|q<;>rw [q]<;>omega
theorem zPM {x:Int} (h:W32 x):iand .u32 x 1=x % 2:=by have:=zD7 x 0 h (by decide);simpa using this
theorem zUz {x:Int} (h:W32 x):iand .u32 x 2=x / 2 % 2*2:=zD7 x 1 h (by decide)
theorem iand4 {x:Int} (h:W32 x):iand .u32 x 4=x / 4 % 2*4:=zD7 x 2 h (by decide)
theorem zRo {x:Int} (h:W32 x) (k:Nat) (hk:k<32):(iand .u32 x (2 ^ k)=0)=(x / 2 ^ k % 2=0):=by
 have e:=zD7 x k h hk
 push_cast at e
 rw [e];have p:(0:Int)<2 ^ k:=Int.pow_pos (by decide)
 apply propext;constructor
 ·intro q
  rcases Int.mul_eq_zero.1 q with q|q
  ·exact q
  omega
 intro q;rw [q];simp
theorem zGU (w v l:Nat) (hl:l<=24) (hw:w<4294967296) (hf:v<256) :
  ior .u32 (zCn .u32 (w:Int) ((255*2 ^ l:Nat):Int)) ((v*2 ^ l:Nat):Int)=((2 ^ l*(2 ^ 8*(w / 2 ^ l / 2 ^ 8)+v)+w % 2 ^ l:Nat):Int):=by
 have hb:∀ m:Nat,BitVec.ofInt 32 (m:Int)=BitVec.ofNat 32 m:=fun m=>by simp
 have hx:∀ b:BitVec 32,BitVec.ofInt 32 (IntKind.u32.wrap (b.toNat:Int))=b:=fun b=>by
  rw [zCf (by have:=b.isLt;omega),hb];simp
 unfold ior zCn;rw [show IntKind.u32.bits=32 from rfl,hx,hb w,hb (255*2 ^ l),hb (v*2 ^ l)]
 rw [<- sfield w v l hl hw hf,zCf (by have:=(BitVec.isLt (BitVec.ofNat 32 w &&& ~~~BitVec.ofNat 32 (255*2 ^ l) ||| BitVec.ofNat 32 (v*2 ^ l)));omega)]
theorem setB (w v k:Int) (h:W32 w) (hk:k=0\/k=1\/k=2\/k=3):ior .u32 (zCn .u32 w (255*2 ^ (8*k).toNat)) (v % 256*2 ^ (8*k).toNat)=putB w k v:=by
 obtain ⟨n,rfl⟩:=Int.eq_ofNat_of_zero_le h.1;obtain ⟨f,hf⟩:=Int.eq_ofNat_of_zero_le (show 0<=v % 256 by omega)
 have hn:n<4294967296:=by have:=h.2;omega
 unfold putB byteAt;rw [hf];rcases hk with rfl|rfl|rfl|rfl
 ·have e:=zGU n f 0 (by decide) hn (by omega)
  simp at e ⊢;rw [e];omega
 ·have e:=zGU n f 8 (by decide) hn (by omega)
  simp at e ⊢;rw [e];omega
 ·have e:=zGU n f 16 (by decide) hn (by omega)
  simp at e ⊢;rw [e];omega
 have e:=zGU n f 24 (by decide) hn (by omega)
 simp at e ⊢;rw [e];omega
theorem putB_w {w v k:Int} (h:W32 w) (hk:k=0\/k=1\/k=2\/k=3):W32 (putB w k v):=by
 unfold putB byteAt;have:=h.1;have:=h.2;rcases hk with rfl|rfl|rfl|rfl<;>constructor<;>simp<;>omega
def zF2 (s f t:Int):Int:=if iand .u32 s f=0 then zCn .u32 s t else ior .u32 s t
theorem trap32:∀ k:Fin 32,zCn .u32 (ior .u32 (zF2 (zF2 (k.val:Int) 1 8) 2 16) 1) 2=zKe (k.val:Int):=by decide +kernel
theorem ret32:∀ k:Fin 32,zF2 (zF2 (k.val:Int) 8 1) 16 2=retS (k.val:Int):=by decide +kernel
theorem trap_s {s:Int} (h0:0<=s) (h1:s<=31):zCn .u32 (ior .u32 (zF2 (zF2 s 1 8) 2 16) 1) 2=zKe s:=by
 have h:=trap32 ⟨s.toNat,by omega⟩
 rwa [show ((⟨s.toNat,by omega⟩:Fin 32).val:Int)=s by simp;omega] at h
theorem ret_s {s:Int} (h0:0<=s) (h1:s<=31):zF2 (zF2 s 8 1) 16 2=retS s:=by
 have h:=ret32 ⟨s.toNat,by omega⟩
 rwa [show ((⟨s.toNat,by omega⟩:Fin 32).val:Int)=s by simp;omega] at h
theorem zQm (s:Int):0<=zKe s/\zKe s<=31:=by unfold zKe;omega
theorem zTk (s:Int):0<=retS s/\retS s<=31:=by unfold retS;omega
abbrev OkW (l:List Int):Prop:=∀ w∈l,W32 w
theorem zLi {l:List Int} (h:OkW l) (a:Int):W32 (wAt l a):=by
 unfold wAt;by_cases hi:a.toNat<l.length
 ·rw [zWF,zWH hi];exact h _ (zWp hi)
 rw [zWF,List.getElem?_eq_none (by omega)];exact ⟨by decide,by decide⟩
theorem zVn {l:List Int} (h:OkW l) {n:Nat} {v:Int} (hv:W32 v):OkW (l.set n v):=by
 intro w hw
 rcases List.mem_or_eq_of_mem_set hw with q|q
 ·exact h w q
 rw [q];exact hv
theorem zAc (l:List Int):0<=pagesD l/\pagesD l<=32:=by
 unfold pagesD;split
 ·rw [zAA (by omega) (by omega)];omega
 omega
theorem zB6 {l:List Int} (h:pagesD l≠0):(l.length:Int)=pagesD l*32/\l.length<=1024:=by
 unfold pagesD at h ⊢;split
 ·rename_i q;have e:(l.length:Int).tmod 32=(l.length:Int) % 32:=Int.tmod_eq_emod_of_nonneg (by omega)
  rw [e] at q;rw [zAA (by omega) (by omega)];omega
 rename_i q;simp [q] at h
theorem zBo (x:Int):iand .u32 x 255=x % 256:=zBJ x 8 256 (by omega) (by decide)
theorem u64_in {n:Int} (h0:0<=n) (h1:n<18446744073709551616):IntKind.u64.wrap n=n:=by rw [IntKind.wrap_u64];omega
theorem u32_in {n:Int} (h0:0<=n) (h1:n<4294967296):IntKind.u32.wrap n=n:=by rw [IntKind.wrap_u32];omega
theorem u32c (n:Int) (h:(0<=n/\n<4294967296)=True):IntKind.u32.wrap n=n:=u32_in (of_eq_true h).1 (of_eq_true h).2
theorem u64c (n:Int) (h:(0<=n/\n<18446744073709551616)=True):IntKind.u64.wrap n=n:=u64_in (of_eq_true h).1 (of_eq_true h).2
theorem i64c (n:Int) (h:(-9223372036854775808<=n/\n<=9223372036854775807)=True):IntKind.i64.wrap n=n:=zAA (of_eq_true h).1 (of_eq_true h).2
theorem zOA {a:Int} (h:W32 a):IntKind.u32.wrap (a.tdiv 4)=a / 4:=by rw [Int.tdiv_eq_ediv_of_nonneg h.1,IntKind.wrap_u32];have:=h.1;have:=h.2;omega
theorem zJG {a:Int} (h:0<=a):a.tmod 4=a % 4:=Int.tmod_eq_emod_of_nonneg h
theorem zJv (w low:Int) (h0:0<=low) (h1:low<=31):zAD prog 297 [uv w,iv low,iv 8] (uv (w / 2 ^ low.toNat % 256)):=by
 have e1:IntKind.u64.wrap low=low:=u64_in h0 (by omega)
 have e2:iand .u32 (w.fdiv (2 ^ min low.toNat 32)) 255=w / 2 ^ low.toNat % 256:=by
  rw [zBo,Nat.min_eq_left (by omega),zWQ _ (Int.le_of_lt (Int.pow_pos (by decide)))]
 refine sZ func297 ntmps297 ?_;exact wx1 (qX1 (zEA)) trivial (kX2 @e1 @e2)
theorem zVm (w k v:Int) (hw:W32 w) (hk:k=0\/k=1\/k=2\/k=3):zAD prog 326 [uv w,iv (k*8),iv 8,uv v] (uv (putB w k v)):=by
 have e2:=setB w v k hw hk;rcases hk with rfl|rfl|rfl|rfl
 all_goals simp at e2
 ·have e3:IntKind.u32.wrap (v % 256)=v % 256:=u32_in (by omega) (by omega)
  refine sZ func326 ntmps326 ?_;exact wx1 (qX1 (zEA)) trivial (kX4 @zBo @e2 @e3 @u32c)
 ·have e3:IntKind.u32.wrap (v % 256*256)=v % 256*256:=u32_in (by omega) (by omega)
  refine sZ func326 ntmps326 ?_;exact wx1 (qX1 (zEA)) trivial (kX4 @zBo @e2 @e3 @u32c)
 ·have e3:IntKind.u32.wrap (v % 256*65536)=v % 256*65536:=u32_in (by omega) (by omega)
  refine sZ func326 ntmps326 ?_;exact wx1 (qX1 (zEA)) trivial (kX4 @zBo @e2 @e3 @u32c)
 have e3:IntKind.u32.wrap (v % 256*16777216)=v % 256*16777216:=u32_in (by omega) (by omega)
 refine sZ func326 ntmps326 ?_;exact wx1 (qX1 (zEA)) trivial (kX4 @zBo @e2 @e3 @u32c)
theorem zIP (l:List Int) (a s:Int) (hs:s=1\/s=4) (ha:W32 a):zAD prog 323 [memV l,uv a,iv s] (.bool (zAR l a s)):=by
 have e1:IntKind.u64.wrap a=a:=u64_in ha.1 (by have:=ha.2;omega)
 have e2:IntKind.u64.wrap (pagesD l)=pagesD l:=u64_in (zAc l).1 (by have:=zAc l;omega)
 have e3:IntKind.u64.wrap (pagesD l*128)=pagesD l*128:=u64_in (by have:=zAc l;omega) (by have:=zAc l;omega)
 have e4:IntKind.u64.wrap (a+s)=a+s:=u64_in (by have:=ha.1;omega) (by have:=ha.2;omega)
 have e5:=zJG ha.1;rcases hs with rfl|rfl
 ·refine sZ func323 ntmps323 ?_;exact wx1 (qX1 (zBv l)) trivial (kX8 @e1 @e2 @e3 @e4 @e5 @zAR.eq_1 @u32c @u64c)
 refine sZ func323 ntmps323 ?_;exact wx1 (qX1 (zBv l)) trivial (kX8 @e1 @e2 @e3 @e4 @e5 @zAR.eq_1 @u32c @u64c)
theorem zCe {l:List Int} {a s:Int} (h:zAR l a s=true) (ha:0<=a):(a / 4).toNat<l.length:=by
 unfold zAR at h;simp only [zWJ,Bool.or_eq_true,decide_eq_true_eq] at h;have hp:pagesD l≠0:=by
  intro q
  rw [q] at h;omega
 have:=zB6 hp;omega
theorem zBp {k:IntKind} {l:List Int} {n:Nat} {w:Int} (h:l[n]? =some w):(ints k l)[n]? =some [.int k w]:=by simp [ints,h]
theorem zFk {l:List Int} {a:Int} (h:a.toNat<l.length):l[a.toNat]? =some (wAt l a):=by
 unfold wAt;rw [zWF,zWH h];rfl
theorem ints_set (k:IntKind) (l:List Int) (n:Nat) (v:Int):(ints k l).set n [.int k v]=ints k (l.set n v):=by simp [ints,List.map_set]
theorem zAO {k:IntKind} {l:List Int}:∀ x:List V,x∈ints k l->∀ c:V,c∈x->noX1 c=true:=by
 intro x hx c hc
 simp only [ints,List.mem_map] at hx;obtain ⟨n,_,rfl⟩:=hx;simp only [List.mem_singleton] at hc;subst hc;rfl
theorem zRN (w a:Int):w / 2 ^ (a % 4*8).toNat % 256=byteAt w (a % 4):=by rw [Int.mul_comm];rfl
theorem zEo (l:List Int) (a s:Int) (hs:s=1\/s=4) (ha:W32 a):zAD prog 296 [memV l,uv a,iv s] (.tup [uv (if zAR l a s=true then zBs l a s else 0),.bool (zAR l a s)]):=by
 have hW:=zIP l a s hs ha;cases hw:zAR l a s with
 | false =>
  rw [hw] at hW;refine sZ func296 ntmps296 ?_;exact wx (qX1 (hW)) trivial
 | true =>
  rw [hw] at hW;have hi:=zCe hw ha.1;have e1:=zOA ha;obtain ⟨w,hw'⟩:∃ w,w=wAt l (a / 4):=⟨_,rfl⟩;have e2:=zBp (k:=.u32) (zFk hi);rw [<- hw'] at e2;have hw2:=hw'.symm;have e3:=zAM .u32 l;have e4:=zJG ha.1;have e5:IntKind.i64.wrap (a % 4)=a % 4:=zAA (by omega) (by omega)
  have e6:IntKind.i64.wrap (a % 4*8)=a % 4*8:=zAA (by omega) (by omega)
  have e7:(0:Int)<=a / 4:=by have:=ha.1;omega
  have e8:a / 4<(l.length:Int):=by omega
  rcases hs with rfl|rfl
  ·refine sZ func296 ntmps296 ?_;exact wx1 (qX2 (hW) (zJv w (a % 4*8) (by omega) (by omega))) trivial (kX9 @e1 @e2 @e3 @e4 @e5 @e6 @zRN @zBs.eq_1 @hw2)
  refine sZ func296 ntmps296 ?_;exact wx1 (qX1 (hW)) trivial (kX6 @e1 @e2 @e3 @e4 @zBs.eq_1 @hw2)
theorem zHM (l:List Int) (a s v:Int) (hs:s=1\/s=4) (ha:W32 a) (hl:OkW l) (hb:l.length<=100000):zAD prog 303 [memV l,uv a,iv s,uv v] (.tup [memV (if zAR l a s=true then zBi l a s v else l),.bool (zAR l a s)]):=by
 have hW:=zIP l a s hs ha;have e3:=zAM .u32 l;cases hw:zAR l a s with
 | false =>
  rw [hw] at hW;refine sZ func303 ntmps303 ?_;exact wx (qX1 (hW)) (qX1 (zCD (ints .u32 l) false 1 (.inl rfl) (by rw [e3];exact hb)))
 | true =>
  rw [hw] at hW;have hi:=zCe hw ha.1;have e1:=zOA ha;obtain ⟨w,hw'⟩:∃ w,w=wAt l (a / 4):=⟨_,rfl⟩;have e2:=zBp (k:=.u32) (zFk hi);rw [<- hw'] at e2;have hw2:=hw'.symm;have e4:=zJG ha.1;have e5:IntKind.i64.wrap (a % 4)=a % 4:=zAA (by omega) (by omega)
  have e6:IntKind.i64.wrap (a % 4*8)=a % 4*8:=zAA (by omega) (by omega)
  have e7:(0:Int)<=a / 4:=by have:=ha.1;omega
  have e8:a / 4<(l.length:Int):=by omega
  rcases hs with rfl|rfl
  ·refine sZ func303 ntmps303 ?_;exact wx1 (qX2 (hW) (zVm w (a % 4) v (by rw [hw'];exact zLi hl _) (by omega))) (qX1 (zCD (ints .u32 l) false 1 (.inl rfl) (by rw [e3];exact hb))) (kX9 @e1 @e2 @e3 @e4 @e5 @e6 @ints_set @zBi.eq_1 @hw2)
  refine sZ func303 ntmps303 ?_;exact wx1 (qX1 (hW)) (qX1 (zCD (ints .u32 l) false 1 (.inl rfl) (by rw [e3];exact hb))) (kX7 @e1 @e2 @e3 @e4 @ints_set @zBi.eq_1 @hw2)
theorem zC8 (l:List Int) (f:Int) (h:W32 f):zAD prog 336 [memV l,uv f] (.bool (decide (f<pagesD l))):=by
 have e1:IntKind.u64.wrap f=f:=u64_in h.1 (by have:=h.2;omega)
 have e2:IntKind.u64.wrap (pagesD l)=pagesD l:=u64_in (zAc l).1 (by have:=zAc l;omega)
 refine sZ func336 ntmps336 ?_;exact wx1 (qX1 (zBv l)) trivial (kX2 @e1 @e2)
theorem zC7 (a:Int) (h:a=1\/a=2\/a=3):zAD prog 335 [iv a] (.tup [iv (a+3),.bool true]):=by
 rcases h with rfl|rfl|rfl
 ·refine sZ func335 ntmps335 ?_;exact wx trivial trivial
 ·refine sZ func335 ntmps335 ?_;exact wx trivial trivial
 refine sZ func335 ntmps335 ?_;exact wx trivial trivial
theorem zB4 (a:Int) (h:a=1\/a=2\/a=3):zAD prog 320 [iv a] (.tup [iv (a+3),.bool true]):=by
 rcases h with rfl|rfl|rfl
 ·refine sZ func320 ntmps320 ?_;exact wx trivial trivial
 ·refine sZ func320 ntmps320 ?_;exact wx trivial trivial
 refine sZ func320 ntmps320 ?_;exact wx trivial trivial
theorem zH6 (w:Int):zAD prog 338 [uv w] (uv (w / 256 % 256)):=by
 refine sZ func338 ntmps338 ?_;exact wx (qX1 (zJv w 8 (by decide) (by decide))) trivial
theorem zFY (w a:Int):zAD prog 337 [uv w,iv a] (.bool (zSL w a)):=by
 refine sZ func337 ntmps337 ?_;exact wx1 trivial trivial @zSL.eq_1
theorem zL5 {l:List Int} {root va:Int} (h:root<pagesD l) (h0:0<=root) (hv:va<4096) (hv0:0<=va):zAR l (root*128+va / 128*4) 4=true:=by
 unfold zAR;simp only [zWJ,Bool.or_eq_true,decide_eq_true_eq];have q:(root*128+va / 128*4) % 4=0:=by omega
 have q2:root*128+va / 128*4+4<=pagesD l*128:=by omega
 simp [q,q2]
def zEX (l:List Int) (root va acc:Int):V:=match zHl l root va acc with
 | some (a,e)=>.st [uv a,uv e,iv 0]
 | none=>.st [uv 0,uv 0,iv (acc+3)]
theorem zV9 (l:List Int) (root va acc:Int) (hr:W32 root) (hv:W32 va) (ha:acc=1\/acc=2\/acc=3):zAD prog 321 [memV l,uv root,uv va,iv acc] (zEX l root va acc):=by
 have hp:=zAc l;by_cases h1:va<4096
 ·by_cases h2:root<pagesD l
  ·have hi:=zL5 h2 hr.1 h1 hv.1;obtain ⟨e,he⟩:∃ e,e=root*128+va / 128*4:=⟨_,rfl⟩;rw [<- he] at hi;have w1:IntKind.u32.wrap (va.tdiv 128)=va / 128:=by rw [Int.tdiv_eq_ediv_of_nonneg hv.1];exact u32_in (by omega) (by omega)
   have w2:IntKind.u32.wrap (4*(va / 128))=va / 128*4:=by rw [u32_in (by omega) (by omega)];omega
   have w3:IntKind.u32.wrap (root*128)=root*128:=u32_in (by omega) (by omega)
   have w4:IntKind.u32.wrap (root*128+va / 128*4)=e:=by rw [he];exact u32_in (by omega) (by omega)
   have hl:=zEo l e 4 (.inr rfl) ⟨by omega,by omega⟩
   rw [hi] at hl;simp only [if_true] at hl;obtain ⟨w,hw⟩:∃ w,w=wAt l (e / 4):=⟨_,rfl⟩;rw [show zBs l e 4=w by rw [hw];simp [zBs]] at hl
   have w5:va.tmod 128=va % 128:=Int.tmod_eq_emod_of_nonneg hv.1;by_cases h3:zSL w acc=true
   ·by_cases h4:w / 256 % 256<pagesD l
    ·have w6:IntKind.u32.wrap (w / 256 % 256*128)=w / 256 % 256*128:=u32_in (by omega) (by omega)
     have w7:IntKind.u32.wrap (w / 256 % 256*128+va % 128)=w / 256 % 256*128+va % 128:=u32_in (by omega) (by omega)
     have hV:zEX l root va acc=.st [uv (w / 256 % 256*128+va % 128),uv e,iv 0]:=by
      unfold zEX zHl;rw [<- he,<- hw,if_pos ⟨h1,h2,h3,h4⟩]
     rw [hV];refine sZ func321 ntmps321 ?_;exact wx1 (qX6 (zC7 acc ha) (zC8 l root hr) (hl) (zFY w acc) (zH6 w) (zC8 l (w / 256 % 256) ⟨by omega,by omega⟩)) trivial (kX11 @w1 @w2 @w3 @w4 @w5 @w6 @w7 @h1 @h2 @h3 @h4)
    have hV:zEX l root va acc=.st [uv 0,uv 0,iv (acc+3)]:=by
     unfold zEX zHl;rw [<- he,<- hw,if_neg (fun q=>h4 q.2.2.2)]
    rw [hV];refine sZ func321 ntmps321 ?_;exact wx1 (qX6 (zC7 acc ha) (zC8 l root hr) (hl) (zFY w acc) (zH6 w) (zC8 l (w / 256 % 256) ⟨by omega,by omega⟩)) trivial (kX8 @w1 @w2 @w3 @w4 @h1 @h2 @h3 @h4)
   have hV:zEX l root va acc=.st [uv 0,uv 0,iv (acc+3)]:=by
    unfold zEX zHl;rw [<- he,<- hw,if_neg (fun q=>h3 q.2.2.1)]
   rw [hV];refine sZ func321 ntmps321 ?_;exact wx1 (qX4 (zC7 acc ha) (zC8 l root hr) (hl) (zFY w acc)) trivial (kX7 @w1 @w2 @w3 @w4 @h1 @h2 @h3)
  have hV:zEX l root va acc=.st [uv 0,uv 0,iv (acc+3)]:=by
   unfold zEX zHl;rw [if_neg (fun q=>h2 q.2.1)]
  rw [hV];refine sZ func321 ntmps321 ?_;exact wx1 (qX2 (zC7 acc ha) (zC8 l root hr)) trivial (kX2 @h1 @h2)
 have hV:zEX l root va acc=.st [uv 0,uv 0,iv (acc+3)]:=by
  unfold zEX zHl;rw [if_neg (fun q=>h1 q.1)]
 rw [hV];have h1':4096<=va:=by omega
 refine sZ func321 ntmps321 ?_;exact wx1 (qX1 (zC7 acc ha)) trivial (kX2 @h1 @h1')
theorem zS2 (l:List Int) (e acc:Int) (hi:zAR l e 4=true) (he:W32 e) (hl:OkW l) (hb:l.length<=100000):zAD prog 322 [memV l,uv e,iv acc] (memV (zE8 l e acc)):=by
 have h1:=zEo l e 4 (.inr rfl) he;rw [hi] at h1;simp only [if_true] at h1;rw [show zBs l e 4=wAt l (e / 4) by simp [zBs]] at h1
 have h2:=zHM l e 4 (ior .u32 (wAt l (e / 4)) 8) (.inr rfl) he hl hb;have h3:=zHM l e 4 (ior .u32 (ior .u32 (wAt l (e / 4)) 8) 16) (.inr rfl) he hl hb;rw [hi] at h2 h3;simp only [if_true] at h2 h3;by_cases ha:acc=3
 ·subst ha;refine sZ func322 ntmps322 ?_;exact wx1 (qX2 (h1) (h3)) trivial (kX3 @zE8.eq_1 @zM9.eq_1 @zBi.eq_1)
 refine sZ func322 ntmps322 ?_;exact wx1 (qX2 (h1) (h2)) trivial (kX4 @zE8.eq_1 @zM9.eq_1 @zBi.eq_1 @ha)
structure OkC (c:CpuD):Prop where
 x:∀ i,W32 (c.x i)
 pc:W32 c.pc
 csr:∀ i,W32 (c.csr i)
 s:c.csr 0<=31
theorem kernel_ok (c:CpuD) (h:OkC c):zAD prog 237 [.st c.row] (.bool (!decide (c.csr 0 % 2=0))):=by
 have e:=zPM (h.csr 0);refine sZ func237 ntmps237 ?_;exact wx1 trivial trivial @e
theorem zJI (b:Bool):zAD prog 328 [.bool b] (uv (b2w b)):=by
 refine sZ func328 ntmps328 ?_;exact wx1 trivial trivial @b2w.eq_1
theorem zIz (s f t:Int):zAD prog 294 [uv s,uv f,uv t] (uv (zF2 s f t)):=by
 refine sZ func294 ntmps294 ?_;exact wx1 trivial trivial @zF2.eq_1
theorem zCu (c:CpuD) (cause bad:Int) (h:OkC c):zAD prog 233 [.st c.row,iv cause,uv bad] (.st (zBE c cause bad).row):=by
 have e:=trap_s (h.csr 0).1 h.s;refine sZ func233 ntmps233 ?_;exact wx1 (qX2 (zIz (c.csr 0) 1 8) (zIz (zF2 (c.csr 0) 1 8) 2 16)) trivial (kX2 @e @zBE.eq_1)
theorem zQA (c:CpuD) (h:OkC c):zAD prog 305 [.st c.row] (.st (retD c).row):=by
 have e:=ret_s (h.csr 0).1 h.s;refine sZ func305 ntmps305 ?_;exact wx1 (qX2 (zIz (c.csr 0) 8 1) (zIz (zF2 (c.csr 0) 8 1) 16 2)) trivial (kX2 @e @retD.eq_1)
theorem zS9 (c:CpuD) (k v:Int) (h0:0<=k) (h1:k<=7):zAD prog 306 [.st c.row,iv k,uv v] (.st (zBG c k v).row):=by
 have hk:k=0\/k=1\/k=2\/k=3\/k=4\/k=5\/k=6\/k=7:=by omega
 rcases hk with rfl|rfl|rfl|rfl|rfl|rfl|rfl|rfl
 ·refine sZ func306 ntmps306 ?_;exact wx1 trivial trivial (kX2 @zBG.eq_1 @CpuD.setS.eq_1)
 ·refine sZ func306 ntmps306 ?_;exact wx1 trivial trivial (kX2 @zBG.eq_1 @CpuD.setS.eq_1)
 ·refine sZ func306 ntmps306 ?_;exact wx1 trivial trivial (kX2 @zBG.eq_1 @CpuD.setS.eq_1)
 ·refine sZ func306 ntmps306 ?_;exact wx1 trivial trivial (kX2 @zBG.eq_1 @CpuD.setS.eq_1)
 ·refine sZ func306 ntmps306 ?_;exact wx1 trivial trivial (kX2 @zBG.eq_1 @CpuD.setS.eq_1)
 ·refine sZ func306 ntmps306 ?_;exact wx1 trivial trivial (kX2 @zBG.eq_1 @CpuD.setS.eq_1)
 ·refine sZ func306 ntmps306 ?_;exact wx1 trivial trivial (kX2 @zBG.eq_1 @CpuD.setS.eq_1)
 refine sZ func306 ntmps306 ?_;exact wx1 trivial trivial (kX2 @zBG.eq_1 @CpuD.setS.eq_1)
theorem zHC {r:Int} (h0:0<=r) (h1:r<=15):r=0\/r=1\/r=2\/r=3\/r=4\/r=5\/r=6\/r=7\/r=8\/r=9\/r=10\/r=11\/r=12\/r=13\/r=14\/r=15:=by omega
theorem zAU (c:CpuD) {r:Int} (h0:0<=r) (h1:r<=15):c.row[r.toNat]? =some (uv (c.x r.toNat)):=by
 rcases zHC h0 h1 with rfl|rfl|rfl|rfl|rfl|rfl|rfl|rfl|rfl|rfl|rfl|rfl|rfl|rfl|rfl|rfl<;>rfl
theorem zUN (c:CpuD) {k:Int} (h0:0<=k) (h1:k<=7):c.row[17+k.toNat]? =some (uv (c.csr k.toNat)):=by
 have hk:k=0\/k=1\/k=2\/k=3\/k=4\/k=5\/k=6\/k=7:=by omega
 rcases hk with rfl|rfl|rfl|rfl|rfl|rfl|rfl|rfl<;>rfl
theorem zP6 (c:CpuD) {r:Int} (v:Int) (h0:0<=r) (h1:r<=15):c.row.set r.toNat (uv v)=(c.setX r v).row:=by
 rcases zHC h0 h1 with rfl|rfl|rfl|rfl|rfl|rfl|rfl|rfl|rfl|rfl|rfl|rfl|rfl|rfl|rfl|rfl<;>simp [CpuD.setX]
theorem zFx (c:CpuD) (r v:Int) (h0:0<=r) (h1:r<=15):zAD prog 302 [.st c.row,iv r,uv v] (.st (c.setR r v).row):=by
 have e:=zP6 c v h0 h1;by_cases hr:r=0
 ·subst hr;refine sZ func302 ntmps302 ?_;exact wx1 trivial trivial @CpuD.setR.eq_1
 refine sZ func302 ntmps302 ?_;exact wx1 trivial trivial (kX3 @e @CpuD.setR.eq_1 @hr)
theorem zFF (op:Int):zAD prog 301 [iv op] (iv (zAX op)):=by
 refine sZ func301 ntmps301 ?_;exact wx1 trivial trivial @zAX.eq_1
theorem zSy (op a b:Int):zAD prog 304 [iv op,uv a,uv b] (.bool (zE7 op a b)):=by
 refine sZ func304 ntmps304 ?_;exact wx1 trivial trivial @zE7.eq_1
theorem zUp (x:Int) (h0:0<=x) (h1:x<256):zAD prog 299 [uv x,iv 8] (uv (zJD x)):=by
 have e:IntKind.u32.wrap ((IntKind.i32.wrap (IntKind.u32.wrap (x*2 ^ 24))).fdiv (2 ^ 24))=zJD x:=by
  rw [zWQ _ (by omega)]
  simp only [IntKind.wrap_u32,IntKind.wrap_i32];unfold zJD;split<;>omega
 simp at e;refine sZ func299 ntmps299 ?_;exact wx1 trivial trivial (kX4 @e @u64c @i64c @u32c)
theorem zTK (a b:Int) (ha:W32 a) (hb:W32 b):zAD prog 327 [uv a,uv b] (.tup [uv (divQ a b),uv (divR a b)]):=by
 obtain ⟨ha0,ha1⟩:=ha;obtain ⟨hb0,hb1⟩:=hb;by_cases h1:b=0
 ·subst h1;refine sZ func327 ntmps327 ?_
  (refine af1 (kX2 @divQ.eq_1 @divR.eq_1) ?_;intros;apply wr)
  repeat' ((first|(refine zAC rfl (fun h=>?_) (fun h=>?_)<;>(first|(simp [divQ,divR] at h;done)|(simp [divQ,divR] at h)|skip)<;>(first|(exfalso;omega)|skip))|(refine zAG 10 [0,0,3,7,0,0,48,112,15,511] [(9,([[],[],[0,1],[0,1,2],[],[],[4,5],[4,5,6],[0,1,2,3]],[])),(1,([],[]))] ?_)|exact rt1 (kX2 @divQ.eq_1 @divR.eq_1)|fail)<;>(refine af1 (kX2 @divQ.eq_1 @divR.eq_1) ?_;intros;apply wr))
 by_cases h2:a=2147483648/\b=4294967295
 ·obtain ⟨rfl,rfl⟩:=h2;have q:divQ 2147483648 4294967295=2147483648:=by decide
  have r:divR 2147483648 4294967295=0:=by decide
  rw [q,r];refine sZ func327 ntmps327 ?_
  (refine af ?_;intros;apply wr)
  repeat' ((first|(refine zAC rfl (fun h=>?_) (fun h=>?_)<;>(first|(simp at h;done)|(simp at h)|skip)<;>(first|(exfalso;omega)|skip))|(refine zAG 10 [0,0,3,7,0,0,48,112,15,511] [(9,([[],[],[0,1],[0,1,2],[],[],[4,5],[4,5,6],[0,1,2,3]],[])),(1,([],[]))] ?_)|exact rt|fail)<;>(refine af ?_;intros;apply wr))
 have hn:¬ sw b=0:=by unfold sw;rw [IntKind.wrap_i32];omega
 have e1:IntKind.u32.wrap (IntKind.i32.wrap ((sw a).tdiv (sw b)))=divQ a b:=by
  unfold divQ uw;rw [if_neg h1];simp only [IntKind.wrap_u32,IntKind.wrap_i32];omega
 have e2:IntKind.u32.wrap ((sw a).tmod (sw b))=divR a b:=by
  unfold divR;rw [if_neg h1]
 refine sZ func327 ntmps327 ?_
 (refine af1 (kX4 @e1 @e2 @h1 @hn) ?_;intros;apply wr)
 repeat' ((first|(refine zAC rfl (fun h=>?_) (fun h=>?_)<;>(first|(simp [e1,e2,h1,hn] at h;done)|(simp [e1,e2,h1,hn] at h)|skip)<;>(first|(exfalso;omega)|skip))|(refine zAG 10 [0,0,3,7,0,0,48,112,15,511] [(9,([[],[],[0,1],[0,1,2],[],[],[4,5],[4,5,6],[0,1,2,3]],[])),(1,([],[]))] ?_)|exact rt1 (kX4 @e1 @e2 @h1 @hn)|fail)<;>(refine af1 (kX4 @e1 @e2 @h1 @hn) ?_;intros;apply wr))
theorem alF (a b:Int):iand .u32 b 31=b % 32/\a.fdiv (2 ^ min (b % 32).toNat 32)=a / 2 ^ (b % 32).toNat/\(sw a).fdiv (2 ^ min (b % 32).toNat 32)=sw a / 2 ^ (b % 32).toNat/\min (b % 32).toNat 32=(b % 32).toNat/\IntKind.u32.wrap (a+IntKind.u32.wrap (0-b))=uw (a-b)/\IntKind.u32.wrap (a+IntKind.u32.wrap (-b))=uw (a-b):=by
 have e0:iand .u32 b 31=b % 32:=zBJ b 5 32 (by omega) (by decide)
 have e1:a.fdiv (2 ^ min (b % 32).toNat 32)=a / 2 ^ (b % 32).toNat:=by
  rw [Nat.min_eq_left (by omega),zWQ _ (Int.le_of_lt (Int.pow_pos (by decide)))]
 have e2:(sw a).fdiv (2 ^ min (b % 32).toNat 32)=sw a / 2 ^ (b % 32).toNat:=by
  rw [Nat.min_eq_left (by omega),zWQ _ (Int.le_of_lt (Int.pow_pos (by decide)))]
 have e3:min (b % 32).toNat 32=(b % 32).toNat:=Nat.min_eq_left (by omega)
 have e4:IntKind.u32.wrap (a+IntKind.u32.wrap (0-b))=uw (a-b):=by unfold uw;simp only [IntKind.wrap_u32];omega
 have e5:IntKind.u32.wrap (a+IntKind.u32.wrap (-b))=uw (a-b):=by unfold uw;simp only [IntKind.wrap_u32];omega
 exact ⟨e0,e1,e2,e3,e4,e5⟩
end Go.Proofs.YthjpcmecgjfilaaGreat
end
