/- A part of the proof of ReplicaFollows. -/
import Derived.Test.YthjpcmecgjfilaaGreatB06
import Derived.Test.YthjpcmecgjfilaaGreatB08
import Derived.Test.YthjpcmecgjfilaaGreatB14
import Derived.Test.YthjpcmecgjfilaaGreatB22
import Derived.Test.YthjpcmecgjfilaaGreatB24
set_option linter.unusedSimpArgs false
set_option linter.unusedVariables false
set_option maxHeartbeats 16000000
set_option maxRecDepth 100000
section
namespace Go.Proofs.YthjpcmecgjfilaaGreat
open Go.Ab Go.RowKit Tryz
structure MayC (c:CpuD):Prop where
 x:c.x 0=0
 s:c.csr 0<=31
 e:c.csr 7<=31
 r:c.csr 6<=255
 v:c.csr 1 % 4=0
structure MayM (m:MchD):Prop where
 p:pagesD m.mem≠0
 c:MayC m.cpu
 n:m.count<=1152921504606846976
 h:¬ (m.waiting=true/\m.halted=true)
 k:m.keys.length<=16
 t:timMay m.tim=true
 d:dskMay m.dk (pagesD m.mem)=true
 i:nicMay m.nc (pagesD m.mem)=true
 b:balMay m.given (pagesD m.mem)=true
theorem zBf (m:MchD):mayD m=true↔MayM m:=by
 constructor
 ·intro h
  unfold mayD at h;simp only [zWJ,zWl,Bool.and_eq_false_iff,decide_eq_true_eq,bne_iff_ne,beq_iff_eq,ne_eq] at h;obtain ⟨⟨⟨⟨⟨⟨⟨⟨h1,h2⟩,h3⟩,h4⟩,h5⟩,h6⟩,h7⟩,h8⟩,⟨⟨⟨h9,h10⟩,h11⟩,h12⟩,h13⟩:=h;exact ⟨h1,⟨h2,h3,h4,h5,h6⟩,h7,by rcases h8 with h8|h8<;>simp [h8],by omega,h10,h11,h12,h13⟩
 rintro ⟨h1,⟨h2,h3,h4,h5,h6⟩,h7,h8,h9,h10,h11,h12,h13⟩
 unfold mayD;simp only [zWJ,zWl,Bool.and_eq_false_iff,decide_eq_true_eq,bne_iff_ne,beq_iff_eq,ne_eq];refine ⟨⟨⟨⟨⟨⟨⟨⟨h1,h2⟩,h3⟩,h4⟩,h5⟩,h6⟩,h7⟩,?_⟩,⟨⟨⟨by omega,h10⟩,h11⟩,h12⟩,h13⟩
 cases hw:m.waiting<;>cases hh:m.halted<;>simp_all
theorem MayC.setR {c:CpuD} (h:MayC c) {r v:Int} (hr:0<=r):MayC (c.setR r v):=by
 unfold CpuD.setR;split
 ·exact h
 rename_i q;refine ⟨?_,h.s,h.e,h.r,h.v⟩;simp only [CpuD.setX];rw [if_neg (by simp;omega)];exact h.x
theorem MayC.setP {c:CpuD} (h:MayC c) (p:Int):MayC (c.setP p):=⟨h.x,h.s,h.e,h.r,h.v⟩
theorem MayC.trap {c:CpuD} (h:MayC c) (k b:Int):MayC (zBE c k b):=⟨h.x,by simp [zBE];exact (zQm _).2,by simp [zBE];exact h.e,by simp [zBE];exact h.r,by simp [zBE];exact h.v⟩
theorem MayC.ret {c:CpuD} (h:MayC c):MayC (retD c):=⟨h.x,by simp [retD];exact (zTk _).2,by simp [retD];exact h.e,by simp [retD];exact h.r,by simp [retD];exact h.v⟩
theorem and31 (v:Int):iand .u32 v 31<=31:=by rw [show iand .u32 v 31=v % 32 from zBJ v 5 32 (by omega) (by decide)];omega
theorem andn3 {v:Int} (h:W32 v):zCn .u32 v 3 % 4=0:=by
 obtain ⟨n,rfl⟩:=Int.eq_ofNat_of_zero_le h.1;have hn:n<4294967296:=by have:=h.2;omega
 have hb:∀ m:Nat,BitVec.ofInt 32 (m:Int)=BitVec.ofNat 32 m:=fun m=>by simp
 have e:(BitVec.ofNat 32 n &&& ~~~ BitVec.ofNat 32 3).toNat % 4=0:=by
  apply Nat.eq_of_testBit_eq;intro i;rw [show (4:Nat)=2 ^ 2 from rfl,Nat.testBit_mod_two_pow,<- BitVec.getLsbD,BitVec.getLsbD_and,BitVec.getLsbD_not]
  by_cases hi:i<2
  ·have:i=0\/i=1:=by omega
   rcases this with rfl|rfl<;>simp
  simp [hi]
 unfold zCn;rw [show IntKind.u32.bits=32 from rfl,hb n,show BitVec.ofInt 32 3=BitVec.ofNat 32 3 from rfl,zCf (by have:=(BitVec.isLt (BitVec.ofNat 32 n &&& ~~~BitVec.ofNat 32 3));omega)]
 omega
theorem MayC.write {c:CpuD} (h:MayC c) (k:Int) {v:Int} (hv:W32 v):MayC (zBG c k v):=by
 have h31:=and31 v;have h3:=andn3 hv;have h255:iand .u32 v 255<=255:=by rw [zBo];omega
 unfold zBG;split
 ·rename_i q;refine ⟨h.x,?_,?_,?_,?_⟩<;>simp only [CpuD.setS]<;>split<;>first|assumption|exact h.s|exact h.e|exact h.r|exact h.v|(exfalso;omega)
 split
 ·rename_i q;refine ⟨h.x,?_,?_,?_,?_⟩<;>simp only [CpuD.setS]<;>split<;>first|assumption|exact h.s|exact h.e|exact h.r|exact h.v|(exfalso;omega)
 split
 ·rename_i q;refine ⟨h.x,?_,?_,?_,?_⟩<;>simp only [CpuD.setS]<;>split<;>first|assumption|exact h.s|exact h.e|exact h.r|exact h.v|(exfalso;omega)
 split
 ·rename_i q;refine ⟨h.x,?_,?_,?_,?_⟩<;>simp only [CpuD.setS]<;>split<;>first|exact h.s|exact h.e|exact h.r|exact h.v|(exfalso;omega)
 exact h
theorem MayC.execute {c:CpuD} (h:MayC c) (hc:OkC c) (i:InstD) (hi:OkI i):MayC (zAF c i).1:=by
 have ha:=hi.a0;unfold zAF;exact zA5 (P:=fun z:CpuD × EffD=>MayC z.1) (fun _=>(h.setR ha).setP _) (fun _=>zA5 (P:=fun z:CpuD × EffD=>MayC z.1) (fun _=>h.setP _) (fun _=>zA5 (P:=fun z:CpuD × EffD=>MayC z.1) (fun _=>(h.setR ha).setP _) (fun _=>zA5 (P:=fun z:CpuD × EffD=>MayC z.1) (fun _=>(h.setR ha).setP _) (fun _=>zA5 (P:=fun z:CpuD × EffD=>MayC z.1) (fun _=>h.trap _ _) (fun _=>zA5 (P:=fun z:CpuD × EffD=>MayC z.1) (fun _=>h.ret) (fun _=>zA5 (P:=fun z:CpuD × EffD=>MayC z.1) (fun _=>(h.setR ha).setP _) (fun _=>zA5 (P:=fun z:CpuD × EffD=>MayC z.1) (fun _=>(h.write _ (hc.x _)).setP _) (fun _=>zA5 (P:=fun z:CpuD × EffD=>MayC z.1) (fun _=>h.setP _) (fun _=>zA5 (P:=fun z:CpuD × EffD=>MayC z.1) (fun _=>h.setP _) (fun _=>zA5 (P:=fun z:CpuD × EffD=>MayC z.1) (fun _=>h.setP _) (fun _=>zA5 (P:=fun z:CpuD × EffD=>MayC z.1) (fun _=>h.setP _) (fun _=>zA5 (P:=fun z:CpuD × EffD=>MayC z.1) (fun _=>h.setP _) (fun _=>(h.setR ha).setP _)))))))))))))
theorem MayC.load {c:CpuD} (h:MayC c) (l:List Int) (i:InstD) (hi:OkI i):MayC (zA6 c l i).1:=by
 unfold zA6;generalize zAE c l (uw (c.x i.b.toNat+uw i.imm)) (zAX i.op) 2=R;obtain ⟨a,m,k⟩:=R;simp only;split
 ·exact h.trap _ _
 exact (h.setR hi.a0).setP _
theorem MayC.store {c:CpuD} (h:MayC c) (l:List Int) (i:InstD):MayC (zAP c l i).1:=by
 unfold zAP;generalize zAE c l (uw (c.x i.b.toNat+uw i.imm)) (zAX i.op) 3=R;obtain ⟨a,m,k⟩:=R;simp only;split
 ·exact h.trap _ _
 exact h.setP _
theorem MayC.exec {c:CpuD} (h:MayC c) (hc:OkC c) (l:List Int):MayC (zAl c l).1:=by
 unfold zAl;generalize zAE c l c.pc 4 1=R;obtain ⟨a,m,k⟩:=R;simp only;split
 ·exact h.trap _ _
 unfold zBk;split
 ·exact h.trap _ _
 rename_i hv;have hi:=zBD (by simpa using hv)
 split
 ·exact h.trap _ _
 split
 ·exact h.load _ _ hi
 split
 ·exact h.store _ _
 exact h.execute hc _ hi
theorem zOV {m:MchD} (h:MayM m) (hh:m.halted=false):MayM (zAK m)/\(zAK m).waiting=false/\(zAK m).halted=false:=by
 have hw:∀ c,MayC c->MayM {m with waiting:=false,cpu:=c}:=fun c hc=>⟨h.p,hc,h.n,by simp,h.k,h.t,h.d,h.i,h.b⟩
 unfold zAK;split
 ·exact ⟨hw _ h.c,rfl,hh⟩
 split
 ·exact ⟨hw _ h.c,rfl,hh⟩
 exact ⟨hw _ (h.c.trap _ _),rfl,hh⟩
theorem zRd {c:CpuD} {l:List Int} (hc:OkC c) (hl:OkW l):(zAl c l).2.1.length=l.length:=(zTQ hc hl).2.2.1
theorem zOL {m:MchD} (hM:OkM m) (h:MayM m) (hh:m.halted=false):MayM (zBg m)/\(zBg m).waiting=false/\(zBg m).halted=false:=by
 obtain ⟨hb,h1,h2⟩:=zOV h hh;have ho:=zJY hM;have hlen:pagesD (zAl (zAK m).cpu m.mem).2.1=pagesD (zAK m).mem:=by
  rw [zBu (zRd ho.c hM.w)];have:(zAK m).mem=m.mem:=zKu m;rw [this]
 refine ⟨⟨by show pagesD (zAl _ _).2.1≠0;rw [hlen];exact hb.p,hb.c.exec ho.c _,hb.n,hb.h,hb.k,hb.t,?_,?_,?_⟩,h1,h2⟩
 ·show dskMay _ (pagesD (zAl _ _).2.1)=true;rw [hlen];exact hb.d
 ·show nicMay _ (pagesD (zAl _ _).2.1)=true;rw [hlen];exact hb.i
 show balMay _ (pagesD (zAl _ _).2.1)=true;rw [hlen];exact hb.b
theorem zTG:∀ (p x:Nat),x<2 ^ 64->(Lib.bitLen x<=p↔x<2 ^ p)
 | 0,x,hx=>by
  by_cases h:x=0
  ·subst h;decide
  have:=Lib.bitLen_half x h hx;rw [this];simp;omega
 | p+1,x,hx=>by
  by_cases h:x=0
  ·subst h;exact ⟨fun _=>Nat.two_pow_pos _,fun _=>by rw [show Lib.bitLen 0=0 by decide];omega⟩
  have e:=Lib.bitLen_half x h hx;have ih:=zTG p (x / 2) (by omega)
  rw [e,Nat.pow_succ];omega
theorem bitLen_le (x:Int) (p:Nat) (h:W32 x):bitLen x<=p↔x<2 ^ p:=by
 unfold bitLen;have h0:=h.1;have e:x<2 ^ p↔x.toNat<2 ^ p:=by
  rw [show (2:Int) ^ p=((2 ^ p:Nat):Int) by push_cast;rfl];omega
 rw [e];exact zTG p x.toNat (by have:=h.2;omega)
theorem zCa (g p:Int) (hg:W32 g) (hp:0<=p):balMay g p=true↔g<2 ^ p.toNat:=by
 unfold balMay;rw [decide_eq_true_eq,<- bitLen_le g p.toNat hg];omega
theorem ior_lt {a b:Int} (ha:W32 a) (hb:W32 b) {p:Nat} (h1:a<2 ^ p) (h2:b<2 ^ p):ior .u32 a b<2 ^ p:=by
 obtain ⟨n,rfl⟩:=Int.eq_ofNat_of_zero_le ha.1;obtain ⟨k,rfl⟩:=Int.eq_ofNat_of_zero_le hb.1;have q1:n<2 ^ p:=by
  have:(n:Int)<((2 ^ p:Nat):Int):=by push_cast;exact h1
  omega
 have q2:k<2 ^ p:=by
  have:(k:Int)<((2 ^ p:Nat):Int):=by push_cast;exact h2
  omega
 have hn:n<4294967296:=by have:=ha.2;omega
 have hk:k<4294967296:=by have:=hb.2;omega
 have hb':∀ m:Nat,BitVec.ofInt 32 (m:Int)=BitVec.ofNat 32 m:=fun m=>by simp
 unfold ior;rw [show IntKind.u32.bits=32 from rfl,hb' n,hb' k,BitVec.toNat_or,BitVec.toNat_ofNat,BitVec.toNat_ofNat,Nat.mod_eq_of_lt (show n<2 ^ 32 from hn),Nat.mod_eq_of_lt (show k<2 ^ 32 from hk),zCf (Nat.or_lt_two_pow (n:=32) hn hk)]
 have:=Nat.or_lt_two_pow q1 q2;have e:((n ||| k:Nat):Int)<((2 ^ p:Nat):Int):=by omega
 push_cast at e
 exact e
theorem zRp {a:Int} (ha:W32 a) (b:Int):zCn .u32 a b<=a:=by
 obtain ⟨n,rfl⟩:=Int.eq_ofNat_of_zero_le ha.1;have hn:n<4294967296:=by have:=ha.2;omega
 unfold zCn;have hb':∀ m:Nat,BitVec.ofInt 32 (m:Int)=BitVec.ofNat 32 m:=fun m=>by simp
 rw [show IntKind.u32.bits=32 from rfl,hb' n,BitVec.toNat_and,BitVec.toNat_ofNat,Nat.mod_eq_of_lt (show n<2 ^ 32 from hn)]
 have:=Nat.and_le_left (n:=n) (m:=(~~~ BitVec.ofInt 32 b).toNat);rw [zCf (by omega)]
 omega
theorem pow_w {v:Int} (h0:0<=v) (h1:v<32):W32 (2 ^ v.toNat):=by
 have h:(2:Nat) ^ v.toNat<2 ^ 32:=Nat.pow_lt_pow_right (by decide) (by omega)
 have e:(2:Int) ^ v.toNat=((2 ^ v.toNat:Nat):Int):=by push_cast;rfl
 rw [e];generalize 2 ^ v.toNat=q at h;constructor<;>omega
theorem zNO {g:Int} {l:List Int} (hg:W32 g) (p:Int) {v:Int} (hv:W32 v) (h:balMay g (pagesD l)=true):balMay (zA8 g l p v).1 (pagesD l)=true:=by
 have hp:=(zAc l).1;rw [zCa _ _ hg hp] at h;unfold zA8;split
 ·rw [zCa _ _ hg hp];exact h
 rename_i q;have hw:=pow_w hv.1 (by omega)
 split
 ·split
  ·rename_i z;rw [zCa _ _ (zU4 _ _) hp];refine ior_lt hg hw h ?_;have:(2:Nat) ^ v.toNat<2 ^ (pagesD l).toNat:=Nat.pow_lt_pow_right (by decide) (by have:=hv.1;omega)
   rw [show (2:Int) ^ v.toNat=((2 ^ v.toNat:Nat):Int) by push_cast;rfl,show (2:Int) ^ (pagesD l).toNat=((2 ^ (pagesD l).toNat:Nat):Int) by push_cast;rfl]
   omega
  rw [zCa _ _ hg hp];exact h
 split
 ·rw [zCa _ _ (zK9 _ _) hp];exact Int.lt_of_le_of_lt (zRp hg _) h
 rw [zCa _ _ hg hp];exact h
theorem zTu {a:Int} (h:W32 a):IntKind.i64.wrap a=a:=zAA (by have:=h.1;omega) (by have:=h.2;omega)
theorem zPU {d:DskD} {l:List Int} (hd:OkD d) (h:dskMay d (pagesD l)=true) {c:Int} (hc:c=1\/c=2) (t:Int):dskMay (zBQ d l c t).1 (pagesD l)=true:=by
 unfold zBQ;split
 ·exact h
 rename_i q;have q:d.state=0:=by simpa using q
 have hbl:¬ d.blocks > 64:=by intro z;unfold dskMay at h;rw [if_pos z] at h;cases h
 have h2:=h;unfold dskMay at h2;rw [if_neg hbl,if_pos (.inl q)] at h2;split
 ·unfold dskMay;simp only;rw [if_neg hbl,if_pos (by simp)];exact h2
 rename_i z;have z1:d.block<d.blocks:=by omega
 have z2:d.frame<pagesD l:=by omega
 unfold dskMay;simp only;rw [if_neg hbl,if_neg (by simp),if_pos (by simp),zTu hd.c]
 simp only [z1,z2,decide_true,Bool.and_true];rcases hc with rfl|rfl
 ·simp [zHx]
 simp [zHx,zG5 hd.c.1 z2]
theorem zNX {d:DskD} {l:List Int} (hd:OkD d) (h:dskMay d (pagesD l)=true) (p v t:Int):dskMay (zBI d l p v t).1 (pagesD l)=true:=by
 unfold zBI;split
 ·exact h
 split
 ·exact h
 split
 ·split
  ·exact zPU hd h (by omega) t
  split
  ·rename_i z;have hbl:¬ d.blocks > 64:=by intro y;unfold dskMay at h;rw [if_pos y] at h;cases h
   have z2:=z.2;unfold zBm at z2;simp only [Bool.or_eq_true,decide_eq_true_eq] at z2;unfold dskMay at h ⊢;rw [if_neg hbl,if_pos (by omega)] at h
   simp only;rw [if_neg hbl,if_pos (by simp)];exact h
  exact h
 exact h
theorem zNq {n:NicD} {l:List Int} (hn:OkN n) (h:nicMay n (pagesD l)=true) (p v t:Int):nicMay (zAb n l p v t).1 (pagesD l)=true:=by
 unfold zAb;split
 ·exact h
 split
 ·exact h
 split
 ·split
  ·exact h
  split
  ·show nicMay (if _ then _ else _) _=true
   split
   ·rename_i z;obtain ⟨z1,z2,z3⟩:=z;have hg:n.got=0:=by unfold nicMay at h;simp [z2,z3] at h;exact h.2
    unfold nicMay;simp [z3,hg,zTu hn.a];omega
   exact h
  split
  ·unfold nicMay at h ⊢;simp only;by_cases hp:n.posted=true
   ·by_cases hr:n.received=true
    ·simp [hp,hr] at h
    have hr:n.received=false:=by simpa using hr
    simp [hp,hr] at h ⊢;exact h.1
   have hp:n.posted=false:=by simpa using hp
   simp [hp] at h ⊢;exact h.1
  exact h
 exact h
theorem zRW {m:MchD} {e:EffD} (hM:OkM m) (he:OkE e) (h:MayM m) (hw:m.waiting=false) (hh:m.halted=false) (k t:Int) (hr:e.kind=1->0<=e.reg):MayM (zBH m e k t).1:=by
 unfold zBH;split
 ·rename_i q;have hR:MayM (zAd m e.port k).1:=by
   unfold zAd;split
   ·refine ⟨h.p,h.c,h.n,h.h,?_,h.t,h.d,h.i,h.b⟩;have:=h.k;unfold zHZ;split
    ·simp;omega
    split<;>exact h.k
   repeat' split
   all_goals exact h
  exact ⟨hR.p,hR.c.setR (hr q),hR.n,hR.h,hR.k,hR.t,hR.d,hR.i,hR.b⟩
 split
 ·unfold zAL;split
  ·exact h
  split
  ·refine ⟨h.p,h.c,h.n,h.h,h.k,?_,h.d,h.i,h.b⟩;show timMay (armD e.val)=true
   unfold timMay armD;by_cases z:e.val=0<;>simp [z]
  split
  ·exact ⟨h.p,h.c,h.n,h.h,h.k,h.t,zNX hM.d h.d _ _ _,h.i,h.b⟩
  split
  ·exact ⟨h.p,h.c,h.n,h.h,h.k,h.t,h.d,zNq hM.r h.i _ _ _,h.b⟩
  split
  ·obtain ⟨-,-,a3⟩:=zTF hM.gv hM.w e.port e.val;have hl:=zBu a3;refine ⟨by show pagesD (zA8 _ _ _ _).2≠0;rw [hl];exact h.p,h.c,h.n,h.h,h.k,h.t,?_,?_,?_⟩
   ·show dskMay _ (pagesD (zA8 _ _ _ _).2)=true;rw [hl];exact h.d
   ·show nicMay _ (pagesD (zA8 _ _ _ _).2)=true;rw [hl];exact h.i
   show balMay _ (pagesD (zA8 _ _ _ _).2)=true;rw [hl];exact zNO hM.gv _ he.v h.b
  exact h
 split
 ·exact ⟨h.p,h.c,h.n,by simp [hh],h.k,h.t,h.d,h.i,h.b⟩
 split
 ·exact ⟨h.p,h.c,h.n,by simp [hw],h.k,h.t,h.d,h.i,h.b⟩
 exact h
theorem zH8 {m:MchD} (hM:OkM m) (hr:runsD m=true) (k:Int):MayM (goD m k).1:=by
 have hx:=hr;unfold runsD at hx;simp only [zWJ,zWl,decide_eq_true_eq] at hx;obtain ⟨⟨⟨h1,h2⟩,h3⟩,h4⟩:=hx;obtain ⟨a1,a2⟩:=zF6 hM;obtain ⟨b1,b2,b3⟩:=zOL hM ((zBf m).1 h1) h2;have hd:=zRW a1 a2 b1 b2 b3 k m.count (fun q=>(a2.r q).1)
 have hq:=zD3 (zBg m) (effD m) k m.count;rw [zDE] at hq;unfold goD;refine ⟨hd.p,hd.c,?_,hd.h,hd.k,hd.t,hd.d,hd.i,hd.b⟩;show _+1<=_
 rw [hq];omega
theorem zE5 {m:MchD} (hM:OkM m) (h:mayD m=true) (k:Int):mayD (stepD m k).1=true:=by
 unfold stepD;split
 ·rename_i q;exact (zBf _).2 (zH8 hM q k)
 exact h
theorem zJf {d:DskD} {l:List Int} (h:dskMay d (pagesD l)=true) (e:EvD):dskMay (zAJ d l e).1 (pagesD l)=true:=by
 have hbl:¬ d.blocks > 64:=by intro y;unfold dskMay at h;rw [if_pos y] at h;cases h
 have hD:dskMay (doneD d e.n) (pagesD l)=true:=by
  unfold dskMay doneD;simp only;rw [if_neg hbl,if_pos (by split<;>omega)]
  simp
 unfold zAJ
 repeat' split
 all_goals first|exact h|exact hD
theorem zSW {n:NicD} {l:List Int} (h:nicMay n (pagesD l)=true) (s:Str):nicMay (zAY n l s).1 (pagesD l)=true:=by
 unfold zAY;split
 ·rename_i z;unfold nicMay;simp;omega
 exact h
theorem zBl {m:MchD} (hM:OkM m) (h:mayD m=true) (e:EvD):mayD (applyD m e).1=true:=by
 have hm:=(zBf m).1 h;unfold applyD;split
 ·exact h
 split
 ·split
  ·refine (zBf _).2 ⟨hm.p,hm.c,hm.n,hm.h,hm.k,?_,hm.d,hm.i,hm.b⟩;show timMay (zDe m.tim).1=true
   unfold zDe;split
   ·simp [timMay]
   exact hm.t
  exact h
 split
 ·split
  ·refine (zBf _).2 ⟨hm.p,hm.c,hm.n,hm.h,?_,hm.t,hm.d,hm.i,hm.b⟩;show (zDv m.keys _).1.length<=16
   unfold zDv;split
   ·exact hm.k
   simp;omega
  exact h
 split
 ·obtain ⟨-,a2⟩:=zHy (d:=m.dk) hM.w e;have hl:=zBu a2;refine (zBf _).2 ⟨by show pagesD (zAJ _ _ _).2.1≠0;rw [hl];exact hm.p,hm.c,hm.n,hm.h,hm.k,hm.t,?_,?_,?_⟩
  ·show dskMay _ (pagesD (zAJ _ _ _).2.1)=true;rw [hl];exact zJf hm.d e
  ·show nicMay _ (pagesD (zAJ _ _ _).2.1)=true;rw [hl];exact hm.i
  show balMay _ (pagesD (zAJ _ _ _).2.1)=true;rw [hl];exact hm.b
 split
 ·split
  ·obtain ⟨-,-,a3⟩:=zTj hM.r hM.w e.data;have hl:=zBu a3;refine (zBf _).2 ⟨by show pagesD (zAY _ _ _).2.1≠0;rw [hl];exact hm.p,hm.c,hm.n,hm.h,hm.k,hm.t,?_,?_,?_⟩
   ·show dskMay _ (pagesD (zAY _ _ _).2.1)=true;rw [hl];exact hm.d
   ·show nicMay _ (pagesD (zAY _ _ _).2.1)=true;rw [hl];exact zSW hm.i _
   show balMay _ (pagesD (zAY _ _ _).2.1)=true;rw [hl];exact hm.b
  exact h
 split
 ·split
  ·exact (zBf _).2 ⟨hm.p,hm.c,hm.n,hm.h,hm.k,hm.t,hm.d,hm.i,hm.b⟩
  exact h
 exact h
end Go.Proofs.YthjpcmecgjfilaaGreat
end
section
set_option maxRecDepth 1000000
namespace Go.Proofs.YthjpcmecgjfilaaGreat
open Go.Ab Go.RowKit Tryz
def kW:List Int:=[403701760,303104152,990904321,403701760,303104031,990904327,403701760,303104004,990904326,404750336,304218624,405798912,305332224,406847488,306446344,340983816,307560455,342032386,23461890,592838656,271777793,708116474,403701760,303104006,1024458759,403701760,303104002,1024458761,403701760,303104100,1024458755,403701760,303104640,990904322,403701760,303104021,990904320,956301312,990904325,974127107,386990096,672137233,974127106,269549572,990904322,1009778690,1026555904,403701760,303104001,1024458756,403701760,303104007,1024458757,286392321,269549569,1024458758,974127109,956301312,1007681536,1024458752,1023410182,1023410185,403701760,303104006,1024458759,403701760,303104002,1024458761,1007681538,269549588,1024458755,1007681546,1024458762,974127109,956301312]
def kMem (f:Nat->Int):List Int:=kW++(List.replicate 85 0++(List.range 96).map f)
def kM0 (f:Nat->Int):MchD:={zMch with cpu:=⟨fun _=>0,0,fun i=>if i=0 then 1 else 0⟩,mem:=kMem f,dk:={zDsk with blocks:=4}}
def itD (m:MchD):Nat->MchD
 | 0=>m
 | n+1=>(goD (itD m n) 0).1
def rdsD (m:MchD):Bool:=decide ((zAK m).cpu.csr 0 % 2=1)&&zAR m.mem (zAK m).cpu.pc 4&&validD (decI (wAt m.mem ((zAK m).cpu.pc / 4)))&&decide ((decI (wAt m.mem ((zAK m).cpu.pc / 4))).op=60)&&decide ((decI (wAt m.mem ((zAK m).cpu.pc / 4))).imm=2)
def zKQ (m:MchD):Bool:=decide ((effD m).kind=0)||(decide ((effD m).kind=2)&&(decide ((effD m).port=3)||decide ((effD m).port=7)||(decide ((effD m).port=9)&&decide ((effD m).val=2))))
def zSq (m:MchD):Bool:=!zDX (zAK m).cpu&&[1,16,18,20,24,35,42,57,59,61].contains (decI (wAt (zAE (zAK m).cpu m.mem (zAK m).cpu.pc 4 1).2.1 ((zAE (zAK m).cpu m.mem (zAK m).cpu.pc 4 1).1 / 4))).op
def zG7 (m:MchD):Bool:=!m.halted&&(!zIh m&&(!rdsD m&&(zKQ m&&zSq m)))
theorem k_q1 (f:Nat->Int):((List.range 87).all fun k=>zG7 (itD (kM0 f) k))=true:=by kernel_rfl
end Go.Proofs.YthjpcmecgjfilaaGreat
end
section
namespace Go.Proofs.YthjpcmecgjfilaaGreat
open Go.Ab Go.RowKit Tryz
theorem zRK (m:MchD):(zAK m).dk=m.dk:=by
 unfold zAK;split
 ·rfl
 split<;>rfl
theorem zSS {m:MchD} (h:zKQ m=true):(goD m 0).1.dk=m.dk/\(goD m 0).2=[]:=by
 have ha:(zBg m).dk=m.dk:=zRK m;unfold goD zBH;simp only;unfold zKQ at h;simp only [Bool.or_eq_true,zWJ,decide_eq_true_eq] at h;generalize effD m=e at *
 rcases h with h|⟨h,q⟩
 ·rw [if_neg (by omega),if_neg (by omega),if_neg (by omega),if_neg (by omega)]
  exact ⟨ha,rfl⟩
 rw [if_neg (by omega),if_pos h]
 rcases q with (q|q)|⟨q,v⟩
 ·unfold zAL;rw [q];exact ⟨ha,rfl⟩
 ·unfold zAL;rw [q];exact ⟨ha,rfl⟩
 unfold zAL;rw [q,v];exact ⟨ha,by simp [zAb]⟩
theorem it_ok {m:MchD} (hM:OkM m) (hmay:mayD m=true) (hc:m.count=0) (n:Nat) (hn:n<=1000) (hq:∀ k<n,zG7 (itD m k)=true):OkM (itD m n)/\mayD (itD m n)=true/\(itD m n).count=n/\(itD m n).dk=m.dk:=by
 induction n with
 | zero=>exact ⟨hM,hmay,by show m.count=_;rw [hc];rfl,rfl⟩
 | succ n ih =>
  obtain ⟨h1,h2,h3,h4⟩:=ih (by omega) fun k hk=>hq k (by omega)
  have q:=hq n (by omega)
  unfold zG7 at q;simp only [zWJ,zWl] at q;obtain ⟨q1,q2,q3,q4,q5⟩:=q;have hr:runsD (itD m n)=true:=by unfold runsD;rw [h2,q1,q2,h3];simp;omega
  obtain ⟨g1,g2⟩:=zNf h1 hr zAp;refine ⟨g1,(zBf _).2 (zH8 h1 hr 0),by rw [show itD m (n+1)=(goD (itD m n) 0).1 from rfl,g2,h3];simp,?_⟩
  rw [show itD m (n+1)=(goD (itD m n) 0).1 from rfl,(zSS q4).1,h4]
theorem zTd {w:List Int} (hw:OkW w) (hl:w.length<=256):OkM (newD w):=by
 have hp:=zMe w hl;refine ⟨⟨fun i=>zAp,zAp,fun i=>?_,by simp [newD]⟩,?_,by simp [newD,hp],by simp [newD],zAp,?_,?_,zAp,zAp,by simp [newD]⟩
 ·show W32 (if i=0 then 1 else 0)
  split
  ·exact ⟨by omega,by omega⟩
  exact zAp
 ·intro x hx
  rcases List.mem_append.1 (show x∈w++List.replicate (256-w.length) 0 from hx) with q|q
  ·exact hw x q
  rw [(List.mem_replicate.1 q).2];exact zAp
 ·constructor<;>(constructor<;>simp [newD])
 constructor<;>(constructor<;>simp [newD])
theorem zMV {w:List Int} (hl:w.length<=256):mayD (newD w)=true:=by
 have hp:=zMe w hl;have hg:pagesD (padW w)=8:=by unfold pagesD;rw [hp];decide
 have h0:(8 != (0:Int))=true:=by decide
 have h1:balMay 0 8=true:=by kernel_rfl
 have h2:nicMay zNic 8=true:=by kernel_rfl
 have h3:dskMay {zDsk with blocks:=4} 8=true:=by kernel_rfl
 have h4:timMay zTim=true:=by kernel_rfl
 have hm:(newD w).mem=padW w:=rfl;unfold mayD;rw [hm,hg,show (newD w).given=0 from rfl,show (newD w).nc=zNic from rfl,show (newD w).dk={zDsk with blocks:=4} from rfl,show (newD w).tim=zTim from rfl,h0,h1,h2,h3,h4]
 rfl
noncomputable def imgD (k:Int) (l:List Int):List Int:=if k<2 then kW++(List.replicate 85 0++zCP l) else zCP l
noncomputable def mkD (k:Int) (l:List Int):MchD:=if k=1 then itD (newD (imgD k l)) 87 else newD (imgD k l)
theorem kW_w:OkW kW:=by
 have h:kW.all (fun x=>decide (0<=x)&&decide (x<4294967296))=true:=by decide +kernel
 intro x hx
 have:=List.all_eq_true.1 h x hx;simp at this;exact ⟨by omega,by omega⟩
theorem zIi (k:Int) (l:List Int):(imgD k l).length<=l.length+160:=by
 unfold imgD;split
 ·simp only [zWL,List.length_replicate,zDb,show kW.length=75 from rfl];omega
 rw [zDb];omega
theorem zTU (k:Int) (l:List Int):OkW (imgD k l):=by
 unfold imgD;split
 ·intro x hx
  rcases List.mem_append.1 hx with q|q
  ·exact kW_w x q
  rcases List.mem_append.1 q with q|q
  ·rw [(List.mem_replicate.1 q).2];exact zAp
  exact zOi l x q
 exact zOi l
theorem zVz (c:List Int) (h:c.length<=96):c++List.replicate (96-c.length) 0=(List.range 96).map fun i=>c.getD i 0:=by
 apply List.ext_getElem?;intro j;rw [zWR,List.getElem?_append];by_cases hj:j<c.length
 ·rw [if_pos hj,List.getElem?_range (by omega),Option.map_some,zWF,zWH hj];rfl
 rw [if_neg hj,List.getElem?_replicate];by_cases h2:j<96
 ·rw [if_pos (by omega),List.getElem?_range h2,Option.map_some,zWF,List.getElem?_eq_none (by omega)];rfl
 rw [if_neg (by omega),List.getElem?_eq_none (by simpa using h2)];rfl
theorem zTc (l:List Int) (hl:l.length<=60):newD (imgD 1 l)=kM0 fun i=>(zCP l).getD i 0:=by
 have hc:=zDb l;have e:padW (imgD 1 l)=kMem fun i=>(zCP l).getD i 0:=by
  unfold padW imgD kMem;rw [if_pos (by decide),<- zVz (zCP l) (by omega)]
  have:256-(kW++(List.replicate 85 0++zCP l)).length=96-(zCP l).length:=by
   simp only [zWL,List.length_replicate,show kW.length=75 from rfl];omega
  rw [this,zWW,zWW]
 unfold newD kM0;rw [e]
theorem zTb (k:Int) (l:List Int) (hl:l.length<=60):OkM (mkD k l)/\mayD (mkD k l)=true/\(mkD k l).dk.state=0:=by
 have hi:=zIi k l;have h1:=zTd (zTU k l) (by omega)
 have h2:=zMV (w:=imgD k l) (by omega)
 unfold mkD;split
 ·rename_i hk;subst hk;have hq:∀ j<87,zG7 (itD (newD (imgD 1 l)) j)=true:=by
   intro j hj
   rw [zTc l hl];exact List.all_eq_true.1 (k_q1 fun i=>(zCP l).getD i 0) j (List.mem_range.2 hj)
  obtain ⟨g1,g2,g3,g4⟩:=it_ok h1 h2 rfl 87 (by omega) hq
  exact ⟨g1,g2,by rw [g4];rfl⟩
 exact ⟨h1,h2,rfl⟩
abbrev rowM (m:MchD) (v:V):List V:=m.cpu.row++v::.str m.keys::(m.tim.row++(m.dk.row++(m.nc.row++[uv m.tgt,uv m.given,lv m.count,.bool m.waiting,.bool m.halted])))
abbrev mchO (m:MchD) (v:V):Ob:=⟨42,49,true,false,[rowM m v]⟩
def zCv (nx:Nat) (ob:List (Nat × Option Ob)) (id j:Nat) (m:MchD) (nx':Nat) (ob':List (Nat × Option Ob)):Prop :=
 nx<=nx'/\lookO ob' id=some (mchO m (.own j))/\lookO ob' j=some (⟨25,1,false,false,ints .u32 m.mem⟩)/\∀ i,i<nx->i≠id->i≠j->lookO ob' i=lookO ob i
abbrev zMR0:=[uv 0,uv 0,uv 0,uv 0,uv 0,uv 0,uv 0,uv 0,uv 0,uv 0,uv 0,uv 0,uv 0,uv 0,uv 0,uv 0,uv 0,uv 0,uv 0,uv 0,uv 0,uv 0,uv 0,uv 0,uv 0,.sl 0 true [],.str [],.bool false,uv 0,.bool false,uv 0,uv 0,uv 0,iv 0,iv 0,uv 0,uv 0,.str [],uv 0,uv 0,.bool false,uv 0,.bool false,uv 0,uv 0,uv 0,lv 0,.bool false,.bool false]
abbrev nilE:V:=.sl 0 true []
theorem zSe:zAD prog 120 [nilE] (.bool true):=by
 refine sX func120 ntmps120 ?_;(repeat intro K hK);apply wr
 refine zAW 1 ?_;refine zAj fun K hK=>?_
 refine au ?_;(repeat intro K hK);apply wr
 refine gF00 rfl ?_;(repeat intro K hK);apply wr
 refine zAB ?_;simp
theorem run_ok (m:MchD) (n:Nat) (hmay:mayD m=true) (hg:0<=m.given/\m.given<=4294967295) (hc:m.count=0) (hn:n<=1000) (hml:m.mem.length<=100000)
  (hq:∀ k<n,(itD m k).halted=false/\zIh (itD m k)=false/\rdsD (itD m k)=false) (hct:∀ k≤n,(itD m k).count=k)
  (hDl:∀ k<n,zAD prog 121 [.st (itD m k).row] (.bool (zIh (itD m k))))
  (hR:∀ k<n,zAD prog 122 [.st (itD m k).row] (.bool (rdsD (itD m k))))
  (hO:zAD prog 40 [.st m.row] (.st (rowM m (.new 25 1 (ints .u32 m.mem)))))
  (hA:∀ k<n,∀ {nx:Nat} {ob:List (Nat × Option Ob)} (id j:Nat),lookO ob id=some (mchO (itD m k) (.own j))->lookO ob j=some ⟨25,1,false,false,ints .u32 (itD m k).mem⟩->id<nx->j<nx->id≠j ->
   InlC prog 123 [.ptr id 49 0 0,uv 0] nx ob fun r nx' ob'=>(r=.sl 0 true []\/r=.sl 4 false [])/\zCv nx ob id j (itD m (k+1)) nx' ob') :
  zAD prog 64 [.st m.row,nilE,lv n] (.tup [.st (itD m n).row,.sl 4 false [],iv 0,iv 0]):=by
 have hm:=zQG m hg.1 hg.2;rw [hmay] at hm;have g1:¬ (n:Int)<m.count:=by omega
 have g2:¬ 4000<IntKind.u64.wrap ((n:Int)-m.count):=by rw [hc,IntKind.wrap_u64];omega
 refine sX func64 ntmps64 ?_;intros;apply wr;refine cX (hm) ?_;intros;apply wr;refine gF10 (kX2 @g1 @g2) rfl ?_;intros;apply wr;refine zAG 17 [0,1,3,7,15,31,63,127,255,511,1023,2047,255,4351,16383,32767,65535] [(1,([],[])),(1,([],[])),(1,([],[])),(1,([],[])),(1,([],[])),(1,([],[])),(1,([],[])),(1,([],[])),(6,([[],[0],[0,1],[0,1,2],[],[4]],[])),(1,([],[])),(1,([],[])),(1,([],[]))] ?_;refine af ?_;intros;apply wr;refine cXf (zSe) ?_;intros;apply wr;refine zBM rfl ?_;intros;apply wr;refine cXf (hO) ?_;intros;apply wr;refine zAT 10 90 4 (by decide) rfl ?_
 simp;obtain ⟨I,hI⟩:∃ I:Nat->St->Prop,I=(fun kk ss=>∃ (i:Nat) ,i<=n/\kk=n-i/\(True)/\ss=⟨140,[(11,iv 0),(10,.own 53),(3,.ptr 0 49 0 0),(1,nilE),(2,lv n),(6,.ptr 1 49 0 0)],54,[(0,some (mchO (itD m i) (.own 29))),(29,some ⟨25,1,false,false,ints .u32 (itD m i).mem⟩),(53,some ⟨90,4,false,false,[]⟩),(1,some ⟨42,49,true,false,[zMR0]⟩)],0⟩):=⟨_,rfl⟩
 refine lX1 I (id) (by rw [hI];exact ⟨0,by simp,rfl,trivial,rfl⟩) @itD.eq_1 ?_
 intro kk ss hIk _
 rw [hI] at hIk;obtain ⟨i,hi,rfl,hx,rfl⟩:=hIk;have hci:=hct i hi;refine af1 @hci ?_;intros;apply wr;by_cases hi':i<n
 ·have c1:(i:Int)<n:=by omega
  have c2:(i:Int)<1152921504606846976:=by omega
  obtain ⟨q1,q2,q3⟩:=hq i hi';have hIi:=hDl i hi';have hRi:=hR i hi';rw [q2] at hIi;rw [q3] at hRi;refine zDK (kX2 @hi' @c2) rfl ?_;intros;apply wr;refine zAW 1 ?_;refine zAj fun K2 hK2=>?_
  refine af ?_;intros;apply wr;refine zAG 23 [0,0,2,7,15,31,31,127,255,511,31,1055,4095,8191,16383,32767,32767,131071,262143,524287,1048575,2097151,4194303] [(3,([[],[],[1]],[])),(1,([],[])),(1,([],[])),(7,([[],[],[0,1],[0,1,2],[0,1,2,3],[],[5]],[])),(1,([],[])),(1,([],[])),(1,([],[])),(2,([[],[]],[])),(1,([],[])),(1,([],[])),(1,([],[])),(1,([],[])),(1,([],[])),(1,([],[]))] ?_;refine af ?_;intros;apply wr;refine gF01f rfl @q1 ?_;intros;apply wr;refine zBM rfl ?_;intros;apply wr;refine cn (hIi) ?_;refine af ?_;intros;apply wr;refine zBM rfl ?_;intros;apply wr;refine zAG 15 [0,0,2,7,15,31,31,127,255,511,31,1055,4095,8191,16383] [(3,([[],[],[1]],[])),(1,([],[])),(1,([],[])),(7,([[],[],[0,1],[0,1,2],[0,1,2,3],[],[5]],[])),(1,([],[])),(1,([],[])),(1,([],[]))] ?_;refine af ?_;intros;apply wr;refine cn (hRi) ?_;refine af ?_;intros;apply wr;refine zBM rfl ?_;intros;apply wr;refine zBM rfl ?_;intros;apply wr
  first|refine .inr ((hA i hi' 0 29 (by simp [lookO]) (by simp [lookO]) (by omega) (by omega) (by decide)).mono fun r nx' ob' hp=>?_)|refine (hA i hi' 0 29 (by simp [lookO]) (by simp [lookO]) (by omega) (by omega) (by decide)).mono fun r nx' ob' hp=>?_|refine ((hA i hi' 0 29 (by simp [lookO]) (by simp [lookO]) (by omega) (by omega) (by decide)).mono fun r nx' ob' hp=>?_).2
  simp only [aftI];obtain ⟨hr,p1,p2,p3,p4⟩:=hp;have y1:=p4 1 (by omega) (by decide) (by decide)
  have y2:=p4 53 (by omega) (by decide) (by decide)
  simp [lookO] at y1 y2;have z0:¬ nx'=0:=by omega
  have z1:¬ nx'=1:=by omega
  have z2:¬ nx'=29:=by omega
  have w0:¬ 0=nx':=by omega
  have w1:¬ 1=nx':=by omega
  have w2:¬ 29=nx':=by omega
  have w3:29<nx'+1:=by omega
  rcases hr with rfl|rfl
  ·simp [y2];refine af1 (kX4 @y1 @y2 @p2 @p3) ?_;intros;apply wr;refine zIR (n-(i+1)) ((fun (i:Nat)  =>(⟨140,[(11,iv 0),(10,.own 53),(3,.ptr 0 49 0 0),(1,nilE),(2,lv n),(6,.ptr 1 49 0 0)],54,[(0,some (mchO (itD m i) (.own 29))),(29,some ⟨25,1,false,false,ints .u32 (itD m i).mem⟩),(53,some ⟨90,4,false,false,[]⟩),(1,some ⟨42,49,true,false,[zMR0]⟩)],0⟩:St)) (i+1) ) (fun x=>if x=53 then nx' else x) (by omega) (by rw [hI];exact ⟨i+1,by omega,rfl,trivial,rfl⟩) ⟨rfl,?_,?_,?_,by simp⟩
   ·simp [leT,ltV,lt1,ren,ren1,zAA (n:=(i:Int)+1) (by omega) (by omega),lookO,y1,p2,p3,z0,z1,z2,w0,w1,w2,w3]
   ·simp [leO,lt1,ren1,lookO,y1,p2,p3,z0,z1,z2,w0,w1,w2,w3]
   (simp;try omega)
  simp [y2];refine af1 (kX4 @y1 @y2 @p2 @p3) ?_;intros;apply wr;refine zIR (n-(i+1)) ((fun (i:Nat)  =>(⟨140,[(11,iv 0),(10,.own 53),(3,.ptr 0 49 0 0),(1,nilE),(2,lv n),(6,.ptr 1 49 0 0)],54,[(0,some (mchO (itD m i) (.own 29))),(29,some ⟨25,1,false,false,ints .u32 (itD m i).mem⟩),(53,some ⟨90,4,false,false,[]⟩),(1,some ⟨42,49,true,false,[zMR0]⟩)],0⟩:St)) (i+1) ) (fun x=>if x=53 then nx' else x) (by omega) (by rw [hI];exact ⟨i+1,by omega,rfl,trivial,rfl⟩) ⟨rfl,?_,?_,?_,by simp⟩
  ·simp [leT,ltV,lt1,ren,ren1,zAA (n:=(i:Int)+1) (by omega) (by omega),lookO,y1,p2,p3,z0,z1,z2,w0,w1,w2,w3]
  ·simp [leO,lt1,ren1,lookO,y1,p2,p3,z0,z1,z2,w0,w1,w2,w3]
  (simp;try omega)
 have:i=n:=by omega
 subst this;refine zBM rfl ?_;intros;apply wr;refine zAI ?_;refine zAB ?_;simp
end Go.Proofs.YthjpcmecgjfilaaGreat
end
