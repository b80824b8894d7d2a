/- A part of the proof of ReplicaHalts. -/
import Derived.Test.YthjpcmecgjfilaaGreatH03
import Derived.Test.YthjpcmecgjfilaaGreatH04
import Derived.Test.YthjpcmecgjfilaaGreatH09
import Derived.Test.YthjpcmecgjfilaaGreatH11
import Derived.Test.YthjpcmecgjfilaaGreatH12
import Derived.Test.YthjpcmecgjfilaaGreatH21
import Derived.Test.YthjpcmecgjfilaaGreatH24
import Derived.Test.YthjpcmecgjfilaaGreatH26
import Derived.Test.YthjpcmecgjfilaaGreatH30
set_option linter.unusedSimpArgs false
set_option linter.unusedVariables false
set_option maxHeartbeats 16000000
set_option maxRecDepth 100000
section
namespace Go.Proofs.YthjpcmecgjfilaaGreat
open Go.Ab Go.RowKit Tryz
structure MayC (c:CpuD):Prop where
 x:c.x 0=0
 s:c.csr 0<=31
 e:c.csr 7<=31
 r:c.csr 6<=255
 v:c.csr 1 % 4=0
structure MayM (m:MchD):Prop where
 p:pagesD m.mem≠0
 c:MayC m.cpu
 n:m.count<=1152921504606846976
 h:¬ (m.waiting=true/\m.halted=true)
 k:m.keys.length<=16
 t:timMay m.tim=true
 d:dskMay m.dk (pagesD m.mem)=true
 i:nicMay m.nc (pagesD m.mem)=true
 b:balMay m.given (pagesD m.mem)=true
theorem zBe (m:MchD):mayD m=true↔MayM m:=by
 constructor
 ·intro h
  unfold mayD at h;simp only [zV5,zWW,Bool.and_eq_false_iff,decide_eq_true_eq,bne_iff_ne,beq_iff_eq,ne_eq] at h;obtain ⟨⟨⟨⟨⟨⟨⟨⟨h1,h2⟩,h3⟩,h4⟩,h5⟩,h6⟩,h7⟩,h8⟩,⟨⟨⟨h9,h10⟩,h11⟩,h12⟩,h13⟩:=h;exact ⟨h1,⟨h2,h3,h4,h5,h6⟩,h7,by rcases h8 with h8|h8<;>simp [h8],by omega,h10,h11,h12,h13⟩
 rintro ⟨h1,⟨h2,h3,h4,h5,h6⟩,h7,h8,h9,h10,h11,h12,h13⟩
 unfold mayD;simp only [zV5,zWW,Bool.and_eq_false_iff,decide_eq_true_eq,bne_iff_ne,beq_iff_eq,ne_eq];refine ⟨⟨⟨⟨⟨⟨⟨⟨h1,h2⟩,h3⟩,h4⟩,h5⟩,h6⟩,h7⟩,?_⟩,⟨⟨⟨by omega,h10⟩,h11⟩,h12⟩,h13⟩
 cases hw:m.waiting<;>cases hh:m.halted<;>simp_all
theorem MayC.setR {c:CpuD} (h:MayC c) {r v:Int} (hr:0<=r):MayC (c.setR r v):=by
 unfold CpuD.setR;split
 ·exact h
 rename_i q;refine ⟨?_,h.s,h.e,h.r,h.v⟩;simp only [CpuD.setX];rw [if_neg (by simp;omega)];exact h.x
theorem MayC.setP {c:CpuD} (h:MayC c) (p:Int):MayC (c.setP p):=⟨h.x,h.s,h.e,h.r,h.v⟩
theorem MayC.trap {c:CpuD} (h:MayC c) (k b:Int):MayC (zBF c k b):=⟨h.x,by simp [zBF];exact (zQW _).2,by simp [zBF];exact h.e,by simp [zBF];exact h.r,by simp [zBF];exact h.v⟩
theorem MayC.ret {c:CpuD} (h:MayC c):MayC (retD c):=⟨h.x,by simp [retD];exact (zTY _).2,by simp [retD];exact h.e,by simp [retD];exact h.r,by simp [retD];exact h.v⟩
theorem and31 (v:Int):iand .u32 v 31<=31:=by rw [show iand .u32 v 31=v % 32 from zBJ v 5 32 (by omega) (by decide)];omega
theorem andn3 {v:Int} (h:W32 v):zCi .u32 v 3 % 4=0:=by
 obtain ⟨n,rfl⟩:=Int.eq_ofNat_of_zero_le h.1;have hn:n<4294967296:=by have:=h.2;omega
 have hb:∀ m:Nat,BitVec.ofInt 32 (m:Int)=BitVec.ofNat 32 m:=fun m=>by simp
 have e:(BitVec.ofNat 32 n &&& ~~~ BitVec.ofNat 32 3).toNat % 4=0:=by
  apply Nat.eq_of_testBit_eq;intro i;rw [show (4:Nat)=2 ^ 2 from rfl,Nat.testBit_mod_two_pow,<- BitVec.getLsbD,BitVec.getLsbD_and,BitVec.getLsbD_not]
  by_cases hi:i<2
  ·have:i=0\/i=1:=by omega
   rcases this with rfl|rfl<;>simp
  simp [hi]
 unfold zCi;rw [show IntKind.u32.bits=32 from rfl,hb n,show BitVec.ofInt 32 3=BitVec.ofNat 32 3 from rfl,zCa (by have:=(BitVec.isLt (BitVec.ofNat 32 n &&& ~~~BitVec.ofNat 32 3));omega)]
 omega
theorem MayC.write {c:CpuD} (h:MayC c) (k:Int) {v:Int} (hv:W32 v):MayC (zBG c k v):=by
 have h31:=and31 v;have h3:=andn3 hv;have h255:iand .u32 v 255<=255:=by rw [zBz];omega
 unfold zBG;split
 ·rename_i q;refine ⟨h.x,?_,?_,?_,?_⟩<;>simp only [CpuD.setS]<;>split<;>first|assumption|exact h.s|exact h.e|exact h.r|exact h.v|(exfalso;omega)
 split
 ·rename_i q;refine ⟨h.x,?_,?_,?_,?_⟩<;>simp only [CpuD.setS]<;>split<;>first|assumption|exact h.s|exact h.e|exact h.r|exact h.v|(exfalso;omega)
 split
 ·rename_i q;refine ⟨h.x,?_,?_,?_,?_⟩<;>simp only [CpuD.setS]<;>split<;>first|assumption|exact h.s|exact h.e|exact h.r|exact h.v|(exfalso;omega)
 split
 ·rename_i q;refine ⟨h.x,?_,?_,?_,?_⟩<;>simp only [CpuD.setS]<;>split<;>first|exact h.s|exact h.e|exact h.r|exact h.v|(exfalso;omega)
 exact h
theorem MayC.execute {c:CpuD} (h:MayC c) (hc:OkC c) (i:InstD) (hi:OkI i):MayC (zAG c i).1:=by
 have ha:=hi.a0;unfold zAG;exact zA3 (P:=fun z:CpuD × EffD=>MayC z.1) (fun _=>(h.setR ha).setP _) (fun _=>zA3 (P:=fun z:CpuD × EffD=>MayC z.1) (fun _=>h.setP _) (fun _=>zA3 (P:=fun z:CpuD × EffD=>MayC z.1) (fun _=>(h.setR ha).setP _) (fun _=>zA3 (P:=fun z:CpuD × EffD=>MayC z.1) (fun _=>(h.setR ha).setP _) (fun _=>zA3 (P:=fun z:CpuD × EffD=>MayC z.1) (fun _=>h.trap _ _) (fun _=>zA3 (P:=fun z:CpuD × EffD=>MayC z.1) (fun _=>h.ret) (fun _=>zA3 (P:=fun z:CpuD × EffD=>MayC z.1) (fun _=>(h.setR ha).setP _) (fun _=>zA3 (P:=fun z:CpuD × EffD=>MayC z.1) (fun _=>(h.write _ (hc.x _)).setP _) (fun _=>zA3 (P:=fun z:CpuD × EffD=>MayC z.1) (fun _=>h.setP _) (fun _=>zA3 (P:=fun z:CpuD × EffD=>MayC z.1) (fun _=>h.setP _) (fun _=>zA3 (P:=fun z:CpuD × EffD=>MayC z.1) (fun _=>h.setP _) (fun _=>zA3 (P:=fun z:CpuD × EffD=>MayC z.1) (fun _=>h.setP _) (fun _=>zA3 (P:=fun z:CpuD × EffD=>MayC z.1) (fun _=>h.setP _) (fun _=>(h.setR ha).setP _)))))))))))))
theorem MayC.load {c:CpuD} (h:MayC c) (l:List Int) (i:InstD) (hi:OkI i):MayC (zA4 c l i).1:=by
 unfold zA4;generalize zAF c l (uw (c.x i.b.toNat+uw i.imm)) (zAW i.op) 2=R;obtain ⟨a,m,k⟩:=R;simp only;split
 ·exact h.trap _ _
 exact (h.setR hi.a0).setP _
theorem MayC.store {c:CpuD} (h:MayC c) (l:List Int) (i:InstD):MayC (zAP c l i).1:=by
 unfold zAP;generalize zAF c l (uw (c.x i.b.toNat+uw i.imm)) (zAW i.op) 3=R;obtain ⟨a,m,k⟩:=R;simp only;split
 ·exact h.trap _ _
 exact h.setP _
theorem MayC.exec {c:CpuD} (h:MayC c) (hc:OkC c) (l:List Int):MayC (zAo c l).1:=by
 unfold zAo;generalize zAF c l c.pc 4 1=R;obtain ⟨a,m,k⟩:=R;simp only;split
 ·exact h.trap _ _
 unfold zBh;split
 ·exact h.trap _ _
 rename_i hv;have hi:=zBE (by simpa using hv)
 split
 ·exact h.trap _ _
 split
 ·exact h.load _ _ hi
 split
 ·exact h.store _ _
 exact h.execute hc _ hi
theorem zOC {m:MchD} (h:MayM m) (hh:m.halted=false):MayM (zAK m)/\(zAK m).waiting=false/\(zAK m).halted=false:=by
 have hw:∀ c,MayC c->MayM {m with waiting:=false,cpu:=c}:=fun c hc=>⟨h.p,hc,h.n,by simp,h.k,h.t,h.d,h.i,h.b⟩
 unfold zAK;split
 ·exact ⟨hw _ h.c,rfl,hh⟩
 split
 ·exact ⟨hw _ h.c,rfl,hh⟩
 exact ⟨hw _ (h.c.trap _ _),rfl,hh⟩
theorem zRL {c:CpuD} {l:List Int} (hc:OkC c) (hl:OkW l):(zAo c l).2.1.length=l.length:=(zTD hc hl).2.2.1
theorem zN3 {m:MchD} (hM:OkM m) (h:MayM m) (hh:m.halted=false):MayM (zBu m)/\(zBu m).waiting=false/\(zBu m).halted=false:=by
 obtain ⟨hb,h1,h2⟩:=zOC h hh;have ho:=zJO hM;have hlen:pagesD (zAo (zAK m).cpu m.mem).2.1=pagesD (zAK m).mem:=by
  rw [zBn (zRL ho.c hM.w)];have:(zAK m).mem=m.mem:=zKk m;rw [this]
 refine ⟨⟨by show pagesD (zAo _ _).2.1≠0;rw [hlen];exact hb.p,hb.c.exec ho.c _,hb.n,hb.h,hb.k,hb.t,?_,?_,?_⟩,h1,h2⟩
 ·show dskMay _ (pagesD (zAo _ _).2.1)=true;rw [hlen];exact hb.d
 ·show nicMay _ (pagesD (zAo _ _).2.1)=true;rw [hlen];exact hb.i
 show balMay _ (pagesD (zAo _ _).2.1)=true;rw [hlen];exact hb.b
theorem zS3:∀ (p x:Nat),x<2 ^ 64->(Lib.bitLen x<=p↔x<2 ^ p)
 | 0,x,hx=>by
  by_cases h:x=0
  ·subst h;decide
  have:=Lib.bitLen_half x h hx;rw [this];simp;omega
 | p+1,x,hx=>by
  by_cases h:x=0
  ·subst h;exact ⟨fun _=>Nat.two_pow_pos _,fun _=>by rw [show Lib.bitLen 0=0 by decide];omega⟩
  have e:=Lib.bitLen_half x h hx;have ih:=zS3 p (x / 2) (by omega)
  rw [e,Nat.pow_succ];omega
theorem bitLen_le (x:Int) (p:Nat) (h:W32 x):bitLen x<=p↔x<2 ^ p:=by
 unfold bitLen;have h0:=h.1;have e:x<2 ^ p↔x.toNat<2 ^ p:=by
  rw [show (2:Int) ^ p=((2 ^ p:Nat):Int) by push_cast;rfl];omega
 rw [e];exact zS3 p x.toNat (by have:=h.2;omega)
theorem zCV (g p:Int) (hg:W32 g) (hp:0<=p):balMay g p=true↔g<2 ^ p.toNat:=by
 unfold balMay;rw [decide_eq_true_eq,<- bitLen_le g p.toNat hg];omega
theorem ior_lt {a b:Int} (ha:W32 a) (hb:W32 b) {p:Nat} (h1:a<2 ^ p) (h2:b<2 ^ p):ior .u32 a b<2 ^ p:=by
 obtain ⟨n,rfl⟩:=Int.eq_ofNat_of_zero_le ha.1;obtain ⟨k,rfl⟩:=Int.eq_ofNat_of_zero_le hb.1;have q1:n<2 ^ p:=by
  have:(n:Int)<((2 ^ p:Nat):Int):=by push_cast;exact h1
  omega
 have q2:k<2 ^ p:=by
  have:(k:Int)<((2 ^ p:Nat):Int):=by push_cast;exact h2
  omega
 have hn:n<4294967296:=by have:=ha.2;omega
 have hk:k<4294967296:=by have:=hb.2;omega
 have hb':∀ m:Nat,BitVec.ofInt 32 (m:Int)=BitVec.ofNat 32 m:=fun m=>by simp
 unfold ior;rw [show IntKind.u32.bits=32 from rfl,hb' n,hb' k,BitVec.toNat_or,BitVec.toNat_ofNat,BitVec.toNat_ofNat,Nat.mod_eq_of_lt (show n<2 ^ 32 from hn),Nat.mod_eq_of_lt (show k<2 ^ 32 from hk),zCa (Nat.or_lt_two_pow (n:=32) hn hk)]
 have:=Nat.or_lt_two_pow q1 q2;have e:((n ||| k:Nat):Int)<((2 ^ p:Nat):Int):=by omega
 push_cast at e
 exact e
theorem zRf {a:Int} (ha:W32 a) (b:Int):zCi .u32 a b<=a:=by
 obtain ⟨n,rfl⟩:=Int.eq_ofNat_of_zero_le ha.1;have hn:n<4294967296:=by have:=ha.2;omega
 unfold zCi;have hb':∀ m:Nat,BitVec.ofInt 32 (m:Int)=BitVec.ofNat 32 m:=fun m=>by simp
 rw [show IntKind.u32.bits=32 from rfl,hb' n,BitVec.toNat_and,BitVec.toNat_ofNat,Nat.mod_eq_of_lt (show n<2 ^ 32 from hn)]
 have:=Nat.and_le_left (n:=n) (m:=(~~~ BitVec.ofInt 32 b).toNat);rw [zCa (by omega)]
 omega
theorem pow_w {v:Int} (h0:0<=v) (h1:v<32):W32 (2 ^ v.toNat):=by
 have h:(2:Nat) ^ v.toNat<2 ^ 32:=Nat.pow_lt_pow_right (by decide) (by omega)
 have e:(2:Int) ^ v.toNat=((2 ^ v.toNat:Nat):Int):=by push_cast;rfl
 rw [e];generalize 2 ^ v.toNat=q at h;constructor<;>omega
theorem zM7 {g:Int} {l:List Int} (hg:W32 g) (p:Int) {v:Int} (hv:W32 v) (h:balMay g (pagesD l)=true):balMay (zA7 g l p v).1 (pagesD l)=true:=by
 have hp:=(zAf l).1;rw [zCV _ _ hg hp] at h;unfold zA7;split
 ·rw [zCV _ _ hg hp];exact h
 rename_i q;have hw:=pow_w hv.1 (by omega)
 split
 ·split
  ·rename_i z;rw [zCV _ _ (zUm _ _) hp];refine ior_lt hg hw h ?_;have:(2:Nat) ^ v.toNat<2 ^ (pagesD l).toNat:=Nat.pow_lt_pow_right (by decide) (by have:=hv.1;omega)
   rw [show (2:Int) ^ v.toNat=((2 ^ v.toNat:Nat):Int) by push_cast;rfl,show (2:Int) ^ (pagesD l).toNat=((2 ^ (pagesD l).toNat:Nat):Int) by push_cast;rfl]
   omega
  rw [zCV _ _ hg hp];exact h
 split
 ·rw [zCV _ _ (zKz _ _) hp];exact Int.lt_of_le_of_lt (zRf hg _) h
 rw [zCV _ _ hg hp];exact h
theorem zTg {a:Int} (h:W32 a):IntKind.i64.wrap a=a:=zAA (by have:=h.1;omega) (by have:=h.2;omega)
theorem zPH {d:DskD} {l:List Int} (hd:OkD d) (h:dskMay d (pagesD l)=true) {c:Int} (hc:c=1\/c=2) (t:Int):dskMay (zBP d l c t).1 (pagesD l)=true:=by
 unfold zBP;split
 ·exact h
 rename_i q;have q:d.state=0:=by simpa using q
 have hbl:¬ d.blocks > 64:=by intro z;unfold dskMay at h;rw [if_pos z] at h;cases h
 have h2:=h;unfold dskMay at h2;rw [if_neg hbl,if_pos (.inl q)] at h2;split
 ·unfold dskMay;simp only;rw [if_neg hbl,if_pos (by simp)];exact h2
 rename_i z;have z1:d.block<d.blocks:=by omega
 have z2:d.frame<pagesD l:=by omega
 unfold dskMay;simp only;rw [if_neg hbl,if_neg (by simp),if_pos (by simp),zTg hd.c]
 simp only [z1,z2,decide_true,Bool.and_true];rcases hc with rfl|rfl
 ·simp [zGT]
 simp [zGT,zGx hd.c.1 z2]
theorem zNH {d:DskD} {l:List Int} (hd:OkD d) (h:dskMay d (pagesD l)=true) (p v t:Int):dskMay (zBI d l p v t).1 (pagesD l)=true:=by
 unfold zBI;split
 ·exact h
 split
 ·exact h
 split
 ·split
  ·exact zPH hd h (by omega) t
  split
  ·rename_i z;have hbl:¬ d.blocks > 64:=by intro y;unfold dskMay at h;rw [if_pos y] at h;cases h
   have z2:=z.2;unfold zBi at z2;simp only [Bool.or_eq_true,decide_eq_true_eq] at z2;unfold dskMay at h ⊢;rw [if_neg hbl,if_pos (by omega)] at h
   simp only;rw [if_neg hbl,if_pos (by simp)];exact h
  exact h
 exact h
theorem zNa {n:NicD} {l:List Int} (hn:OkN n) (h:nicMay n (pagesD l)=true) (p v t:Int):nicMay (zAa n l p v t).1 (pagesD l)=true:=by
 unfold zAa;split
 ·exact h
 split
 ·exact h
 split
 ·split
  ·exact h
  split
  ·show nicMay (if _ then _ else _) _=true
   split
   ·rename_i z;obtain ⟨z1,z2,z3⟩:=z;have hg:n.got=0:=by unfold nicMay at h;simp [z2,z3] at h;exact h.2
    unfold nicMay;simp [z3,hg,zTg hn.a];omega
   exact h
  split
  ·unfold nicMay at h ⊢;simp only;by_cases hp:n.posted=true
   ·by_cases hr:n.received=true
    ·simp [hp,hr] at h
    have hr:n.received=false:=by simpa using hr
    simp [hp,hr] at h ⊢;exact h.1
   have hp:n.posted=false:=by simpa using hp
   simp [hp] at h ⊢;exact h.1
  exact h
 exact h
theorem zRF {m:MchD} {e:EffD} (hM:OkM m) (he:OkE e) (h:MayM m) (hw:m.waiting=false) (hh:m.halted=false) (k t:Int) (hr:e.kind=1->0<=e.reg):MayM (zBH m e k t).1:=by
 unfold zBH;split
 ·rename_i q;have hR:MayM (zAc m e.port k).1:=by
   unfold zAc;split
   ·refine ⟨h.p,h.c,h.n,h.h,?_,h.t,h.d,h.i,h.b⟩;have:=h.k;unfold zHU;split
    ·simp;omega
    split<;>exact h.k
   repeat' split
   all_goals exact h
  exact ⟨hR.p,hR.c.setR (hr q),hR.n,hR.h,hR.k,hR.t,hR.d,hR.i,hR.b⟩
 split
 ·unfold zAJ;split
  ·exact h
  split
  ·refine ⟨h.p,h.c,h.n,h.h,h.k,?_,h.d,h.i,h.b⟩;show timMay (armD e.val)=true
   unfold timMay armD;by_cases z:e.val=0<;>simp [z]
  split
  ·exact ⟨h.p,h.c,h.n,h.h,h.k,h.t,zNH hM.d h.d _ _ _,h.i,h.b⟩
  split
  ·exact ⟨h.p,h.c,h.n,h.h,h.k,h.t,h.d,zNa hM.r h.i _ _ _,h.b⟩
  split
  ·obtain ⟨-,-,a3⟩:=zS2 hM.gv hM.w e.port e.val;have hl:=zBn a3;refine ⟨by show pagesD (zA7 _ _ _ _).2≠0;rw [hl];exact h.p,h.c,h.n,h.h,h.k,h.t,?_,?_,?_⟩
   ·show dskMay _ (pagesD (zA7 _ _ _ _).2)=true;rw [hl];exact h.d
   ·show nicMay _ (pagesD (zA7 _ _ _ _).2)=true;rw [hl];exact h.i
   show balMay _ (pagesD (zA7 _ _ _ _).2)=true;rw [hl];exact zM7 hM.gv _ he.v h.b
  exact h
 split
 ·exact ⟨h.p,h.c,h.n,by simp [hh],h.k,h.t,h.d,h.i,h.b⟩
 split
 ·exact ⟨h.p,h.c,h.n,by simp [hw],h.k,h.t,h.d,h.i,h.b⟩
 exact h
theorem zH3 {m:MchD} (hM:OkM m) (hr:runsD m=true) (k:Int):MayM (goD m k).1:=by
 have hx:=hr;unfold runsD at hx;simp only [zV5,zWW,decide_eq_true_eq] at hx;obtain ⟨⟨⟨h1,h2⟩,h3⟩,h4⟩:=hx;obtain ⟨a1,a2⟩:=zFz hM;obtain ⟨b1,b2,b3⟩:=zN3 hM ((zBe m).1 h1) h2;have hd:=zRF a1 a2 b1 b2 b3 k m.count (fun q=>(a2.r q).1)
 have hq:=zDy (zBu m) (effD m) k m.count;rw [zDD] at hq;unfold goD;refine ⟨hd.p,hd.c,?_,hd.h,hd.k,hd.t,hd.d,hd.i,hd.b⟩;show _+1<=_
 rw [hq];omega
theorem zEu {m:MchD} (hM:OkM m) (h:mayD m=true) (k:Int):mayD (stepD m k).1=true:=by
 unfold stepD;split
 ·rename_i q;exact (zBe _).2 (zH3 hM q k)
 exact h
theorem zJW {d:DskD} {l:List Int} (h:dskMay d (pagesD l)=true) (e:EvD):dskMay (zAO d l e).1 (pagesD l)=true:=by
 have hbl:¬ d.blocks > 64:=by intro y;unfold dskMay at h;rw [if_pos y] at h;cases h
 have hD:dskMay (doneD d e.n) (pagesD l)=true:=by
  unfold dskMay doneD;simp only;rw [if_neg hbl,if_pos (by split<;>omega)]
  simp
 unfold zAO
 repeat' split
 all_goals first|exact h|exact hD
theorem zSL {n:NicD} {l:List Int} (h:nicMay n (pagesD l)=true) (s:Str):nicMay (zAi n l s).1 (pagesD l)=true:=by
 unfold zAi;split
 ·rename_i z;unfold nicMay;simp;omega
 exact h
theorem zB8 {m:MchD} (hM:OkM m) (h:mayD m=true) (e:EvD):mayD (applyD m e).1=true:=by
 have hm:=(zBe m).1 h;unfold applyD;split
 ·exact h
 split
 ·split
  ·refine (zBe _).2 ⟨hm.p,hm.c,hm.n,hm.h,hm.k,?_,hm.d,hm.i,hm.b⟩;show timMay (zGc m.tim).1=true
   unfold zGc;split
   ·simp [timMay]
   exact hm.t
  exact h
 split
 ·split
  ·refine (zBe _).2 ⟨hm.p,hm.c,hm.n,hm.h,?_,hm.t,hm.d,hm.i,hm.b⟩;show (zHI m.keys _).1.length<=16
   unfold zHI;split
   ·exact hm.k
   simp;omega
  exact h
 split
 ·obtain ⟨-,a2⟩:=zHu (d:=m.dk) hM.w e;have hl:=zBn a2;refine (zBe _).2 ⟨by show pagesD (zAO _ _ _).2.1≠0;rw [hl];exact hm.p,hm.c,hm.n,hm.h,hm.k,hm.t,?_,?_,?_⟩
  ·show dskMay _ (pagesD (zAO _ _ _).2.1)=true;rw [hl];exact zJW hm.d e
  ·show nicMay _ (pagesD (zAO _ _ _).2.1)=true;rw [hl];exact hm.i
  show balMay _ (pagesD (zAO _ _ _).2.1)=true;rw [hl];exact hm.b
 split
 ·split
  ·obtain ⟨-,-,a3⟩:=zTX hM.r hM.w e.data;have hl:=zBn a3;refine (zBe _).2 ⟨by show pagesD (zAi _ _ _).2.1≠0;rw [hl];exact hm.p,hm.c,hm.n,hm.h,hm.k,hm.t,?_,?_,?_⟩
   ·show dskMay _ (pagesD (zAi _ _ _).2.1)=true;rw [hl];exact hm.d
   ·show nicMay _ (pagesD (zAi _ _ _).2.1)=true;rw [hl];exact zSL hm.i _
   show balMay _ (pagesD (zAi _ _ _).2.1)=true;rw [hl];exact hm.b
  exact h
 split
 ·split
  ·exact (zBe _).2 ⟨hm.p,hm.c,hm.n,hm.h,hm.k,hm.t,hm.d,hm.i,hm.b⟩
  exact h
 exact h
theorem encW_w {i:InstD} (h:validD i=true):W32 (encW i):=by
 obtain ⟨f1,f2,f3,f4,f5,f6⟩:=zES h;unfold encW;constructor<;>rcases f6 with h|h<;>omega
theorem zPD (op a b c k z:Int) (hk:0<=k/\k<24) (hz:z=0\/z=1):-2147483648<=(zCN op a b c k z).imm/\(zCN op a b c k z).imm<=2147483647:=by
 have hkz:0<=k*z/\k*z<24:=by rcases hz with rfl|rfl<;>omega
 generalize hq:k*z=q at hkz;unfold zCN;rw [hq]
 (repeat' split)<;>simp only<;>omega
theorem zPC (n:Int):-2147483648<=(zHW n).imm/\(zHW n).imm<=2147483647 :=
 zPD _ _ _ _ _ _ (by unfold kA;omega) (by unfold zA;omega)
noncomputable def zKr (x:Int):Int:=if x.tmod 17=0 then x % 4294967296 else encW (zHW x)
theorem zT6 (x:Int):W32 (zKr x):=by
 unfold zKr;split
 ·omega
 exact encW_w (zGj x)
noncomputable def zCL (l:List Int):List Int:=l.map zKr
theorem zOR (l:List Int):OkW (zCL l):=by
 intro w hw
 obtain ⟨x,_,rfl⟩:=List.mem_map.1 hw;exact zT6 x
theorem zDZ (l:List Int):(zCL l).length=l.length:=by simp [zCL]
@[simp] theorem codeL_nil:ints .u32 (zCL [])=[]:=rfl
theorem zUH (n:Int):zAD prog 115 [.st (zHW n).row] (.tup [.int .u32 (encW (zHW n)),.bool true]):=by
 have h:=zD1 (zHW n) (zPC n);simpa [zGj n] using h
theorem andF (x:Int):IntKind.u32.wrap (IntKind.i64.wrap ((BitVec.ofInt 64 x &&& 4294967295#64).toNat:Int))=x % 4294967296:=by
 have e:(BitVec.ofInt 64 x &&& 4294967295#64).toNat=(x % 4294967296).toNat:=by
  rw [BitVec.toNat_and,BitVec.toNat_ofInt,show (4294967295#64).toNat=2 ^ 32-1 from rfl,Nat.and_two_pow_sub_one_eq_mod]
  omega
 rw [e,zAA (by omega) (by omega),IntKind.wrap_u32];omega
theorem zRD (l:List Int) (hb:l.length<=100000):zAD prog 62 [.sl 1 false (ints .i64 l)] (.new 25 1 (ints .u32 (zCL l))):=by
 have hl:=zAN .i64 l;refine sX func62 ntmps62 ?_;intros;apply wr;refine zAT 3 25 1 (by decide) rfl ?_
 obtain ⟨I,hI⟩:∃ I:Nat->St->Prop,I=(fun kk ss=>∃ (i:Nat) ,i<=l.length/\kk=l.length-i/\(True)/\ss=⟨42,[(4,.int .i64 i),(3,.own 0),(0,.sl 1 false (ints .i64 l))],1,[(0,some ⟨25,1,false,false,ints .u32 (zCL (l.take i))⟩)],0⟩):=⟨_,rfl⟩
 refine lX I (id) (by rw [hI];exact ⟨0,by simp,rfl,trivial,rfl⟩) ?_
 intro kk ss hIk _
 rw [hI] at hIk;obtain ⟨i,hi,rfl,hx,rfl⟩:=hIk;refine au1 @hl ?_;intros;apply wr;refine zAC rfl (fun h=>?_) (fun h=>?_)
 ·simp at h;have hlt:i<l.length:=by omega
  obtain ⟨x,hx⟩:∃ x,l[i]? =some x:=⟨_,zV3 hlt⟩;have hg:(ints .i64 l)[i]? =some [.int .i64 x]:=zCt hx;have hS:zCL (l.take (i+1))=zCL (l.take i)++[zKr x]:=by
   rw [zCL,List.take_add_one,List.map_append,hx];rfl
  have hn:(ints .u32 (zCL (l.take i))).length=i:=by rw [zAN,zDZ,zWE];omega
  have hS':ints .u32 (zCL (l.take i))++[[V.int .u32 (zKr x)]]=ints .u32 (zCL (l.take (i+1))):=by rw [hS];simp [ints]
  refine au1 (kX2 @hg @hl) ?_;intros;apply wr;refine zAC rfl (fun hm=>?_) (fun hm=>?_)
  ·simp at hm;have hw:zKr x=x % 4294967296:=if_pos hm;rw [hw] at hS';have hF:IntKind.u32.wrap (iand .i64 x 4294967295)=x % 4294967296:=andF x;refine aum1 (kX5 @hg @hl @hn @hF @maxLen.eq_1) ?_;intros;apply wr;exact aX (fun x=>if x=0 then 2 else x) (by rw [hI];exact ⟨i+1,by omega,rfl,trivial,rfl⟩) (kX2 (zAA (n:=(i:Int)+1) (by omega) (by omega)) @hS')
  simp at hm;have hw:zKr x=encW (zHW x):=if_neg hm;rw [hw] at hS';refine au1 (kX2 @hg @hl) ?_;intros;apply wr;refine cX (zK2 x) ?_;intros;apply wr;refine cc (zUH x) ?_;refine aum1 (kX2 @hn @maxLen.eq_1) ?_;intros;apply wr;exact aX (fun x=>if x=0 then 9 else x) (by rw [hI];exact ⟨i+1,by omega,rfl,trivial,rfl⟩) (kX2 (zAA (n:=(i:Int)+1) (by omega) (by omega)) @hS')
 simp at h;have ht:l.take i=l:=List.take_of_length_le h;rw [ht];refine au ?_;intros;apply wr;refine zAB ?_;simp
def padW (w:List Int):List Int:=w++List.replicate (256-w.length) 0
def newD (w:List Int):MchD:={zMch with cpu:=⟨fun _=>0,0,fun i=>if i=0 then 1 else 0⟩,mem:=padW w,dk:={zDsk with blocks:=4}}
theorem zMO (w:List Int) (h:w.length<=256):(padW w).length=256:=by simp [padW];omega
theorem zVd {α:Type} (z:α) (us:List α) (n:Nat) (h:us.length<=n):spl (List.replicate n z) 0 us=us++List.replicate (n-us.length) z:=by
 apply List.ext_getElem?;intro j;rw [zCG _ _ _ _ (by simpa using h)]
 by_cases hj:j<us.length
 ·rw [if_pos ⟨by omega,by omega⟩,zWL hj];rfl
 rw [if_neg (by omega),zWI (by omega),List.getElem?_replicate,List.getElem?_replicate]
 by_cases h2:j<n
 ·rw [if_pos h2,if_pos (by omega)]
 rw [if_neg h2,if_neg (by omega)]
theorem zR6 (w:List Int) (h:w.length<=256):spl (ints .u32 mem0) 0 (ints .u32 w)=ints .u32 (padW w):=by
 rw [<- zME,zVd _ _ _ (by rw [zAN];exact h),zAN]
 unfold padW ints;rw [List.map_append,List.map_replicate]
theorem zUs (w:List Int) (h:w.length<=256):zAD prog 63 [iv 8,iv 4,.sl 1 false (ints .u32 w)] (.tup [.st (newD w).row,.bool true]):=by
 have hl:=zAN .u32 w;have hs:=zR6 w h;refine sY func63 ntmps63 @hl ?_;intros;apply wr;refine zAC rfl (fun h1=>?_) (fun h1=>?_)
 ·simp at h1;exfalso;omega
 refine au1 @hl ?_;intros;apply wr;refine cX (zSP) ?_;intros;apply wr;refine cc (zVN) ?_;have hsl:min w.length 256=w.length:=by omega
 refine au1 (kX3 @hl @mem0_l @hsl) ?_;intros;apply wr;refine zAI ?_;refine zAB ?_;have ht:(ints .u32 w).take 256=ints .u32 w:=List.take_of_length_le (by omega)
 simp [newD,hs,hsl,ht]
end Go.Proofs.YthjpcmecgjfilaaGreat
end
section
set_option maxRecDepth 1000000
namespace Go.Proofs.YthjpcmecgjfilaaGreat
open Go.Ab Go.RowKit Tryz
def kW:List Int:=[403701760,303104152,990904321,403701760,303104031,990904327,403701760,303104004,990904326,404750336,304218624,405798912,305332224,406847488,306446344,340983816,307560455,342032386,23461890,592838656,271777793,708116474,403701760,303104006,1024458759,403701760,303104002,1024458761,403701760,303104100,1024458755,403701760,303104640,990904322,403701760,303104021,990904320,956301312,990904325,974127107,386990096,672137233,974127106,269549572,990904322,1009778690,1026555904,403701760,303104001,1024458756,403701760,303104007,1024458757,286392321,269549569,1024458758,974127109,956301312,1007681536,1024458752,1023410182,1023410185,403701760,303104006,1024458759,403701760,303104002,1024458761,1007681538,269549588,1024458755,1007681546,1024458762,974127109,956301312]
def kMem (f:Nat->Int):List Int:=kW++(List.replicate 85 0++(List.range 96).map f)
def kM0 (f:Nat->Int):MchD:={zMch with cpu:=⟨fun _=>0,0,fun i=>if i=0 then 1 else 0⟩,mem:=kMem f,dk:={zDsk with blocks:=4}}
def itD (m:MchD):Nat->MchD
 | 0=>m
 | n+1=>(goD (itD m n) 0).1
def rdsD (m:MchD):Bool:=decide ((zAK m).cpu.csr 0 % 2=1)&&zAR m.mem (zAK m).cpu.pc 4&&validD (decI (wAt m.mem ((zAK m).cpu.pc / 4)))&&decide ((decI (wAt m.mem ((zAK m).cpu.pc / 4))).op=60)&&decide ((decI (wAt m.mem ((zAK m).cpu.pc / 4))).imm=2)
def zKG (m:MchD):Bool:=decide ((effD m).kind=0)||(decide ((effD m).kind=2)&&(decide ((effD m).port=3)||decide ((effD m).port=7)||(decide ((effD m).port=9)&&decide ((effD m).val=2))))
def zSd (m:MchD):Bool:=!zDU (zAK m).cpu&&[1,16,18,20,24,35,42,57,59,61].contains (decI (wAt (zAF (zAK m).cpu m.mem (zAK m).cpu.pc 4 1).2.1 ((zAF (zAK m).cpu m.mem (zAK m).cpu.pc 4 1).1 / 4))).op
def zGz (m:MchD):Bool:=!m.halted&&(!zIZ m&&(!rdsD m&&(zKG m&&zSd m)))
theorem k_q1 (f:Nat->Int):((List.range 87).all fun k=>zGz (itD (kM0 f) k))=true:=by kernel_rfl
end Go.Proofs.YthjpcmecgjfilaaGreat
end
section
namespace Go.Proofs.YthjpcmecgjfilaaGreat
open Go.Ab Go.RowKit Tryz
theorem zQ3 (m:MchD):(zAK m).dk=m.dk:=by
 unfold zAK;split
 ·rfl
 split<;>rfl
theorem zSG {m:MchD} (h:zKG m=true):(goD m 0).1.dk=m.dk/\(goD m 0).2=[]:=by
 have ha:(zBu m).dk=m.dk:=zQ3 m;unfold goD zBH;simp only;unfold zKG at h;simp only [Bool.or_eq_true,zV5,decide_eq_true_eq] at h;generalize effD m=e at *
 rcases h with h|⟨h,q⟩
 ·rw [if_neg (by omega),if_neg (by omega),if_neg (by omega),if_neg (by omega)]
  exact ⟨ha,rfl⟩
 rw [if_neg (by omega),if_pos h]
 rcases q with (q|q)|⟨q,v⟩
 ·unfold zAJ;rw [q];exact ⟨ha,rfl⟩
 ·unfold zAJ;rw [q];exact ⟨ha,rfl⟩
 unfold zAJ;rw [q,v];exact ⟨ha,by simp [zAa]⟩
theorem it_ok {m:MchD} (hM:OkM m) (hmay:mayD m=true) (hc:m.count=0) (n:Nat) (hn:n<=1000) (hq:∀ k<n,zGz (itD m k)=true):OkM (itD m n)/\mayD (itD m n)=true/\(itD m n).count=n/\(itD m n).dk=m.dk:=by
 induction n with
 | zero=>exact ⟨hM,hmay,by show m.count=_;rw [hc];rfl,rfl⟩
 | succ n ih =>
  obtain ⟨h1,h2,h3,h4⟩:=ih (by omega) fun k hk=>hq k (by omega)
  have q:=hq n (by omega)
  unfold zGz at q;simp only [zV5,zWW] at q;obtain ⟨q1,q2,q3,q4,q5⟩:=q;have hr:runsD (itD m n)=true:=by unfold runsD;rw [h2,q1,q2,h3];simp;omega
  obtain ⟨g1,g2⟩:=zNP h1 hr zAs;refine ⟨g1,(zBe _).2 (zH3 h1 hr 0),by rw [show itD m (n+1)=(goD (itD m n) 0).1 from rfl,g2,h3];simp,?_⟩
  rw [show itD m (n+1)=(goD (itD m n) 0).1 from rfl,(zSG q4).1,h4]
theorem zTR {w:List Int} (hw:OkW w) (hl:w.length<=256):OkM (newD w):=by
 have hp:=zMO w hl;refine ⟨⟨fun i=>zAs,zAs,fun i=>?_,by simp [newD]⟩,?_,by simp [newD,hp],by simp [newD],zAs,?_,?_,zAs,zAs,by simp [newD]⟩
 ·show W32 (if i=0 then 1 else 0)
  split
  ·exact ⟨by omega,by omega⟩
  exact zAs
 ·intro x hx
  rcases List.mem_append.1 (show x∈w++List.replicate (256-w.length) 0 from hx) with q|q
  ·exact hw x q
  rw [(List.mem_replicate.1 q).2];exact zAs
 ·constructor<;>(constructor<;>simp [newD])
 constructor<;>(constructor<;>simp [newD])
theorem zMF {w:List Int} (hl:w.length<=256):mayD (newD w)=true:=by
 have hp:=zMO w hl;have hg:pagesD (padW w)=8:=by unfold pagesD;rw [hp];decide
 have h0:(8 != (0:Int))=true:=by decide
 have h1:balMay 0 8=true:=by kernel_rfl
 have h2:nicMay zNic 8=true:=by kernel_rfl
 have h3:dskMay {zDsk with blocks:=4} 8=true:=by kernel_rfl
 have h4:timMay zTim=true:=by kernel_rfl
 have hm:(newD w).mem=padW w:=rfl;unfold mayD;rw [hm,hg,show (newD w).given=0 from rfl,show (newD w).nc=zNic from rfl,show (newD w).dk={zDsk with blocks:=4} from rfl,show (newD w).tim=zTim from rfl,h0,h1,h2,h3,h4]
 rfl
noncomputable def imgD (k:Int) (l:List Int):List Int:=if k<2 then kW++(List.replicate 85 0++zCL l) else zCL l
noncomputable def mkD (k:Int) (l:List Int):MchD:=if k=1 then itD (newD (imgD k l)) 87 else newD (imgD k l)
theorem kW_w:OkW kW:=by
 have h:kW.all (fun x=>decide (0<=x)&&decide (x<4294967296))=true:=by decide +kernel
 intro x hx
 have:=List.all_eq_true.1 h x hx;simp at this;exact ⟨by omega,by omega⟩
theorem zIa (k:Int) (l:List Int):(imgD k l).length<=l.length+160:=by
 unfold imgD;split
 ·simp only [zV7,List.length_replicate,zDZ,show kW.length=75 from rfl];omega
 rw [zDZ];omega
theorem zTH (k:Int) (l:List Int):OkW (imgD k l):=by
 unfold imgD;split
 ·intro x hx
  rcases List.mem_append.1 hx with q|q
  ·exact kW_w x q
  rcases List.mem_append.1 q with q|q
  ·rw [(List.mem_replicate.1 q).2];exact zAs
  exact zOR l x q
 exact zOR l
theorem zVl (c:List Int) (h:c.length<=96):c++List.replicate (96-c.length) 0=(List.range 96).map fun i=>c.getD i 0:=by
 apply List.ext_getElem?;intro j;rw [zWD,List.getElem?_append];by_cases hj:j<c.length
 ·rw [if_pos hj,List.getElem?_range (by omega),Option.map_some,zV1,zV3 hj];rfl
 rw [if_neg hj,List.getElem?_replicate];by_cases h2:j<96
 ·rw [if_pos (by omega),List.getElem?_range h2,Option.map_some,zV1,List.getElem?_eq_none (by omega)];rfl
 rw [if_neg (by omega),List.getElem?_eq_none (by simpa using h2)];rfl
theorem zTQ (l:List Int) (hl:l.length<=60):newD (imgD 1 l)=kM0 fun i=>(zCL l).getD i 0:=by
 have hc:=zDZ l;have e:padW (imgD 1 l)=kMem fun i=>(zCL l).getD i 0:=by
  unfold padW imgD kMem;rw [if_pos (by decide),<- zVl (zCL l) (by omega)]
  have:256-(kW++(List.replicate 85 0++zCL l)).length=96-(zCL l).length:=by
   simp only [zV7,List.length_replicate,show kW.length=75 from rfl];omega
  rw [this,zWH,zWH]
 unfold newD kM0;rw [e]
theorem zTP (k:Int) (l:List Int) (hl:l.length<=60):OkM (mkD k l)/\mayD (mkD k l)=true/\(mkD k l).dk.state=0:=by
 have hi:=zIa k l;have h1:=zTR (zTH k l) (by omega)
 have h2:=zMF (w:=imgD k l) (by omega)
 unfold mkD;split
 ·rename_i hk;subst hk;have hq:∀ j<87,zGz (itD (newD (imgD 1 l)) j)=true:=by
   intro j hj
   rw [zTQ l hl];exact List.all_eq_true.1 (k_q1 fun i=>(zCL l).getD i 0) j (List.mem_range.2 hj)
  obtain ⟨g1,g2,g3,g4⟩:=it_ok h1 h2 rfl 87 (by omega) hq
  exact ⟨g1,g2,by rw [g4];rfl⟩
 exact ⟨h1,h2,rfl⟩
end Go.Proofs.YthjpcmecgjfilaaGreat
end
section
set_option maxRecDepth 1000000
namespace Go.Proofs.YthjpcmecgjfilaaGreat.As
open Go.Ab Go.RowKit Tryz
def kSrc:List UInt8:=[108,105,32,114,49,44,32,104,97,110,100,108,101,114,10,99,115,114,119,32,114,49,44,32,49,10,108,105,32,114,49,44,32,51,49,10,99,115,114,119,32,114,49,44,32,55,10,108,105,32,114,49,44,32,52,10,99,115,114,119,32,114,49,44,32,54,10,108,105,32,114,50,44,32,53,49,50,10,108,105,32,114,51,44,32,48,10,108,105,32,114,52,44,32,56,10,109,97,112,58,32,115,104,108,105,32,114,53,44,32,114,51,44,32,56,10,111,114,105,32,114,53,44,32,114,53,44,32,55,10,115,104,108,105,32,114,54,44,32,114,51,44,32,50,10,97,100,100,32,114,54,44,32,114,54,44,32,114,50,10,115,119,32,114,53,44,32,48,40,114,54,41,10,97,100,100,105,32,114,51,44,32,114,51,44,32,49,10,98,108,116,32,114,51,44,32,114,52,44,32,109,97,112,10,108,105,32,114,49,44,32,54,10,111,117,116,32,114,49,44,32,55,10,108,105,32,114,49,44,32,50,10,111,117,116,32,114,49,44,32,57,10,108,105,32,114,49,44,32,49,48,48,10,111,117,116,32,114,49,44,32,51,10,108,105,32,114,49,44,32,54,52,48,10,99,115,114,119,32,114,49,44,32,50,10,108,105,32,114,49,44,32,50,49,10,99,115,114,119,32,114,49,44,32,48,10,101,114,101,116,10,104,97,110,100,108,101,114,58,32,99,115,114,119,32,114,49,44,32,53,10,99,115,114,114,32,114,49,44,32,51,10,115,108,116,105,32,114,49,44,32,114,49,44,32,49,54,10,98,101,113,32,114,49,44,32,114,48,44,32,105,114,113,10,99,115,114,114,32,114,49,44,32,50,10,97,100,100,105,32,114,49,44,32,114,49,44,32,52,10,99,115,114,119,32,114,49,44,32,50,10,105,110,32,114,51,44,32,50,10,111,117,116,32,114,51,44,32,48,10,108,105,32,114,49,44,32,49,10,111,117,116,32,114,49,44,32,52,10,108,105,32,114,49,44,32,55,10,111,117,116,32,114,49,44,32,53,10,97,110,100,105,32,114,49,44,32,114,50,44,32,49,10,97,100,100,105,32,114,49,44,32,114,49,44,32,49,10,111,117,116,32,114,49,44,32,54,10,99,115,114,114,32,114,49,44,32,53,10,101,114,101,116,10,105,114,113,58,32,105,110,32,114,49,44,32,48,10,111,117,116,32,114,49,44,32,48,10,111,117,116,32,114,48,44,32,54,10,111,117,116,32,114,48,44,32,57,10,108,105,32,114,49,44,32,54,10,111,117,116,32,114,49,44,32,55,10,108,105,32,114,49,44,32,50,10,111,117,116,32,114,49,44,32,57,10,105,110,32,114,49,44,32,50,10,97,100,100,105,32,114,49,44,32,114,49,44,32,50,48,10,111,117,116,32,114,49,44,32,51,10,105,110,32,114,49,44,32,49,48,10,111,117,116,32,114,49,44,32,49,48,10,99,115,114,114,32,114,49,44,32,53,10,101,114,101,116,10]
theorem kAsm:(match asmR kSrc with|.ok l=>l==kW|.error _=>false)=true:=by decide +kernel
theorem kernel_ok:zAD prog 61 [.str kSrc] (.tup [.new 25 1 (ints .u32 kW),errV (0,0)]):=by
 have h:=zJK kSrc (by decide)
 have k:=kAsm;unfold zHS at h;cases e:asmR kSrc with
 | error z=>rw [e] at k;simp at k
 | ok l =>
  rw [e] at h k;simp only [beq_iff_eq] at k;subst k;exact h
end Go.Proofs.YthjpcmecgjfilaaGreat.As
end
section
namespace Go.Proofs.YthjpcmecgjfilaaGreat
open Go.Ab Go.RowKit Tryz
inductive Tr (u:Int):MchD->List EntD->List OutD->MchD->List EntD->Prop
 | nil {m l}:m.count=u->firstOk m.count l=true->Tr u m l [] m l
 | ev {m e l O m' r}:m.count<u->e.kind≠1->Tr u (applyD m e).1 l O m' r->Tr u m (⟨m.count,e⟩::l) O m' r
 | go {m l O m' r}:m.count<u->runsD m=true->readsD m=false->(∀ e,l.head? =some e->m.count<e.at_)->Tr u (goD m 0).1 l O m' r->Tr u m l ((goD m 0).2++O) m' r
 | clk {m k l O m' r}:m.count<u->W32 k->runsD m=true->readsD m=true->Tr u (goD m k).1 l O m' r->Tr u m (⟨m.count,⟨1,k,[]⟩⟩::l) ((goD m k).2++O) m' r
theorem Tr.le {u:Int} {m m':MchD} {l r:List EntD} {O:List OutD} (h:Tr u m l O m' r):m.count<=u:=by
 cases h<;>omega
theorem Tr.first {u:Int} {m m':MchD} {l r:List EntD} {O:List OutD} (h:Tr u m l O m' r):firstOk m.count l=true:=by
 cases h with
 | nil _ h=>exact h
 | ev _ _ _=>simp [firstOk]
 | go _ _ _ h _ =>
  cases l with
  | nil=>rfl
  | cons e l=>have:=h e rfl;simp [firstOk];omega
 | clk _ _ _ _ _=>simp [firstOk]
theorem zBN (m:MchD) (e:EvD):(applyD m e).1.count=m.count:=by
 unfold applyD
 (repeat' split)<;>rfl
theorem zDg (m:MchD) (k:Int):(goD m k).1.count=m.count+1:=by
 show (zBH _ _ _ _).1.count+1=_
 rw [zDy,zDD]
theorem Tr.split {u:Int} {m m':MchD} {l r:List EntD} {O:List OutD} (h:Tr u m l O m' r):∀ t:Int,m.count<=t->t<=u->∃ y L O1 O2,Tr t m l O1 y L/\Tr u y L O2 m' r/\O=O1++O2/\y.count=t:=by
 induction h with
 | @nil m l h1 h2 =>
  intro t h3 h4
  exact ⟨m,l,[],[],.nil (by omega) h2,.nil h1 h2,rfl,by omega⟩
 | @ev m e l O m' r h1 h2 h3 ih =>
  intro t h4 h5
  by_cases h:m.count=t
  ·have hT:Tr u m (⟨m.count,e⟩::l) O m' r:=.ev h1 h2 h3;exact ⟨m,_,[],O,.nil h hT.first,hT,rfl,h⟩
  obtain ⟨y,L,O1,O2,a1,a2,a3,a4⟩:=ih t (by rw [zBN];omega) h5
  exact ⟨y,L,O1,O2,.ev (by omega) h2 a1,a2,a3,a4⟩
 | @go m l O m' r h1 h2 h3 h4 h5 ih =>
  intro t h6 h7
  by_cases h:m.count=t
  ·have hT:Tr u m l ((goD m 0).2++O) m' r:=.go h1 h2 h3 h4 h5;exact ⟨m,_,[],_,.nil h hT.first,hT,rfl,h⟩
  obtain ⟨y,L,O1,O2,a1,a2,a3,a4⟩:=ih t (by rw [zDg];omega) h7
  exact ⟨y,L,_,O2,.go (by omega) h2 h3 h4 a1,a2,by rw [a3,zWH],a4⟩
 | @clk m k l O m' r h1 h2 h3 h4 h5 ih =>
  intro t h6 h7
  by_cases h:m.count=t
  ·have hT:Tr u m (⟨m.count,⟨1,k,[]⟩⟩::l) ((goD m k).2++O) m' r:=.clk h1 h2 h3 h4 h5;exact ⟨m,_,[],_,.nil h hT.first,hT,rfl,h⟩
  obtain ⟨y,L,O1,O2,a1,a2,a3,a4⟩:=ih t (by rw [zDg];omega) h7
  exact ⟨y,L,_,O2,.clk (by omega) h2 h3 h4 a1,a2,by rw [a3,zWH],a4⟩
theorem Tr.pre {t:Int} {m y:MchD} {l L:List EntD} {O:List OutD} (h:Tr t m l O y L):∀ n:Nat,(∀ k e,n<=k->l[k]? =some e->t<=e.at_)->∃ us,L=l.drop us/\us<=n/\us<=l.length/\Tr t m (l.take n) O y ((l.take n).drop us):=by
 induction h with
 | @nil m l h1 h2 =>
  intro n _
  refine ⟨0,rfl,by omega,by omega,.nil h1 ?_⟩
  cases n with
  | zero=>rfl
  | succ n=>cases l with|nil=>rfl|cons e l=>simpa [firstOk] using h2
 | @ev m e l O m' r h1 h2 h3 ih =>
  intro n hn
  cases n with
  | zero=>have:=hn 0 _ (by omega) rfl;simp only at this;omega
  | succ n =>
   obtain ⟨us,a1,a2,a3,a4⟩:=ih n (fun k e hk he=>hn (k+1) e (by omega) (by simpa using he))
   exact ⟨us+1,by simpa using a1,by omega,by simp;omega,by simpa using Tr.ev h1 h2 a4⟩
 | @go m l O m' r h1 h2 h3 h4 h5 ih =>
  intro n hn
  obtain ⟨us,a1,a2,a3,a4⟩:=ih n hn;refine ⟨us,a1,a2,a3,.go h1 h2 h3 (fun e he=>?_) a4⟩
  cases n with
  | zero=>simp at he
  | succ n=>cases l with|nil=>simp at he|cons x l=>exact h4 e (by simpa using he)
 | @clk m k l O m' r h1 h2 h3 h4 h5 ih =>
  intro n hn
  cases n with
  | zero=>have:=hn 0 _ (by omega) rfl;simp only at this;omega
  | succ n =>
   obtain ⟨us,a1,a2,a3,a4⟩:=ih n (fun k e hk he=>hn (k+1) e (by omega) (by simpa using he))
   exact ⟨us+1,by simpa using a1,by omega,by simp;omega,by simpa using Tr.clk h1 h2 h3 h4 a4⟩
theorem Tr.end_cnt {u:Int} {m m':MchD} {l r:List EntD} {O:List OutD} (h:Tr u m l O m' r):m'.count=u:=by
 induction h with
 | nil h _=>exact h
 | ev _ _ _ ih=>exact ih
 | go _ _ _ _ _ ih=>exact ih
 | clk _ _ _ _ _ ih=>exact ih
theorem Tr.ok {u:Int} {m m':MchD} {l r:List EntD} {O:List OutD} (h:Tr u m l O m' r) (hE:∀ e∈l,W32 e.ev.n):OkM m->mayD m=true->OkM m'/\mayD m'=true:=by
 induction h with
 | nil _ _=>exact fun a b=>⟨a,b⟩
 | @ev m e l O m' r _ _ _ ih =>
  exact fun a b=>ih (fun x hx=>hE x (zV4 _ hx)) (zDE a (hE _ (zV8 ..))).1 (zB8 a b e)
 | go _ h2 _ _ _ ih=>exact fun a b=>ih hE (zNP a h2 zAs).1 ((zBe _).2 (zH3 a h2 0))
 | clk _ hk h2 _ _ ih=>exact fun a b=>ih (fun x hx=>hE x (zV4 _ hx)) (zNP a h2 hk).1 ((zBe _).2 (zH3 a h2 _))
theorem zNN {c:Int} {l:List EntD} {x:EntD} (h:firstOk c l=true) (hx:c<=x.at_):firstOk c (l++[x])=true:=by
 cases l with
 | nil=>simpa [firstOk] using hx
 | cons e l=>simpa [firstOk] using h
theorem Tr.snoc {u:Int} {m m':MchD} {l r:List EntD} {O:List OutD} (h:Tr u m l O m' r) {x:EntD} (hx:u<=x.at_):Tr u m (l++[x]) O m' (r++[x]):=by
 induction h with
 | nil h1 h2=>exact .nil h1 (zNN h2 (by omega))
 | ev h1 h2 _ ih=>exact .ev h1 h2 ih
 | @go m l O m' r h1 h2 h3 h4 _ ih =>
  refine .go h1 h2 h3 (fun e he=>?_) ih
  cases l with
  | nil=>simp at he;subst he;omega
  | cons a l=>exact h4 e (by simpa using he)
 | clk h1 h2 h3 h4 _ ih=>exact .clk h1 h2 h3 h4 ih
theorem Tr.comp {u u':Int} {m m' m2:MchD} {l r r2:List EntD} {O O2:List OutD} (h:Tr u m l O m' r) (hu:u<=u') (h2:Tr u' m' r O2 m2 r2):Tr u' m l (O++O2) m2 r2:=by
 induction h with
 | nil _ _=>exact h2
 | ev h1 h3 _ ih=>exact .ev (by omega) h3 (ih h2)
 | go h1 h3 h4 h5 _ ih=>rw [zWH];exact .go (by omega) h3 h4 h5 (ih h2)
 | clk h1 h3 h4 h5 _ ih=>rw [zWH];exact .clk (by omega) h3 h4 h5 (ih h2)
abbrev appL (m:MchD) (l:List EntD):MchD:=l.foldl (fun x e=>(applyD x e.ev).1) m
theorem Tr.evs {u:Int}:∀ (l:List EntD) {m m':MchD} {l2 r:List EntD} {O:List OutD},m.count<u->(∀ e∈l,e.at_=m.count/\e.ev.kind≠1)->Tr u (appL m l) l2 O m' r->Tr u m (l++l2) O m' r
 | [],_,_,_,_,_,_,_,h=>h
 | e::l,m,m',l2,r,O,hc,he,h=>by
  obtain ⟨e1,e2⟩:=he e (zV8 ..);have ih:=Tr.evs l (m:=(applyD m e.ev).1) (by rw [zBN];exact hc) (fun x hx=>by rw [zBN];exact he x (zV4 _ hx)) h
  have hE:e=⟨m.count,e.ev⟩:=by cases e;simp only at e1;subst e1;rfl
  rw [hE];exact .ev hc e2 ih
def Rb (m0:MchD) (H:List EntD) (O:List OutD) (m:MchD):Prop :=
 ∃ m1 rest,Tr m.count m0 H O m1 rest/\appL m1 rest=m/\∀ e∈rest,e.at_=m.count/\e.ev.kind≠1
theorem Rb.nil (m:MchD):Rb m [] [] m:=⟨m,[],.nil rfl rfl,rfl,by simp⟩
theorem Rb.ev {m0 m:MchD} {H:List EntD} {O:List OutD} (h:Rb m0 H O m) {e:EvD} (he:e.kind≠1):Rb m0 (H++[⟨m.count,e⟩]) O (applyD m e).1:=by
 obtain ⟨m1,rest,h1,h2,h3⟩:=h;have hc:=zBN m e;refine ⟨m1,rest++[⟨m.count,e⟩],by rw [hc];exact h1.snoc (Int.le_refl _),?_,fun x hx=>?_⟩
 ·show List.foldl _ _ _=_
  rw [List.foldl_append];show (applyD (appL m1 rest) e).1=_
  rw [h2]
 rw [hc];rcases List.mem_append.1 hx with q|q
 ·exact h3 x q
 rw [List.mem_singleton.1 q];exact ⟨rfl,he⟩
theorem Rb.go {m0 m:MchD} {H:List EntD} {O:List OutD} (h:Rb m0 H O m) (hr:runsD m=true) (hd:readsD m=false):Rb m0 H (O++(goD m 0).2) (goD m 0).1:=by
 obtain ⟨m1,rest,h1,h2,h3⟩:=h;have hc:=zDg m 0;have hm1:=h1.end_cnt;refine ⟨(goD m 0).1,[],?_,rfl,by simp⟩
 rw [hc];refine h1.comp (by omega) ?_
 have:=Tr.evs (u:=m.count+1) rest (m:=m1) (m':=(goD m 0).1) (l2:=[]) (r:=[]) (O:=(goD m 0).2) (by omega) (fun e he=>by rw [hm1];exact h3 e he) (by
  rw [h2];have:=Tr.go (u:=m.count+1) (m:=m) (l:=[]) (O:=[]) (m':=(goD m 0).1) (r:=[]) (by omega) hr hd (by simp) (.nil (by omega) rfl)
  rwa [zWT] at this)
 rwa [zWT] at this
theorem Rb.clk {m0 m:MchD} {H:List EntD} {O:List OutD} (h:Rb m0 H O m) {k:Int} (hk:W32 k) (hr:runsD m=true) (hd:readsD m=true):Rb m0 (H++[⟨m.count,⟨1,k,[]⟩⟩]) (O++(goD m k).2) (goD m k).1:=by
 obtain ⟨m1,rest,h1,h2,h3⟩:=h;have hc:=zDg m k;have hm1:=h1.end_cnt;refine ⟨(goD m k).1,[],?_,rfl,by simp⟩
 rw [hc];refine (h1.snoc (x:=⟨m.count,⟨1,k,[]⟩⟩) (Int.le_refl _)).comp (by omega) ?_
 refine Tr.evs (u:=m.count+1) rest (m:=m1) (by omega) (fun e he=>by rw [hm1];exact h3 e he) ?_
 rw [h2];have:=Tr.clk (u:=m.count+1) (m:=m) (k:=k) (l:=[]) (O:=[]) (m':=(goD m k).1) (r:=[]) (by omega) hk hr hd (.nil (by omega) rfl)
 rwa [zWT] at this
theorem zSD (m:MchD) (p k k':Int) (h:p≠2):zAc m p k=zAc m p k':=by
 unfold zAc
 (repeat' split)<;>first|rfl|(exfalso;omega)
theorem go_clk {m:MchD} (hr:runsD m=true) (hd:readsD m=false) (k k':Int):goD m k=goD m k':=by
 have h:¬ ((effD m).kind=1/\(effD m).port=2):=by
  intro q
  unfold readsD at hd;rw [hr,q.1,q.2] at hd;simp at hd
 have hE:zBH (zBu m) (effD m) k m.count=zBH (zBu m) (effD m) k' m.count:=by
  unfold zBH;by_cases h1:(effD m).kind=1
  ·rw [if_pos h1,if_pos h1,zSD _ _ k k' (fun z=>h ⟨h1,z⟩)]
  rw [if_neg h1,if_neg h1]
 unfold goD;rw [hE]
def Rr (m0:MchD) (H:List EntD) (r:RecD) (O:List OutD):Prop:=Rb m0 (H++r.log) O r.m
theorem Rr.offer {m0:MchD} {H:List EntD} {r:RecD} {O:List OutD} (h:Rr m0 H r O) {e:EvD} (he:e.kind≠1):Rr m0 H (zAV r e) O:=by
 unfold zAV;split
 ·show Rb m0 (H++(r.log++[⟨r.m.count,e⟩])) O (applyD r.m e).1
  rw [<- zWH];exact Rb.ev h he
 exact h
theorem Rr.tick {m0:MchD} {H:List EntD} {r:RecD} {O:List OutD} (h:Rr m0 H r O):Rr m0 H (zAu r) O:=by
 unfold zAu;split
 ·exact h.offer (by decide)
 exact h
theorem zKN {m:MchD} (hm:mayD m=true) (h:zDQ m≠true) (hc:m.count<=1152921504606846976):runsD m=true:=by
 unfold zDQ at h;rw [ne_eq,Bool.not_eq_true] at h;simp only [Bool.or_eq_false_iff,decide_eq_false_iff_not] at h;obtain ⟨⟨h1,h2⟩,h3⟩:=h;unfold runsD;rw [hm,h1,h2];simp;omega
theorem Rr.go {m0:MchD} {H:List EntD} {r:RecD} {O:List OutD} (h:Rr m0 H r O) (hk:W32 r.clock) (hr:runsD r.m=true):Rr m0 H (goR r).1 (O++(goR r).2):=by
 have hs:stepD r.m r.clock=goD r.m r.clock:=by unfold stepD;rw [if_pos hr]
 unfold goR clkR Rr;rw [hs];cases hd:readsD r.m with
 | true =>
  simp only [if_true];rw [<- zWH];exact Rb.clk h hk hr hd
 | false =>
  simp only [zWK,if_false];rw [go_clk hr hd r.clock 0];exact Rb.go h hr hd
theorem Rr.run {m0:MchD} {H:List EntD}:∀ (n:Nat) {r:RecD} {k:Nat} {O:List OutD},Rr m0 H r O->OkR r k->mayD r.m=true->Rr m0 H (runR n r []).1 (O++(runR n r []).2)/\∀ o,runR n r o=((runR n r []).1,o++(runR n r []).2)
 | 0,r,k,O,h,_,_=>⟨by simpa [runR] using h,fun o=>by simp [runR]⟩
 | n+1,r,k,O,h,hR,hm=>by
  obtain ⟨h1,-⟩:=hR.tick;have h2:=h.tick;have hm2:mayD (zAu r).m=true:=by
   unfold zAu;split
   ·unfold zAV;split
    ·exact zB8 hR.m hm _
    exact hm
   exact hm
  by_cases hs:zDQ (zAu r).m=true
  ·refine ⟨?_,fun o=>?_⟩
   ·unfold runR;rw [if_pos hs,zWT];exact h2
   unfold runR;rw [if_pos hs,if_pos hs,zWT]
  have hr:=zKN hm2 hs (by have:=((zBe _).1 hm2).n;omega)
  have h3:=h2.go h1.c hr;have hm3:mayD (goR (zAu r)).1.m=true:=zEu h1.m hm2 _;obtain ⟨a1,a2⟩:=Rr.run n h3 h1.go hm3;have e1:∀ o,runR (n+1) r o=runR n (goR (zAu r)).1 (o++(goR (zAu r)).2):=fun o=>by rw [runR,if_neg hs]
  refine ⟨?_,fun o=>?_⟩
  ·rw [e1,a2];simp only [zWa];rw [<- zWH];exact a1
  rw [e1,e1,a2,a2 ([]++_)];simp
def dueE (c:Int) (e:EntD):Bool:=decide (e.at_<=c)&&!decide (e.ev.kind=1)
def evP (p:RplD):RplD:={p with m:=appL p.m (p.log.takeWhile (dueE p.m.count)),log:=p.log.dropWhile (dueE p.m.count)}
def hdE (l:List EntD):EntD:=l.headD ⟨0,⟨0,0,[]⟩⟩
def zHa (p:RplD):Bool :=
 if readsD p.m=true then decide ((hdE p.log).ev.kind=1)&&decide ((hdE p.log).at_=p.m.count) else !(decide ((hdE p.log).ev.kind=1)&&decide ((hdE p.log).at_<=p.m.count))
def stpP (p:RplD):RplD × List OutD :=
 if readsD p.m=true then ({p with m:=(stepD p.m (hdE p.log).ev.n).1,log:=p.log.tail,clock:=uw ((hdE p.log).ev.n+1)},(stepD p.m (hdE p.log).ev.n).2)
 else ({p with m:=(stepD p.m 0).1},(stepD p.m 0).2)
def zEq:Nat->RplD->List OutD->RplD × List OutD
 | 0,p,o=>(p,o)
 | n+1,p,o=>if p.known<=p.m.count then (p,o) else if zDQ (evP p).m=true\/zHa (evP p)=false then (evP p,o) else zEq n (stpP (evP p)).1 (o++(stpP (evP p)).2)
def zCF (p:RplD) (steps:Int):RplD × List OutD:=if mayD p.m=true then zEq (limS steps) p [] else (p,[])
theorem zG6 (n:Nat) (p:RplD) (o:List OutD):zEq (n+1) p o=if p.known<=p.m.count then (p,o) else if zDQ (evP p).m=true\/zHa (evP p)=false then (evP p,o) else zEq n (stpP (evP p)).1 (o++(stpP (evP p)).2):=rfl
theorem zIz:∀ (n:Nat) (p:RplD) (o:List OutD),zEq n p o=((zEq n p []).1,o++(zEq n p []).2)
 | 0,p,o=>by simp [zEq]
 | n+1,p,o=>by
  unfold zEq;split
  ·simp
  split
  ·simp
  rw [zIz n _ (o++_),zIz n _ ([]++_)];simp
structure OkJ (p:RplD):Prop where
 m:OkM p.m
 e:∀ e∈p.log,OkT e
 k:L64 p.known
theorem zN4:∀ (l:List EntD) (m:MchD),OkM m->(∀ e∈l,OkT e)->OkM (appL m l)
 | [],m,h,_=>h
 | e::l,m,h,hl=>zN4 l _ (zDE h (hl e (zV8 ..)).n).1 (fun x hx=>hl x (zV4 _ hx))
theorem zLg:∀ (l:List EntD) (m:MchD),OkM m->(∀ e∈l,OkT e)->mayD m=true->mayD (appL m l)=true
 | [],m,h,_,hm=>hm
 | e::l,m,h,hl,hm=>zLg l _ (zDE h (hl e (zV8 ..)).n).1 (fun x hx=>hl x (zV4 _ hx)) (zB8 h hm e.ev)
theorem OkJ.ev {p:RplD} (h:OkJ p):OkJ (evP p) :=
 ⟨zN4 _ _ h.m fun e he=>h.e e ((List.takeWhile_sublist _).subset he),fun e he=>h.e e ((List.dropWhile_sublist _).subset he),h.k⟩
theorem OkJ.may {p:RplD} (h:OkJ p) (hm:mayD p.m=true):mayD (evP p).m=true:=zLg _ _ h.m (fun e he=>h.e e ((List.takeWhile_sublist _).subset he)) hm
theorem zLv {p:RplD} {e:EntD} {r:List EntD} (hl:p.log=e::r) (hd:dueE p.m.count e=true):evP p=evP {p with m:=(applyD p.m e.ev).1,log:=r}:=by
 unfold evP;simp only [hl,zBN];rw [List.takeWhile_cons_of_pos hd,List.dropWhile_cons_of_pos hd];rfl
theorem zF6 {p:RplD} (h:∀ e r,p.log=e::r->dueE p.m.count e=false):evP p=p:=by
 obtain ⟨m,l,k,c⟩:=p;unfold evP;cases l with
 | nil=>rfl
 | cons e r =>
  have hd:=h e r rfl;simp only at hd ⊢;rw [List.takeWhile_cons_of_neg (by simp [hd]),List.dropWhile_cons_of_neg (by simp [hd])]
  rfl
theorem zQL {m:MchD} (h:runsD m=true):¬ zDQ m=true:=by
 unfold runsD at h;unfold zDQ;simp only [zV5,zWW,decide_eq_true_eq] at h;obtain ⟨⟨⟨_,h1⟩,h2⟩,h3⟩:=h;have h4:¬ m.count=1152921504606846976:=by omega
 simp [h1,h2,h4]
theorem Tr.repl {u:Int} {m m':MchD} {l r:List EntD} {O:List OutD} (h:Tr u m l O m' r):∀ (n:Nat) (p:RplD),p.m=m->p.log=l->p.known=u->(u-m.count).toNat<=n->OkJ p->mayD m=true->∃ c,zEq n p []=(⟨m',r,u,c⟩,O):=by
 induction h with
 | @nil m l h1 h2 =>
  intro n p hm hl hk hn hJ hmay
  refine ⟨p.clock,?_⟩;cases n with
  | zero=>unfold zEq;rw [<- hm,<- hl,<- hk]
  | succ n=>unfold zEq;rw [if_pos (by rw [hk,hm,h1];omega),<- hm,<- hl,<- hk]
 | @ev m e l O m' r h1 h2 h3 ih =>
  intro n p hm hl hk hn hJ hmay
  have hd:dueE m.count ⟨m.count,e⟩=true:=by simp [dueE,h2]
  have hE:OkT ⟨m.count,e⟩:=hJ.e _ (by rw [hl];exact zV8 ..)
  have hM:OkM m:=by rw [<- hm];exact hJ.m
  obtain ⟨c,hc⟩:=ih n ⟨(applyD m e).1,l,p.known,p.clock⟩ rfl rfl hk (by rw [zBN];exact hn) ⟨(zDE hM hE.n).1,fun x hx=>hJ.e x (by rw [hl];exact zV4 _ hx),hJ.k⟩ (zB8 hM hmay e)
  refine ⟨c,?_⟩;rw [<- hc];have hev:evP p=evP ⟨(applyD m e).1,l,p.known,p.clock⟩:=by
   have:=zLv hl (by rw [hm];exact hd)
   rw [hm] at this;exact this
  obtain ⟨n,rfl⟩:∃ q,n=q+1:=⟨n-1,by omega⟩
  rw [zG6,zG6,hev];simp only [hm,zBN];rw [if_neg (show ¬ p.known<=m.count by omega),if_neg (show ¬ p.known<=m.count by omega)]
 | @go m l O m' r h1 h2 h3 h4 h5 ih =>
  intro n p hm hl hk hn hJ hmay
  have hM:OkM m:=by rw [<- hm];exact hJ.m
  have hev:evP p=p:=zF6 fun e r hx=>by
   rw [hl] at hx;have:=h4 e (by rw [hx];rfl)
   rw [hm];simp [dueE];omega
  obtain ⟨n,rfl⟩:∃ q,n=q+1:=⟨n-1,by omega⟩
  have hs:stepD m 0=goD m 0:=by unfold stepD;rw [if_pos h2]
  have hcnt:=zDg m 0;obtain ⟨c,hc⟩:=ih n ⟨(goD m 0).1,l,p.known,p.clock⟩ rfl rfl hk (by omega) ⟨(zNP hM h2 zAs).1,fun x hx=>hJ.e x (by rw [hl];exact hx),hJ.k⟩ ((zBe _).2 (zH3 hM h2 0))
  refine ⟨c,?_⟩;have hst:=zQL h2;have hp:zHa p=true:=by
   unfold zHa;rw [hm,hl,if_neg (by simp [h3])]
   cases l with
   | nil=>simp [hdE]
   | cons e l=>have:=h4 e rfl;simp [hdE];omega
  rw [zG6,if_neg (by rw [hk,hm];omega),hev,if_neg (by rw [hm];simp [hst,hp]),zIz]
  have e1:stpP p=(⟨(goD m 0).1,l,p.known,p.clock⟩,(goD m 0).2):=by
   unfold stpP;rw [hm,hl,if_neg (by simp [h3]),hs]
  rw [e1,hc];simp
 | @clk m k l O m' r h1 hk' h2 h3 h5 ih =>
  intro n p hm hl hk hn hJ hmay
  have hM:OkM m:=by rw [<- hm];exact hJ.m
  have hd:dueE m.count ⟨m.count,⟨1,k,[]⟩⟩=false:=by simp [dueE]
  have hev:evP p=p:=zF6 fun e r hx=>by
   rw [hl] at hx;cases hx;rw [hm];exact hd
  obtain ⟨n,rfl⟩:∃ q,n=q+1:=⟨n-1,by omega⟩
  have hs:stepD m k=goD m k:=by unfold stepD;rw [if_pos h2]
  have hcnt:=zDg m k;obtain ⟨c,hc⟩:=ih n ⟨(goD m k).1,l,p.known,uw (k+1)⟩ rfl rfl hk (by omega) ⟨(zNP hM h2 hk').1,fun x hx=>hJ.e x (by rw [hl];exact zV4 _ hx),hJ.k⟩ ((zBe _).2 (zH3 hM h2 k))
  refine ⟨c,?_⟩;have hst:=zQL h2;have hp:zHa p=true:=by
   unfold zHa;rw [hm,hl,if_pos h3];simp [hdE]
  rw [zG6,if_neg (by rw [hk,hm];omega),hev,if_neg (by rw [hm];simp [hst,hp]),zIz]
  have e1:stpP p=(⟨(goD m k).1,l,p.known,uw (k+1)⟩,(goD m k).2):=by
   unfold stpP;rw [hm,hl,if_pos h3];simp [hdE,hs]
  rw [e1,hc];simp
abbrev rplO (p:RplD):Ob:=⟨48,52,true,false,[p.row]⟩
def zTj (R:Nat) (Y:LoopD) (pp i1 i2 bid:Nat) (asg bod:List Oper):Prop :=
 ∀ (p:RplD) (e:EvD) (nx:Nat) (ob:List (Nat × Option Ob)),OkM p.m->W32 e.n->e.data.length<=100000->lookO ob R=some (rplO p)->R<nx->∀ K:Nat->List (Nat × Option Ob)->Prop,
  (∀ nx' ob',lookO ob' R=some (rplO {p with m:=(applyD p.m e).1})->nx<=nx'->(∀ q,q<nx->q≠R->lookO ob' q=lookO ob q)->K nx' ob')->rndV glo0 prog Y pp i1 i2 bid asg bod (.st e.row) nx ob K
theorem zUF (R a b:Nat) (p:RplD) (k:Int) (hM:OkM p.m) (hE:∀ e∈p.log,W32 e.ev.n/\e.ev.data.length<=100000) (hk:k=p.m.count) {nx:Nat} {ob:List (Nat × Option Ob)} (hR:lookO ob R=some (rplO p))
  (ha:lookO ob a=some ⟨241,1,true,false,[[.ptr R 52 0 49]]⟩) (hb:lookO ob b=some ⟨24,1,true,false,[[lv k]]⟩) (n1:a≠R) (n2:b≠R) (n3:R<nx) (n4:a<nx) (n5:b<nx)
  {l:Nat} {Y:LoopD} {pp i1 i2 bid:Nat} {asg bod:List Oper} (hY:LoopOk prog Y pp i1 i2 bid asg bod) (hr:zTj R Y pp i1 i2 bid asg bod) :
  @InlC (gly glo0 l Y) prog 185 [.yld l,.ptr a 1 0 0,.ptr b 1 0 0] nx ob fun r nx' ob'=>lookO ob' R=some (rplO (evP p))/\nx<=nx'/\∀ q,q<nx->q≠R->lookO ob' q=lookO ob q:=by
 letI:Glo:=gly glo0 l Y
 refine InlC.of func185 rfl (by kernel_rfl) rfl ?_
 simp only [ntmps185,St.startI,argT];refine au ?_;(repeat intro K hK);apply wr
 refine zAX (p.log.length+1) ?_;refine zA5 (fun c stt=>∃ (T:List (Nat × V)) (x:Nat) (o:List (Nat × Option Ob)) (z:RplD),stt=⟨46,T,x,o,nx⟩/\(lkT T 0=.yld l/\lkT T 1=.ptr a 1 0 0/\lkT T 2=.ptr b 1 0 0)/\z.log.length<=c/\evP z=evP p/\z.m.count=k/\OkM z.m/\(∀ e∈z.log,W32 e.ev.n/\e.ev.data.length<=100000)/\lookO o R=some (rplO z)/\nx<=x/\∀ q,q<nx->q≠R->lookO o q=lookO ob q) ?_ _ _ ⟨_,nx,ob,p,rfl,by simp [lkT],zV9 _,rfl,hk.symm,hM,hE,hR,zV9 _,fun q _ _=>rfl⟩
 rintro c stt ⟨T,x,o,z,rfl,⟨t0,t1,t2⟩,hc,hev,hzk,hzM,hzE,hzR,hx,hq⟩ Kl hKl
 refine zBV [(0,.yld l),(1,.ptr a 1 0 0),(2,.ptr b 1 0 0)] (by simp [t0,t1,t2]) ?_
 have hoa:lookO o a=some ⟨241,1,true,false,[[.ptr R 52 0 49]]⟩:=(hq a n4 n1).trans ha;have hobb:lookO o b=some ⟨24,1,true,false,[[lv k]]⟩:=(hq b n5 n2).trans hb;obtain ⟨zm,zl,zk,zc⟩:=z;simp only at hzk hzM hzE hc;cases zl with
 | nil =>
  have hfin:evP p=⟨zm,[],zk,zc⟩:=by rw [<- hev];rfl
  refine au ?_;(repeat intro K hK);apply wr
  refine zAE 25 [0,1,3,7,15,31,63,127,255,511,1023,2047,63,8191,16383,32767,65535,131071,262143,524287,1048575,2097151,4194303,8388607,16777215] [(1,([],[])),(1,([],[])),(1,([],[])),(1,([],[])),(1,([],[])),(1,([],[])),(7,([[],[0],[0,1],[0,1,2],[0,1,2,3],[0,1,2,3,4],[]],[])),(1,([],[])),(1,([],[])),(1,([],[])),(1,([],[])),(1,([],[])),(1,([],[])),(1,([],[])),(1,([],[])),(1,([],[])),(1,([],[])),(1,([],[])),(1,([],[]))] ?_;refine af1 (kX3 @hoa @hobb @hzR) ?_;(repeat intro K hK);apply wr
  refine zBy rfl ?_;(repeat intro K hK);apply wr
  first|exact hq|exact ⟨by rw [hzR,hfin],hx,hq⟩
 | cons e r =>
  have hl:=zAt r;have he:=hzE e (zV8 ..);have hpos:(0:Int)<(ents r).length+1:=by omega
  have hcons:ents (e::r)=e.row::ents r:=rfl;obtain ⟨c,rfl⟩:∃ q,c=q+1:=⟨c-1,by simp at hc;omega⟩
  by_cases h1:e.at_<=k
  ·by_cases h2:e.ev.kind=1
   ·have hfin:evP p=⟨zm,e::r,zk,zc⟩:=by
     rw [<- hev];exact zF6 fun e' r' hh=>by cases hh;simp [dueE,h2]
    have b1:decide (e.at_<=k)=true:=by simpa using h1
    have b2:(e.ev.kind != 1)=false:=by simp [h2]
    refine af ?_;(repeat intro K hK);apply wr
    refine zAE 25 [0,1,3,7,15,31,63,127,255,511,1023,2047,63,8191,16383,32767,65535,131071,262143,524287,1048575,2097151,4194303,8388607,16777215] [(1,([],[])),(1,([],[])),(1,([],[])),(1,([],[])),(1,([],[])),(1,([],[])),(7,([[],[0],[0,1],[0,1,2],[0,1,2,3],[0,1,2,3,4],[]],[])),(1,([],[])),(1,([],[])),(1,([],[])),(1,([],[])),(1,([],[])),(1,([],[])),(1,([],[])),(1,([],[])),(1,([],[])),(1,([],[])),(1,([],[])),(1,([],[]))] ?_;refine af1 (kX8 @hoa @hobb @hzR @hcons @hpos @b1 @b2 @h1) ?_;(repeat intro K hK);apply wr
    refine zBO @h2 rfl ?_;(repeat intro K hK);apply wr
    first|exact hq|exact ⟨by rw [hzR,hfin],hx,hq⟩
   have b1:decide (e.at_<=k)=true:=by simpa using h1
   have b2:(e.ev.kind != 1)=true:=by simp [h2]
   refine af ?_;(repeat intro K hK);apply wr
   refine zAE 25 [0,1,3,7,15,31,63,127,255,511,1023,2047,63,8191,16383,32767,65535,131071,262143,524287,1048575,2097151,4194303,8388607,16777215] [(1,([],[])),(1,([],[])),(1,([],[])),(1,([],[])),(1,([],[])),(1,([],[])),(7,([[],[0],[0,1],[0,1,2],[0,1,2,3],[0,1,2,3,4],[]],[])),(1,([],[])),(1,([],[])),(1,([],[])),(1,([],[])),(1,([],[])),(1,([],[])),(1,([],[])),(1,([],[])),(1,([],[])),(1,([],[])),(1,([],[])),(1,([],[]))] ?_;refine af1 (kX8 @hoa @hobb @hzR @hcons @hpos @b1 @b2 @h1) ?_;(repeat intro K hK);apply wr
   refine cT1 @h2 rfl ?_;have ne1:¬ a=x:=by omega
   have ne2:¬ b=x:=by omega
   have ne3:¬ R=x:=by omega
   have ne4:¬ x=R:=by omega
   refine af1 (kX8 @hoa @hobb @hzR @hcons @hpos @ne1 @ne2 @ne3) ?_;(repeat intro K hK);apply wr
   have hkx:Bx _:=⟨hK⟩;clear hK;refine zAE 7 [0,0,2,6,14,31,63] [(5,([[],[],[1],[1,2],[1,2,3]],[])),(1,([],[])),(1,([],[]))] ?_;refine af1 (kX9 @hoa @hobb @hzR @hcons @hpos @ne1 @ne2 @ne3 @ne4) ?_;(repeat intro K hK);apply wr
   refine hkx.out _ ?_;clear hkx;refine zN7 ?_;refine zKi (g:=glo0) (l:=l) (pre:=[_,_]) (post:=[_]) hY rfl rfl (by kernel_rfl) (by kernel_rfl) ?_
   simp [ne4];refine hr ⟨zm,r,zk,zc⟩ e.ev (x+1) _ hzM he.1 he.2 (by simp [lookO]) (by omega) _ fun nx' ob' g1 g2 g3=>?_
   have hcnt:=zBN zm e.ev;have hnew:evP ⟨(applyD zm e.ev).1,r,zk,zc⟩=evP p:=by
    rw [<- hev];exact (zLv (p:=⟨zm,e::r,zk,zc⟩) rfl (by simp [dueE,hzk,h1,h2])).symm
   refine zBy rfl ?_;(repeat intro K hK);apply wr
   refine hKl c _ rfl ⟨_,nx',ob',⟨(applyD zm e.ev).1,r,zk,zc⟩,rfl,by simp [lkT],by simp at hc;simpa using hc,hnew,by rw [<- hzk];exact hcnt,(zDE hzM he.1).1,fun y hy=>hzE y (zV4 _ hy),g1,by omega,fun q hq1 hq2=>?_⟩
   rw [g3 q (by omega) hq2]
   have hqx:¬ q=x:=by omega
   simp [lookO,hq2,hqx];exact hq q hq1 hq2
  have hfin:evP p=⟨zm,e::r,zk,zc⟩:=by
   rw [<- hev];exact zF6 fun e' r' hh=>by cases hh;simp [dueE,hzk,h1]
  have b1:decide (e.at_<=k)=false:=by simpa using h1
  refine af ?_;(repeat intro K hK);apply wr
  refine zAE 25 [0,1,3,7,15,31,63,127,255,511,1023,2047,63,8191,16383,32767,65535,131071,262143,524287,1048575,2097151,4194303,8388607,16777215] [(1,([],[])),(1,([],[])),(1,([],[])),(1,([],[])),(1,([],[])),(1,([],[])),(7,([[],[0],[0,1],[0,1,2],[0,1,2,3],[0,1,2,3,4],[]],[])),(1,([],[])),(1,([],[])),(1,([],[])),(1,([],[])),(1,([],[])),(1,([],[])),(1,([],[])),(1,([],[])),(1,([],[])),(1,([],[])),(1,([],[])),(1,([],[]))] ?_;refine af1 (kX7 @hoa @hobb @hzR @hcons @hpos @b1 @h1) ?_;(repeat intro K hK);apply wr
  refine zBy rfl ?_;(repeat intro K hK);apply wr
  first|exact hq|exact ⟨by rw [hzR,hfin],hx,hq⟩
structure FeedOk (p:RplD) (l:List EntD) (known:Int):Prop where
 k:p.known<=known
 n:l.length<=400
 b:p.log.length+l.length<=4096
 e:∀ e∈l,p.known<=e.at_/\e.at_<=known/\(e.at_=known->e.ev.kind≠1)/\evVal e.ev=true
 o:ordD (p.log++l)=true
theorem zRM (p:RplD) (l:List EntD) (known:Int) (hm:p.m.mem.length<=100000) (h:FeedOk p l known):zAD prog 153 [.st p.row,zBZ l,lv known] (.tup [.st (RplD.row {p with log:=p.log++l,known:=known}),.bool true]):=by
 have hb:=h.b;have hn:=h.n;have hk:=h.k;have hcop:=zG9 p hm (by omega)
 have hl:=zAt l;have hl2:=zAt p.log;have c1:¬ known<p.known:=by omega
 have c2:¬ (400:Int)<l.length:=by omega
 have w1:IntKind.i64.wrap ((p.log.length:Int)+l.length)=(p.log.length:Int)+l.length:=zAA (by omega) (by omega)
 have c3:¬ (4096:Int)<(p.log.length:Int)+l.length:=by omega
 have hcc:=zGU p.log l (by omega) (by omega)
 have hor:=zTT (p.log++l);rw [h.o] at hor;refine sX func153 ntmps153 ?_;intros;apply wr;refine cY (hcop) (kX3 @hl @hl2 @w1) ?_;intros;apply wr;refine gF11 (kX3 @c1 @c2 @c3) rfl @hl ?_;intros;apply wr;obtain ⟨I,hI⟩:∃ I:Nat->St->Prop,I=(fun kk ss=>∃ (i:Nat) ,i<=l.length/\kk=l.length-i/\(True)/\ss=⟨82,[(34,.int .i64 i),(33,.int .i64 l.length),(32,zBZ l),(3,.ptr 0 52 0 0),(2,lv known),(6,.ptr 1 52 0 0),(1,zBZ l)],54,[(0,some (rplO p)),(1,some ⟨48,52,true,false,[zMR++[.sl 0 true [],lv 0,uv 0]]⟩)],0⟩):=⟨_,rfl⟩
 refine lX I (id) (by rw [hI];exact ⟨0,by simp,rfl,trivial,rfl⟩) ?_
 intro kk ss hIk _
 rw [hI] at hIk;obtain ⟨i,hi,rfl,hx,rfl⟩:=hIk;refine au1 @hl ?_;intros;apply wr;refine zAC rfl (fun hh=>?_) (fun hh=>?_)
 ·simp at hh;obtain ⟨e,he,-,-,hmem⟩:=get_at hh;have hget:=zCs he;obtain ⟨e1,e2,e3,e4⟩:=h.e e hmem;have hv:=zIV e.ev;rw [e4] at hv;have f1:¬ e.at_<p.known:=by omega
  have f2:¬ known<e.at_:=by omega
  have f3:(decide (e.at_=known)&&decide (e.ev.kind=1))=false:=by
   by_cases q:e.at_=known
   ·simp [e3 q]
   simp [q]
  have f4:(e.at_==known&&e.ev.kind==1)=false:=f3;refine au1 @hget ?_;intros;apply wr;refine gF10 (kX4 @f1 @f2 @f3 @f4) rfl ?_;intros;apply wr;refine cX (hv) ?_;intros;apply wr;refine gF00 rfl ?_;intros;apply wr;exact aX (id) (by rw [hI];exact ⟨i+1,by omega,rfl,trivial,rfl⟩) (zAA (n:=(i:Int)+1) (by omega) (by omega))
 simp at hh;refine au ?_;intros;apply wr;refine cX (hcc) ?_;intros;apply wr;refine cX (hor) ?_;intros;apply wr;refine gF00 rfl ?_;intros;apply wr;refine zAI ?_;refine zAB ?_;simp
end Go.Proofs.YthjpcmecgjfilaaGreat
end
