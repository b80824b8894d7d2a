/- A part of the proof of ReplicaDisk. -/
import Derived.Test.YtjkmhmepljamoaaGreatK03
import Derived.Test.YtjkmhmepljamoaaGreatK04
import Derived.Test.YtjkmhmepljamoaaGreatK05
import Derived.Test.YtjkmhmepljamoaaGreatK09
import Derived.Test.YtjkmhmepljamoaaGreatK13
import Derived.Test.YtjkmhmepljamoaaGreatK14
import Derived.Test.YtjkmhmepljamoaaGreatK24
import Derived.Test.YtjkmhmepljamoaaGreatK25
import Derived.Test.YtjkmhmepljamoaaGreatK27
set_option linter.all false
set_option maxHeartbeats 16000000
set_option maxRecDepth 100000
section
namespace Go.Proofs.YtjkmhmepljamoaaGreat
open Go.Ab Go.RowKit Tryz
structure MayC(c:CpuD):Prop where
 x:c.x 0=0
 s:c.csr 0<=31
 e:c.csr 7<=31
 r:c.csr 6<=255
 v:c.csr 1%4=0
structure MayM(m:MchD):Prop where
 p:pagesD m.mem≠0
 c:MayC m.cpu
 n:m.count<=1152921504606846976
 h:¬(m.waiting=true/\m.halted=true)
 k:m.keys.length<=16
 t:timMay m.tim=true
 d:dskMay m.dk (pagesD m.mem)=true
 i:nicMay m.nc (pagesD m.mem)=true
 b:balMay m.given (pagesD m.mem)=true
theorem Bz(m:MchD):mayD m=true↔MayM m:=by
 constructor
 ·intro h;unfold mayD at h;simp only[gX,i7,Bool.and_eq_false_iff,decide_eq_true_eq,bne_iff_ne,beq_iff_eq,ne_eq]at h;obtain⟨⟨⟨⟨⟨⟨⟨⟨h1,h2⟩,h3⟩,h4⟩,h5⟩,h6⟩,h7⟩,h8⟩,⟨⟨⟨h9,h10⟩,h11⟩,h12⟩,h13⟩:=h;exact⟨h1,⟨h2,h3,h4,h5,h6⟩,h7,by rcases h8 with h8|h8<;>simp[h8],by omega,h10,h11,h12,h13⟩
 rintro⟨h1,⟨h2,h3,h4,h5,h6⟩,h7,h8,h9,h10,h11,h12,h13⟩;unfold mayD;simp only[gX,i7,Bool.and_eq_false_iff,decide_eq_true_eq,bne_iff_ne,beq_iff_eq,ne_eq];refine⟨⟨⟨⟨⟨⟨⟨⟨h1,h2⟩,h3⟩,h4⟩,h5⟩,h6⟩,h7⟩,?_⟩,⟨⟨⟨by omega,h10⟩,h11⟩,h12⟩,h13⟩;cases hw:m.waiting<;>cases hh:m.halted<;>simp_all
theorem MayC.setR{c:CpuD}(h:MayC c){r v:Int}(hr:0<=r):MayC (c.setR r v):=by
 unfold CpuD.setR;split
 ·exact h
 rename_i q;refine⟨?_,h.s,h.e,h.r,h.v⟩;simp only[CpuD.setX];rw[if_neg (by simp;omega)];exact h.x
theorem MayC.setP{c:CpuD}(h:MayC c)(p:Int):MayC (c.setP p):=⟨h.x,h.s,h.e,h.r,h.v⟩
theorem MayC.trap{c:CpuD}(h:MayC c)(k b:Int):MayC (BP c k b):=⟨h.x,by simp[BP];exact(V3 _).2,by simp[BP];exact h.e,by simp[BP];exact h.r,by simp[BP];exact h.v⟩
theorem MayC.ret{c:CpuD}(h:MayC c):MayC (Om c):=⟨h.x,by simp[Om];exact(Z4 _).2,by simp[Om];exact h.e,by simp[Om];exact h.r,by simp[Om];exact h.v⟩
theorem and31(v:Int):Bg .u32 v 31<=31:=by rw[show Bg .u32 v 31=v%32 from AV v 5 32 (by omega) (by decide)];omega
theorem andn3{v:Int}(h:W32 v):Da .u32 v 3%4=0:=by
 obtain⟨n,rfl⟩:=Int.eq_ofNat_of_zero_le h.1;have hn:n<4294967296:=by have:=h.2;omega
 have hb:∀m:Nat,BitVec.ofInt 32 (m:Int)=BitVec.ofNat 32 m:=fun m=>by simp
 have e:(BitVec.ofNat 32 n &&& ~~~ BitVec.ofNat 32 3).toNat%4=0:=by
  apply Nat.eq_of_testBit_eq;intro i;rw[show(4:Nat)=2^2 from rfl,Nat.testBit_mod_two_pow,<- BitVec.getLsbD,BitVec.getLsbD_and,BitVec.getLsbD_not];by_cases hi:i<2
  ·have:i=0\/i=1:=by omega
   rcases this with rfl|rfl<;>simp
  simp[hi]
 unfold Da;rw[show IntKind.u32.bits=32 from rfl,hb n,show BitVec.ofInt 32 3=BitVec.ofNat 32 3 from rfl,Dq (by have:=(BitVec.isLt (BitVec.ofNat 32 n &&& ~~~BitVec.ofNat 32 3));omega)];omega
theorem MayC.write{c:CpuD}(h:MayC c)(k:Int){v:Int}(hv:W32 v):MayC (Bs c k v):=by
 have h31:=and31 v;have h3:=andn3 hv;have h255:Bg .u32 v 255<=255:=by rw[Cb];omega
 unfold Bs;split
 ·rename_i q;refine⟨h.x,?_,?_,?_,?_⟩<;>simp only[CpuD.setS]<;>split<;>first|assumption|exact h.s|exact h.e|exact h.r|exact h.v|(exfalso;omega)
 split
 ·rename_i q;refine⟨h.x,?_,?_,?_,?_⟩<;>simp only[CpuD.setS]<;>split<;>first|assumption|exact h.s|exact h.e|exact h.r|exact h.v|(exfalso;omega)
 split
 ·rename_i q;refine⟨h.x,?_,?_,?_,?_⟩<;>simp only[CpuD.setS]<;>split<;>first|assumption|exact h.s|exact h.e|exact h.r|exact h.v|(exfalso;omega)
 split
 ·rename_i q;refine⟨h.x,?_,?_,?_,?_⟩<;>simp only[CpuD.setS]<;>split<;>first|exact h.s|exact h.e|exact h.r|exact h.v|(exfalso;omega)
 exact h
theorem MayC.execute{c:CpuD}(h:MayC c)(hc:OkC c)(i:InstD)(hi:OkI i):MayC (AE c i).1:=by
 have ha:=hi.a0;unfold AE;exact BC (P:=fun z:CpuD×EffD=>MayC z.1) (fun _=>(h.setR ha).setP _) (fun _=>BC (P:=fun z:CpuD×EffD=>MayC z.1) (fun _=>h.setP _) (fun _=>BC (P:=fun z:CpuD×EffD=>MayC z.1) (fun _=>(h.setR ha).setP _) (fun _=>BC (P:=fun z:CpuD×EffD=>MayC z.1) (fun _=>(h.setR ha).setP _) (fun _=>BC (P:=fun z:CpuD×EffD=>MayC z.1) (fun _=>h.trap _ _) (fun _=>BC (P:=fun z:CpuD×EffD=>MayC z.1) (fun _=>h.ret) (fun _=>BC (P:=fun z:CpuD×EffD=>MayC z.1) (fun _=>(h.setR ha).setP _) (fun _=>BC (P:=fun z:CpuD×EffD=>MayC z.1) (fun _=>(h.write _ (hc.x _)).setP _) (fun _=>BC (P:=fun z:CpuD×EffD=>MayC z.1) (fun _=>h.setP _) (fun _=>BC (P:=fun z:CpuD×EffD=>MayC z.1) (fun _=>h.setP _) (fun _=>BC (P:=fun z:CpuD×EffD=>MayC z.1) (fun _=>h.setP _) (fun _=>BC (P:=fun z:CpuD×EffD=>MayC z.1) (fun _=>h.setP _) (fun _=>BC (P:=fun z:CpuD×EffD=>MayC z.1) (fun _=>h.setP _) (fun _=>(h.setR ha).setP _)))))))))))))
theorem MayC.load{c:CpuD}(h:MayC c)(l:List Int)(i:InstD)(hi:OkI i):MayC (Af c l i).1:=by
 unfold Af;generalize AG c l (uw (c.x i.b.toNat+uw i.imm)) (AY i.op) 2=R;obtain⟨a,m,k⟩:=R;simp only;split
 ·exact h.trap _ _
 exact(h.setR hi.a0).setP _
theorem MayC.store{c:CpuD}(h:MayC c)(l:List Int)(i:InstD):MayC (AX c l i).1:=by
 unfold AX;generalize AG c l (uw (c.x i.b.toNat+uw i.imm)) (AY i.op) 3=R;obtain⟨a,m,k⟩:=R;simp only;split
 ·exact h.trap _ _
 exact h.setP _
theorem MayC.exec{c:CpuD}(h:MayC c)(hc:OkC c)(l:List Int):MayC (Az c l).1:=by
 unfold Az;generalize AG c l c.pc 4 1=R;obtain⟨a,m,k⟩:=R;simp only;split
 ·exact h.trap _ _
 unfold CY;split
 ·exact h.trap _ _
 rename_i hv;have hi:=CJ (by simpa using hv);split
 ·exact h.trap _ _
 split
 ·exact h.load _ _ hi
 split
 ·exact h.store _ _
 exact h.execute hc _ hi
theorem Se{m:MchD}(h:MayM m)(hh:m.halted=false):MayM (AL m)/\(AL m).waiting=false/\(AL m).halted=false:=by
 have hw:∀c,MayC c->MayM {m with waiting:=false,cpu:=c}:=fun c hc=>⟨h.p,hc,h.n,by simp,h.k,h.t,h.d,h.i,h.b⟩;unfold AL;split
 ·exact⟨hw _ h.c,rfl,hh⟩
 split
 ·exact⟨hw _ h.c,rfl,hh⟩
 exact⟨hw _ (h.c.trap _ _),rfl,hh⟩
theorem We{c:CpuD}{l:List Int}(hc:OkC c)(hl:OkW l):(Az c l).2.1.length=l.length:=(ZB hc hl).2.2.1
theorem S2{m:MchD}(hM:OkM m)(h:MayM m)(hh:m.halted=false):MayM (CM m)/\(CM m).waiting=false/\(CM m).halted=false:=by
 obtain⟨hb,h1,h2⟩:=Se h hh;have ho:=MI hM;have hlen:pagesD (Az (AL m).cpu m.mem).2.1=pagesD (AL m).mem:=by
  rw[Cp (We ho.c hM.w)];have:(AL m).mem=m.mem:=Ns m;rw[this]
 refine⟨⟨by show pagesD (Az _ _).2.1≠0;rw[hlen];exact hb.p,hb.c.exec ho.c _,hb.n,hb.h,hb.k,hb.t,?_,?_,?_⟩,h1,h2⟩
 ·show dskMay _ (pagesD (Az _ _).2.1)=true;rw[hlen];exact hb.d
 ·show nicMay _ (pagesD (Az _ _).2.1)=true;rw[hlen];exact hb.i
 show balMay _ (pagesD (Az _ _).2.1)=true;rw[hlen];exact hb.b
theorem Yn:∀(p x:Nat),x<2^64->(Lib.bitLen x<=p↔x<2^p)
 | 0,x,hx=>by
  by_cases h:x=0
  ·subst h;decide
  have:=Lib.bitLen_half x h hx;rw[this];simp;omega
 | p+1,x,hx=>by
  by_cases h:x=0
  ·subst h;exact⟨fun _=>Nat.two_pow_pos _,fun _=>by rw[show Lib.bitLen 0=0 by decide];omega⟩
  have e:=Lib.bitLen_half x h hx;have ih:=Yn p (x/2) (by omega);rw[e,Nat.pow_succ];omega
theorem bitLen_le(x:Int)(p:Nat)(h:W32 x):bitLen x<=p↔x<2^p:=by
 unfold bitLen;have h0:=h.1;have e:x<2^p↔x.toNat<2^p:=by
  rw[show(2:Int)^p=((2^p:Nat):Int) by push_cast;rfl];omega
 rw[e];exact Yn p x.toNat (by have:=h.2;omega)
theorem Dj(g p:Int)(hg:W32 g)(hp:0<=p):balMay g p=true↔g<2^p.toNat:=by
 unfold balMay;rw[decide_eq_true_eq,<- bitLen_le g p.toNat hg];omega
theorem ior_lt{a b:Int}(ha:W32 a)(hb:W32 b){p:Nat}(h1:a<2^p)(h2:b<2^p):ior .u32 a b<2^p:=by
 obtain⟨n,rfl⟩:=Int.eq_ofNat_of_zero_le ha.1;obtain⟨k,rfl⟩:=Int.eq_ofNat_of_zero_le hb.1;have q1:n<2^p:=by
  have:(n:Int)<((2^p:Nat):Int):=by push_cast;exact h1
  omega
 have q2:k<2^p:=by
  have:(k:Int)<((2^p:Nat):Int):=by push_cast;exact h2
  omega
 have hn:n<4294967296:=by have:=ha.2;omega
 have hk:k<4294967296:=by have:=hb.2;omega
 have hb':∀m:Nat,BitVec.ofInt 32 (m:Int)=BitVec.ofNat 32 m:=fun m=>by simp
 unfold ior;rw[show IntKind.u32.bits=32 from rfl,hb' n,hb' k,BitVec.toNat_or,BitVec.toNat_ofNat,BitVec.toNat_ofNat,Nat.mod_eq_of_lt (show n<2^32 from hn),Nat.mod_eq_of_lt (show k<2^32 from hk),Dq (Nat.or_lt_two_pow (n:=32) hn hk)];have:=Nat.or_lt_two_pow q1 q2;have e:((n ||| k:Nat):Int)<((2^p:Nat):Int):=by omega
 push_cast at e
 exact e
theorem Ws{a:Int}(ha:W32 a)(b:Int):Da .u32 a b<=a:=by
 obtain⟨n,rfl⟩:=Int.eq_ofNat_of_zero_le ha.1;have hn:n<4294967296:=by have:=ha.2;omega
 unfold Da;have hb':∀m:Nat,BitVec.ofInt 32 (m:Int)=BitVec.ofNat 32 m:=fun m=>by simp
 rw[show IntKind.u32.bits=32 from rfl,hb' n,BitVec.toNat_and,BitVec.toNat_ofNat,Nat.mod_eq_of_lt (show n<2^32 from hn)];have:=Nat.and_le_left (n:=n) (m:=(~~~ BitVec.ofInt 32 b).toNat);rw[Dq (by omega)];omega
theorem dE{v:Int}(h0:0<=v)(h1:v<32):W32 (2^v.toNat):=by
 have h:(2:Nat)^v.toNat<2^32:=Nat.pow_lt_pow_right (by decide) (by omega);have e:(2:Int)^v.toNat=((2^v.toNat:Nat):Int):=by push_cast;rfl
 rw[e];generalize 2^v.toNat=q at h;constructor<;>omega
theorem Qt{g:Int}{l:List Int}(hg:W32 g)(p:Int){v:Int}(hv:W32 v)(h:balMay g (pagesD l)=true):balMay (Aj g l p v).1 (pagesD l)=true:=by
 have hp:=(Ad l).1;rw[Dj _ _ hg hp]at h;unfold Aj;split
 ·rw[Dj _ _ hg hp];exact h
 rename_i q;have hw:=dE hv.1 (by omega);split
 ·split
  ·rename_i z;rw[Dj _ _ (cD _ _) hp];refine ior_lt hg hw h ?_;have:(2:Nat)^v.toNat<2^(pagesD l).toNat:=Nat.pow_lt_pow_right (by decide) (by have:=hv.1;omega);rw[show(2:Int)^v.toNat=((2^v.toNat:Nat):Int) by push_cast;rfl,show(2:Int)^(pagesD l).toNat=((2^(pagesD l).toNat:Nat):Int) by push_cast;rfl];omega
  rw[Dj _ _ hg hp];exact h
 split
 ·rw[Dj _ _ (OJ _ _) hp];exact Int.lt_of_le_of_lt (Ws hg _) h
 rw[Dj _ _ hg hp];exact h
theorem Zd{a:Int}(h:W32 a):IntKind.i64.wrap a=a:=AA (by have:=h.1;omega) (by have:=h.2;omega)
theorem Tw{d:DskD}{l:List Int}(hd:OkD d)(h:dskMay d (pagesD l)=true){c:Int}(hc:c=1\/c=2)(t:Int):dskMay (Am d l c t).1 (pagesD l)=true:=by
 unfold Am;split
 ·exact h
 rename_i q;have q:d.state=0:=by simpa using q
 have hbl:¬d.blocks > 64:=by intro z;unfold dskMay at h;rw[if_pos z]at h;cases h
 have h2:=h;unfold dskMay at h2;rw[if_neg hbl,if_pos (.inl q)]at h2;split
 ·unfold dskMay;simp only;rw[if_neg hbl,if_pos (by simp)];exact h2
 rename_i z;have z1:d.block<d.blocks:=by omega
 have z2:d.frame<pagesD l:=by omega
 unfold dskMay;simp only;rw[if_neg hbl,if_neg (by simp),if_pos (by simp),Zd hd.c];simp only[z1,z2,decide_true,Bool.and_true];rcases hc with rfl|rfl
 ·simp[It]
 simp[It,FT hd.c.1 z2]
theorem RE{d:DskD}{l:List Int}(hd:OkD d)(h:dskMay d (pagesD l)=true)(p v t:Int):dskMay (Ak d l p v t).1 (pagesD l)=true:=by
 unfold Ak;split
 ·exact h
 split
 ·exact h
 split
 ·split
  ·exact Tw hd h (by omega) t
  split
  ·rename_i z;have hbl:¬d.blocks > 64:=by intro y;unfold dskMay at h;rw[if_pos y]at h;cases h
   have z2:=z.2;unfold CL at z2;simp only[Bool.or_eq_true,decide_eq_true_eq]at z2;unfold dskMay at h ⊢;rw[if_neg hbl,nH]at h;simp only;rw[if_neg hbl,if_pos (by simp)];exact h
  exact h
 exact h
theorem R7{n:NicD}{l:List Int}(hn:OkN n)(h:nicMay n (pagesD l)=true)(p v t:Int):nicMay (AZ n l p v t).1 (pagesD l)=true:=by
 unfold AZ;split
 ·exact h
 split
 ·exact h
 split
 ·split
  ·exact h
  split
  ·show nicMay (if _ then _ else _) _=true;split
   ·rename_i z;obtain⟨z1,z2,z3⟩:=z;have hg:n.got=0:=by unfold nicMay at h;simp[z2,z3]at h;exact h.2
    unfold nicMay;simp[z3,hg,Zd hn.a];omega
   exact h
  split
  ·unfold nicMay at h ⊢;simp only;by_cases hp:n.posted=true
   ·by_cases hr:n.received=true
    ·simp[hp,hr]at h
    have hr:n.received=false:=by simpa using hr
    simp[hp,hr]at h ⊢;exact h.1
   have hp:n.posted=false:=by simpa using hp
   simp[hp]at h ⊢;exact h.1
  exact h
 exact h
theorem W7{m:MchD}{e:EffD}(hM:OkM m)(he:OkE e)(h:MayM m)(hw:m.waiting=false)(hh:m.halted=false)(k t:Int)(hr:e.kind=1->0<=e.reg):MayM (BZ m e k t).1:=by
 unfold BZ;split
 ·rename_i q;have hR:MayM (AO m e.port k).1:=by
   unfold AO;split
   ·refine⟨h.p,h.c,h.n,h.h,?_,h.t,h.d,h.i,h.b⟩;have:=h.k;unfold Ed;split
    ·simp;omega
    split<;>exact h.k
   repeat' split
   all_goals exact h
  exact⟨hR.p,hR.c.setR (hr q),hR.n,hR.h,hR.k,hR.t,hR.d,hR.i,hR.b⟩
 split
 ·unfold AH;split
  ·exact h
  split
  ·refine⟨h.p,h.c,h.n,h.h,h.k,?_,h.d,h.i,h.b⟩;show timMay (WM e.val)=true;unfold timMay WM;by_cases z:e.val=0<;>simp[z]
  split
  ·exact⟨h.p,h.c,h.n,h.h,h.k,h.t,RE hM.d h.d _ _ _,h.i,h.b⟩
  split
  ·exact⟨h.p,h.c,h.n,h.h,h.k,h.t,h.d,R7 hM.r h.i _ _ _,h.b⟩
  split
  ·obtain⟨-,-,a3⟩:=Ym hM.gv hM.w e.port e.val;have hl:=Cp a3;refine⟨by show pagesD (Aj _ _ _ _).2≠0;rw[hl];exact h.p,h.c,h.n,h.h,h.k,h.t,?_,?_,?_⟩
   ·show dskMay _ (pagesD (Aj _ _ _ _).2)=true;rw[hl];exact h.d
   ·show nicMay _ (pagesD (Aj _ _ _ _).2)=true;rw[hl];exact h.i
   show balMay _ (pagesD (Aj _ _ _ _).2)=true;rw[hl];exact Qt hM.gv _ he.v h.b
  exact h
 split
 ·exact⟨h.p,h.c,h.n,by simp[hh],h.k,h.t,h.d,h.i,h.b⟩
 split
 ·exact⟨h.p,h.c,h.n,by simp[hw],h.k,h.t,h.d,h.i,h.b⟩
 exact h
theorem Hm{m:MchD}(hM:OkM m)(hr:runsD m=true)(k:Int):MayM (goD m k).1:=by
 have hx:=hr;unfold runsD at hx;simp only[gX,i7,decide_eq_true_eq]at hx;obtain⟨⟨⟨h1,h2⟩,h3⟩,h4⟩:=hx;obtain⟨a1,a2⟩:=IP hM;obtain⟨b1,b2,b3⟩:=S2 hM ((Bz m).1 h1) h2;have hd:=W7 a1 a2 b1 b2 b3 k m.count (fun q=>(a2.r q).1);have hq:=Fc (CM m) (GB m) k m.count;rw[Eb]at hq;unfold goD;refine⟨hd.p,hd.c,?_,hd.h,hd.k,hd.t,hd.d,hd.i,hd.b⟩;show _+1<=_;rw[hq];omega
theorem HB{m:MchD}(hM:OkM m)(h:mayD m=true)(k:Int):mayD (stepD m k).1=true:=by
 unfold stepD;split
 ·rename_i q;exact(Bz _).2 (Hm hM q k)
 exact h
theorem MR{d:DskD}{l:List Int}(h:dskMay d (pagesD l)=true)(e:EvD):dskMay (AI d l e).1 (pagesD l)=true:=by
 have hbl:¬d.blocks > 64:=by intro y;unfold dskMay at h;rw[if_pos y]at h;cases h
 have hD:dskMay (doneD d e.n) (pagesD l)=true:=by
  unfold dskMay doneD;simp only;rw[if_neg hbl,if_pos (by split<;>omega)];simp
 unfold AI
 repeat' split
 all_goals first|exact h|exact hD
theorem Xq{n:NicD}{l:List Int}(h:nicMay n (pagesD l)=true)(s:Str):nicMay (Ah n l s).1 (pagesD l)=true:=by
 unfold Ah;split
 ·rename_i z;unfold nicMay;simp;omega
 exact h
theorem CQ{m:MchD}(hM:OkM m)(h:mayD m=true)(e:EvD):mayD (applyD m e).1=true:=by
 have hm:=(Bz m).1 h;unfold applyD;split
 ·exact h
 split
 ·split
  ·refine(Bz _).2 ⟨hm.p,hm.c,hm.n,hm.h,hm.k,?_,hm.d,hm.i,hm.b⟩;show timMay (FG m.tim).1=true;unfold FG;split
   ·simp[timMay]
   exact hm.t
  exact h
 split
 ·split
  ·refine(Bz _).2 ⟨hm.p,hm.c,hm.n,hm.h,?_,hm.t,hm.d,hm.i,hm.b⟩;show(FZ m.keys _).1.length<=16;unfold FZ;split
   ·exact hm.k
   simp;omega
  exact h
 split
 ·obtain⟨-,a2⟩:=KR (d:=m.dk) hM.w e;have hl:=Cp a2;refine(Bz _).2 ⟨by show pagesD (AI _ _ _).2.1≠0;rw[hl];exact hm.p,hm.c,hm.n,hm.h,hm.k,hm.t,?_,?_,?_⟩
  ·show dskMay _ (pagesD (AI _ _ _).2.1)=true;rw[hl];exact MR hm.d e
  ·show nicMay _ (pagesD (AI _ _ _).2.1)=true;rw[hl];exact hm.i
  show balMay _ (pagesD (AI _ _ _).2.1)=true;rw[hl];exact hm.b
 split
 ·split
  ·obtain⟨-,-,a3⟩:=ZX hM.r hM.w e.data;have hl:=Cp a3;refine(Bz _).2 ⟨by show pagesD (Ah _ _ _).2.1≠0;rw[hl];exact hm.p,hm.c,hm.n,hm.h,hm.k,hm.t,?_,?_,?_⟩
   ·show dskMay _ (pagesD (Ah _ _ _).2.1)=true;rw[hl];exact hm.d
   ·show nicMay _ (pagesD (Ah _ _ _).2.1)=true;rw[hl];exact Xq hm.i _
   show balMay _ (pagesD (Ah _ _ _).2.1)=true;rw[hl];exact hm.b
  exact h
 split
 ·split
  ·exact(Bz _).2 ⟨hm.p,hm.c,hm.n,hm.h,hm.k,hm.t,hm.d,hm.i,hm.b⟩
  exact h
 exact h
theorem encW_w{i:InstD}(h:validD i=true):W32 (Wb i):=by
 obtain⟨f1,f2,f3,f4,f5,f6⟩:=G0 h;unfold Wb;constructor<;>rcases f6 with h|h<;>omega
theorem Tq(op a b c k z:Int)(hk:0<=k/\k<24)(hz:z=0\/z=1):-2147483648<=(Db op a b c k z).imm/\(Db op a b c k z).imm<=2147483647:=by
 have hkz:0<=k*z/\k*z<24:=by rcases hz with rfl|rfl<;>omega
 generalize hq:k*z=q at hkz;unfold Db;rw[hq]
 (repeat' split)<;>simp only<;>omega
theorem Tp(n:Int):-2147483648<=(Jt n).imm/\(Jt n).imm<=2147483647 :=
 Tq _ _ _ _ _ _ (by unfold kA;omega) (by unfold zA;omega)
noncomputable def Ny(x:Int):Int:=if x.tmod 17=0 then x%4294967296 else Wb (Jt x)
theorem aH(x:Int):W32 (Ny x):=by
 unfold Ny;split
 ·omega
 exact encW_w (JK x)
noncomputable def D8(l:List Int):List Int:=l.map Ny
theorem Su(l:List Int):OkW (D8 l):=by
 intro w hw;obtain⟨x,_,rfl⟩:=List.mem_map.1 hw;exact aH x
theorem FA(l:List Int):(D8 l).length=l.length:=by simp[D8]
@[simp] theorem codeL_nil:ints .u32 (D8 [])=[]:=rfl
theorem aV(n:Int):AC prog 98 [.st (Jt n).row] (.tup [.int .u32 (Wb (Jt n)),.bool true]):=by
 have h:=Fg (Jt n) (Tp n);simpa[JK n]using h
theorem andF(x:Int):IntKind.u32.wrap (IntKind.i64.wrap ((BitVec.ofInt 64 x &&& 4294967295#64).toNat:Int))=x%4294967296:=by
 have e:(BitVec.ofInt 64 x &&& 4294967295#64).toNat=(x%4294967296).toNat:=by
  rw[BitVec.toNat_and,BitVec.toNat_ofInt,show(4294967295#64).toNat=2^32-1 from rfl,Nat.and_two_pow_sub_one_eq_mod];omega
 rw[e,AA,IntKind.wrap_u32];omega
theorem W3(l:List Int)(hb:l.length<=100000):AC prog 44 [.sl 1 false (ints .i64 l)] (.new 25 1 (ints .u32 (D8 l))):=by
 have hl:=AN .i64 l;refine sX func44 ntmps44 ?_;intros;apply wr;refine AT 3 25 1 (by decide) rfl ?_;obtain⟨I,hI⟩:∃I:Nat->St->Prop,I=(fun kk ss=>∃(i:Nat),i<=l.length/\kk=l.length-i/\(True)/\ss=⟨42,[(4,.int .i64 i),(3,.own 0),(0,.sl 1 false (ints .i64 l))],1,[(0,some ⟨25,1,false,false,ints .u32 (D8 (l.take i))⟩)],0⟩):=⟨_,rfl⟩;refine lX I (id) (by rw[hI];exact⟨0,by simp,rfl,trivial,rfl⟩) ?_;intro kk ss hIk _;rw[hI]at hIk;obtain⟨i,hi,rfl,hx,rfl⟩:=hIk;refine au1 @hl ?_;intros;apply wr;refine AB rfl (fun h=>?_) (fun h=>?_)
 ·simp at h;have hlt:i<l.length:=by omega
  obtain⟨x,hx⟩:∃x,l[i]? =some x:=⟨_,gR hlt⟩;have hg:(ints .i64 l)[i]? =some [.int .i64 x]:=CN hx;have hS:D8 (l.take (i+1))=D8 (l.take i)++[Ny x]:=by
   rw[D8,List.take_add_one,List.map_append,hx];rfl
  have hn:(ints .u32 (D8 (l.take i))).length=i:=by rw[AN,FA,iD];omega
  have hS':ints .u32 (D8 (l.take i))++[[V.int .u32 (Ny x)]]=ints .u32 (D8 (l.take (i+1))):=by rw[hS];simp[ints]
  refine au1 (kX2 @hg @hl) ?_;intros;apply wr;refine AB rfl (fun hm=>?_) (fun hm=>?_)
  ·simp at hm;have hw:Ny x=x%4294967296:=if_pos hm;rw[hw]at hS';have hF:IntKind.u32.wrap (Bg .i64 x 4294967295)=x%4294967296:=andF x;refine Jn (kX5 @hg @hl @hn @hF @maxLen.eq_1) ?_;intros;apply wr;exact aX (fun x=>if x=0 then 2 else x) (by rw[hI];exact⟨i+1,by omega,rfl,trivial,rfl⟩) (kX2 (AA (n:=(i:Int)+1)) @hS')
  simp at hm;have hw:Ny x=Wb (Jt x):=if_neg hm;rw[hw]at hS';refine au1 (kX2 @hg @hl) ?_;refine cX (ON x) ?_;refine cc (aV x) ?_;refine Jn (kX2 @hn @maxLen.eq_1) ?_;intros;apply wr;exact aX (fun x=>if x=0 then 9 else x) (by rw[hI];exact⟨i+1,by omega,rfl,trivial,rfl⟩) (kX2 (AA (n:=(i:Int)+1)) @hS')
 simp at h;have ht:l.take i=l:=iZ h;rw[ht];refine au ?_;refine ar ?_;simp
def XV(w:List Int):List Int:=w++List.replicate (256-w.length) 0
def Gm(w:List Int):MchD:={Vt with cpu:=⟨fun _=>0,0,fun i=>if i=0 then 1 else 0⟩,mem:=XV w,dk:={gK with blocks:=4}}
theorem QA(w:List Int)(h:w.length<=256):(XV w).length=256:=by simp[XV];omega
theorem fD{α:Type}(z:α)(us:List α)(n:Nat)(h:us.length<=n):spl (List.replicate n z) 0 us=us++List.replicate (n-us.length) z:=by
 apply List.ext_getElem?;intro j;rw[D3 _ _ _ _ (by simpa using h)];by_cases hj:j<us.length
 ·rw[if_pos ⟨by omega,by omega⟩,iQ hj];rfl
 rw[nG,iN (by omega),List.getElem?_replicate,List.getElem?_replicate];by_cases h2:j<n
 ·rw[if_pos h2,nH]
 rw[if_neg h2,nG]
theorem XW(w:List Int)(h:w.length<=256):spl (ints .u32 mem0) 0 (ints .u32 w)=ints .u32 (XV w):=by
 rw[<- Pp,fD _ _ _ (by rw[AN];exact h),AN];unfold XV ints;rw[List.map_append,List.map_replicate]
theorem cM(w:List Int)(h:w.length<=256):AC prog 45 [iv 8,iv 4,.sl 1 false (ints .u32 w)] (.tup [.st (Gm w).row,.bool true]):=by
 have hl:=AN .u32 w;have hs:=XW w h;refine sY func45 ntmps45 @hl ?_;intros;apply wr;refine AB rfl (fun h1=>?_) (fun h1=>?_)
 ·simp at h1;exfalso;omega
 refine au1 @hl ?_;refine cX (Xu) ?_;refine cc (d5) ?_;have hsl:min w.length 256=w.length:=by omega
 refine au1 (kX3 @hl @mem0_l @hsl) ?_;intros;apply wr;refine aw ?_;have ht:(ints .u32 w).take 256=ints .u32 w:=iZ (by omega);simp[Gm,hs,hsl,ht]
end Go.Proofs.YtjkmhmepljamoaaGreat
end
section
set_option maxRecDepth 1000000
namespace Go.Proofs.YtjkmhmepljamoaaGreat
open Go.Ab Go.RowKit Tryz
def kW:List Int:=[403701760,303104152,990904321,403701760,303104031,990904327,403701760,303104004,990904326,404750336,304218624,405798912,305332224,406847488,306446344,340983816,307560455,342032386,23461890,592838656,271777793,708116474,403701760,303104006,1024458759,403701760,303104002,1024458761,403701760,303104100,1024458755,403701760,303104640,990904322,403701760,303104021,990904320,956301312,990904325,974127107,386990096,672137233,974127106,269549572,990904322,1009778690,1026555904,403701760,303104001,1024458756,403701760,303104007,1024458757,286392321,269549569,1024458758,974127109,956301312,1007681536,1024458752,1023410182,1023410185,403701760,303104006,1024458759,403701760,303104002,1024458761,1007681538,269549588,1024458755,1007681546,1024458762,974127109,956301312]
def kMem(f:Nat->Int):List Int:=kW++(List.replicate 85 0++(List.range 96).map f)
def kM0(f:Nat->Int):MchD:={Vt with cpu:=⟨fun _=>0,0,fun i=>if i=0 then 1 else 0⟩,mem:=kMem f,dk:={gK with blocks:=4}}
def itD(m:MchD):Nat->MchD
 | 0=>m
 | n+1=>(goD (itD m n) 0).1
def rdsD(m:MchD):Bool:=decide ((AL m).cpu.csr 0%2=1)&&AS m.mem (AL m).cpu.pc 4&&validD (D1 (wAt m.mem ((AL m).cpu.pc/4)))&&decide ((D1 (wAt m.mem ((AL m).cpu.pc/4))).op=60)&&decide ((D1 (wAt m.mem ((AL m).cpu.pc/4))).imm=2)
def UX(m:MchD):Bool:=decide ((GB m).kind=0)||(decide ((GB m).kind=2)&&(decide ((GB m).port=3)||decide ((GB m).port=7)||(decide ((GB m).port=9)&&decide ((GB m).val=2))))
def slimB(m:MchD):Bool:=!FU (AL m).cpu&&[1,16,18,20,24,35,42,57,59,61].contains (D1 (wAt (AG (AL m).cpu m.mem (AL m).cpu.pc 4 1).2.1 ((AG (AL m).cpu m.mem (AL m).cpu.pc 4 1).1/4))).op
def Kc(m:MchD):Bool:=!m.halted&&(!OK m&&(!rdsD m&&(UX m&&slimB m)))
theorem k_q1(f:Nat->Int):((List.range 87).all fun k=>Kc (itD (kM0 f) k))=true:=by kernel_rfl
end Go.Proofs.YtjkmhmepljamoaaGreat
end
section
namespace Go.Proofs.YtjkmhmepljamoaaGreat
open Go.Ab Go.RowKit Tryz
theorem IQ(m:MchD):(AL m).dk=m.dk:=by
 unfold AL;split
 ·rfl
 split<;>rfl
theorem Lb{m:MchD}(h:UX m=true):(goD m 0).1.dk=m.dk/\(goD m 0).2=[]:=by
 have ha:(CM m).dk=m.dk:=IQ m;unfold goD BZ;simp only;unfold UX at h;simp only[Bool.or_eq_true,gX,decide_eq_true_eq]at h;generalize GB m=e at *;rcases h with h|⟨h,q⟩
 ·rw[nG,nG,nG,nG];exact⟨ha,rfl⟩
 rw[nG,if_pos h];rcases q with(q|q)|⟨q,v⟩
 ·unfold AH;rw[q];exact⟨ha,rfl⟩
 ·unfold AH;rw[q];exact⟨ha,rfl⟩
 unfold AH;rw[q,v];exact⟨ha,by simp[AZ]⟩
theorem it_ok{m:MchD}(hM:OkM m)(hmay:mayD m=true)(hc:m.count=0)(n:Nat)(hn:n<=1000)(hq:∀k<n,Kc (itD m k)=true):OkM (itD m n)/\mayD (itD m n)=true/\(itD m n).count=n/\(itD m n).dk=m.dk:=by
 induction n with
 | zero=>exact⟨hM,hmay,by show m.count=_;rw[hc];rfl,rfl⟩
 | succ n ih =>
  obtain⟨h1,h2,h3,h4⟩:=ih (by omega) fun k hk=>hq k (by omega);have q:=hq n (by omega);unfold Kc at q;simp only[gX,i7]at q;obtain⟨q1,q2,q3,q4,q5⟩:=q;have hr:runsD (itD m n)=true:=by unfold runsD;rw[h2,q1,q2,h3];simp;omega
  obtain⟨g1,g2⟩:=Ml h1 hr Ax;refine⟨g1,(Bz _).2 (Hm h1 hr 0),by rw[show itD m (n+1)=(goD (itD m n) 0).1 from rfl,g2,h3];simp,?_⟩;rw[show itD m (n+1)=(goD (itD m n) 0).1 from rfl,(Lb q4).1,h4]
theorem ZQ{w:List Int}(hw:OkW w)(hl:w.length<=256):OkM (Gm w):=by
 have hp:=QA w hl;refine⟨⟨fun i=>Ax,Ax,fun i=>?_,by simp[Gm]⟩,?_,by simp[Gm,hp],by simp[Gm],Ax,?_,?_,Ax,Ax,by simp[Gm]⟩
 ·show W32 (if i=0 then 1 else 0);split
  ·exact⟨by omega,by omega⟩
  exact Ax
 ·intro x hx;rcases List.mem_append.1 (show x∈w++List.replicate (256-w.length) 0 from hx)with q|q
  ·exact hw x q
  rw[(List.mem_replicate.1 q).2];exact Ax
 ·constructor<;>(constructor<;>simp[Gm])
 constructor<;>(constructor<;>simp[Gm])
theorem Pq{w:List Int}(hl:w.length<=256):mayD (Gm w)=true:=by
 have hp:=QA w hl;have hg:pagesD (XV w)=8:=by unfold pagesD;rw[hp];decide
 have h0:(8 != (0:Int))=true:=by decide
 have h1:balMay 0 8=true:=by kernel_rfl
 have h2:nicMay zNic 8=true:=by kernel_rfl
 have h3:dskMay {gK with blocks:=4} 8=true:=by kernel_rfl
 have h4:timMay zTim=true:=by kernel_rfl
 have hm:(Gm w).mem=XV w:=rfl;unfold mayD;rw[hm,hg,show(Gm w).given=0 from rfl,show(Gm w).nc=zNic from rfl,show(Gm w).dk={gK with blocks:=4}from rfl,show(Gm w).tim=zTim from rfl,h0,h1,h2,h3,h4];rfl
noncomputable def H2(k:Int)(l:List Int):List Int:=if k<2 then kW++(List.replicate 85 0++D8 l)else D8 l
noncomputable def mkD(k:Int)(l:List Int):MchD:=if k=1 then itD (Gm (H2 k l)) 87 else Gm (H2 k l)
theorem kW_w:OkW kW:=by
 have h:kW.all (fun x=>decide (0<=x)&&decide (x<4294967296))=true:=by decide +kernel
 intro x hx;have:=List.all_eq_true.1 h x hx;simp at this;exact⟨by omega,by omega⟩
theorem LL(k:Int)(l:List Int):(H2 k l).length<=l.length+160:=by
 unfold H2;split
 ·simp only[gV,List.length_replicate,FA,show kW.length=75 from rfl];omega
 rw[FA];omega
theorem ZE(k:Int)(l:List Int):OkW (H2 k l):=by
 unfold H2;split
 ·intro x hx;rcases List.mem_append.1 hx with q|q
  ·exact kW_w x q
  rcases List.mem_append.1 q with q|q
  ·rw[(List.mem_replicate.1 q).2];exact Ax
  exact Su l x q
 exact Su l
theorem fO(c:List Int)(h:c.length<=96):c++List.replicate (96-c.length) 0=(List.range 96).map fun i=>c.getD i 0:=by
 apply List.ext_getElem?;intro j;rw[iG,List.getElem?_append];by_cases hj:j<c.length
 ·rw[if_pos hj,List.getElem?_range (by omega),Option.map_some,gP,gR hj];rfl
 rw[if_neg hj,List.getElem?_replicate];by_cases h2:j<96
 ·rw[nH,List.getElem?_range h2,Option.map_some,gP,iV (by omega)];rfl
 rw[nG,iV (by simpa using h2)];rfl
theorem ZP(l:List Int)(hl:l.length<=60):Gm (H2 1 l)=kM0 fun i=>(D8 l).getD i 0:=by
 have hc:=FA l;have e:XV (H2 1 l)=kMem fun i=>(D8 l).getD i 0:=by
  unfold XV H2 kMem;rw[if_pos (by decide),<- fO (D8 l) (by omega)];have:256-(kW++(List.replicate 85 0++D8 l)).length=96-(D8 l).length:=by
   simp only[gV,List.length_replicate,show kW.length=75 from rfl];omega
  rw[this,iH,iH]
 unfold Gm kM0;rw[e]
theorem ZO(k:Int)(l:List Int)(hl:l.length<=60):OkM (mkD k l)/\mayD (mkD k l)=true/\(mkD k l).dk.state=0:=by
 have hi:=LL k l;have h1:=ZQ (ZE k l) (by omega);have h2:=Pq (w:=H2 k l) (by omega);unfold mkD;split
 ·rename_i hk;subst hk;have hq:∀j<87,Kc (itD (Gm (H2 1 l)) j)=true:=by
   intro j hj;rw[ZP l hl];exact List.all_eq_true.1 (k_q1 fun i=>(D8 l).getD i 0) j (List.mem_range.2 hj)
  obtain⟨g1,g2,g3,g4⟩:=it_ok h1 h2 rfl 87 (by omega) hq;exact⟨g1,g2,by rw[g4];rfl⟩
 exact⟨h1,h2,rfl⟩
end Go.Proofs.YtjkmhmepljamoaaGreat
end
section
set_option maxRecDepth 1000000
namespace Go.Proofs.YtjkmhmepljamoaaGreat.As
open Go.Ab Go.RowKit Tryz
def kSrc:List UInt8:=[108,105,32,114,49,44,32,104,97,110,100,108,101,114,10,99,115,114,119,32,114,49,44,32,49,10,108,105,32,114,49,44,32,51,49,10,99,115,114,119,32,114,49,44,32,55,10,108,105,32,114,49,44,32,52,10,99,115,114,119,32,114,49,44,32,54,10,108,105,32,114,50,44,32,53,49,50,10,108,105,32,114,51,44,32,48,10,108,105,32,114,52,44,32,56,10,109,97,112,58,32,115,104,108,105,32,114,53,44,32,114,51,44,32,56,10,111,114,105,32,114,53,44,32,114,53,44,32,55,10,115,104,108,105,32,114,54,44,32,114,51,44,32,50,10,97,100,100,32,114,54,44,32,114,54,44,32,114,50,10,115,119,32,114,53,44,32,48,40,114,54,41,10,97,100,100,105,32,114,51,44,32,114,51,44,32,49,10,98,108,116,32,114,51,44,32,114,52,44,32,109,97,112,10,108,105,32,114,49,44,32,54,10,111,117,116,32,114,49,44,32,55,10,108,105,32,114,49,44,32,50,10,111,117,116,32,114,49,44,32,57,10,108,105,32,114,49,44,32,49,48,48,10,111,117,116,32,114,49,44,32,51,10,108,105,32,114,49,44,32,54,52,48,10,99,115,114,119,32,114,49,44,32,50,10,108,105,32,114,49,44,32,50,49,10,99,115,114,119,32,114,49,44,32,48,10,101,114,101,116,10,104,97,110,100,108,101,114,58,32,99,115,114,119,32,114,49,44,32,53,10,99,115,114,114,32,114,49,44,32,51,10,115,108,116,105,32,114,49,44,32,114,49,44,32,49,54,10,98,101,113,32,114,49,44,32,114,48,44,32,105,114,113,10,99,115,114,114,32,114,49,44,32,50,10,97,100,100,105,32,114,49,44,32,114,49,44,32,52,10,99,115,114,119,32,114,49,44,32,50,10,105,110,32,114,51,44,32,50,10,111,117,116,32,114,51,44,32,48,10,108,105,32,114,49,44,32,49,10,111,117,116,32,114,49,44,32,52,10,108,105,32,114,49,44,32,55,10,111,117,116,32,114,49,44,32,53,10,97,110,100,105,32,114,49,44,32,114,50,44,32,49,10,97,100,100,105,32,114,49,44,32,114,49,44,32,49,10,111,117,116,32,114,49,44,32,54,10,99,115,114,114,32,114,49,44,32,53,10,101,114,101,116,10,105,114,113,58,32,105,110,32,114,49,44,32,48,10,111,117,116,32,114,49,44,32,48,10,111,117,116,32,114,48,44,32,54,10,111,117,116,32,114,48,44,32,57,10,108,105,32,114,49,44,32,54,10,111,117,116,32,114,49,44,32,55,10,108,105,32,114,49,44,32,50,10,111,117,116,32,114,49,44,32,57,10,105,110,32,114,49,44,32,50,10,97,100,100,105,32,114,49,44,32,114,49,44,32,50,48,10,111,117,116,32,114,49,44,32,51,10,105,110,32,114,49,44,32,49,48,10,111,117,116,32,114,49,44,32,49,48,10,99,115,114,114,32,114,49,44,32,53,10,101,114,101,116,10]
def kL:List Str:=(lnF kSrc [] []).getD []
def kP:PrR:=(ZY kL 1 prR0).getD prR0
theorem kAsm:lnF kSrc [] []=some kL/\kL.length<=1000/\(ZY kL 1 prR0).isSome=true/\(kP.sts.length<=1000/\kP.syms.length<=1000)/\Ke kP.syms kP.sts []=some kW:=by decide +kernel
theorem kernel_ok:AC prog 43 [.str kSrc] (.tup [.new 25 1 (ints .u32 kW),errV (0,0)]):=by
 obtain⟨h1,h2,h3,h4,h5⟩:=kAsm;obtain⟨p,hp⟩:=Option.isSome_iff_exists.1 h3;exact MD kSrc kL kP kW (by decide) h1 h2 (by unfold kP;rw[hp];rfl) h4 h5
end Go.Proofs.YtjkmhmepljamoaaGreat.As
end
section
namespace Go.Proofs.YtjkmhmepljamoaaGreat
open Go.Ab Go.RowKit Tryz
theorem bR{c:CpuD}{i:InstD}(h:(AE c i).2.kind=1):i.op=60:=by
 have hz:BB.kind=1->i.op=60:=by simp[BB]
 unfold AE at h;revert h;exact BC (P:=fun z:CpuD×EffD=>z.2.kind=1->i.op=60) (fun _=>hz) (fun _=>BC (P:=fun z:CpuD×EffD=>z.2.kind=1->i.op=60) (fun _=>hz) (fun _=>BC (P:=fun z:CpuD×EffD=>z.2.kind=1->i.op=60) (fun _=>hz) (fun _=>BC (P:=fun z:CpuD×EffD=>z.2.kind=1->i.op=60) (fun _=>hz) (fun _=>BC (P:=fun z:CpuD×EffD=>z.2.kind=1->i.op=60) (fun _=>hz) (fun _=>BC (P:=fun z:CpuD×EffD=>z.2.kind=1->i.op=60) (fun _=>hz) (fun _=>BC (P:=fun z:CpuD×EffD=>z.2.kind=1->i.op=60) (fun _=>hz) (fun _=>BC (P:=fun z:CpuD×EffD=>z.2.kind=1->i.op=60) (fun _=>hz) (fun _=>BC (P:=fun z:CpuD×EffD=>z.2.kind=1->i.op=60) (fun q _=>q) (fun _=>BC (P:=fun z:CpuD×EffD=>z.2.kind=1->i.op=60) (fun _ h=>by simp at h) (fun _=>BC (P:=fun z:CpuD×EffD=>z.2.kind=1->i.op=60) (fun _ h=>by simp at h) (fun _=>BC (P:=fun z:CpuD×EffD=>z.2.kind=1->i.op=60) (fun _ h=>by simp at h) (fun _=>BC (P:=fun z:CpuD×EffD=>z.2.kind=1->i.op=60) (fun _ h=>by simp at h) (fun _=>hz)))))))))))))
theorem ex_60{c:CpuD}{i:InstD}(h:i.op=60):(AE c i).2=⟨1,i.imm,i.a,0⟩:=by
 unfold AE;rw[nG,nG,nG,nG,nG,nG,nG,nG,if_pos h]
theorem Ng{c:CpuD}{l:List Int}{w:Int}(h:(CY c l w).2.2.kind=1):validD (D1 w)=true/\(D1 w).op=60/\c.csr 0%2=1/\(CY c l w).2.2.port=(D1 w).imm:=by
 unfold CY at h ⊢;split at h
 ·simp[BB]at h
 rename_i q1;split at h
 ·simp[BB]at h
 rename_i q2;split at h
 ·simp[BB]at h
 rename_i q3;split at h
 ·simp[BB]at h
 rename_i q4;have q:=bR h;rw[if_neg q1,if_neg q2,if_neg q3,if_neg q4];refine⟨by simpa using q1,q,?_,by simp only;rw[ex_60 q]⟩;have:¬c.csr 0%2=0:=fun z=>q2 ⟨by rw[q];rfl,z⟩;omega
theorem gI{c:CpuD}{l:List Int}{w:Int}(h1:validD (D1 w)=true)(h2:(D1 w).op=60)(h3:c.csr 0%2=1):(CY c l w).2.2=⟨1,(D1 w).imm,(D1 w).a,0⟩:=by
 unfold CY;rw[if_neg (by simp[h1]),if_neg (fun q=>by have:=q.2;omega),nG,nG];exact ex_60 h2
theorem res_k{c:CpuD}{l:List Int}(h:c.csr 0%2=1):AG c l c.pc 4 1=if AS l c.pc 4=true then(c.pc,l,0)else(0,l,if c.pc%4≠0 then 3 else 4):=by
 have hp:¬FU c=true:=by unfold FU;simp;omega
 unfold AG;by_cases h4:c.pc%4=0
 ·rw[if_neg (by simp[h4]),if_neg hp];split
  ·rfl
  rw[if_neg (by simp[h4])];rfl
 have hw:¬AS l c.pc 4=true:=by unfold AS;simp[h4]
 rw[if_pos h4,if_neg hw,if_pos h4]
theorem ZW{m:MchD}(hr:runsD m=true):rdsD m=readsD m:=by
 have e1:readsD m=(decide ((GB m).kind=1)&&decide ((GB m).port=2)):=by unfold readsD;rw[hr];rfl
 rw[e1,Bool.eq_iff_iff];unfold rdsD GB;generalize (AL m).cpu=c;obtain⟨w,hw⟩:∃w,w=wAt m.mem (c.pc/4):=⟨_,rfl⟩;rw[<- hw];simp only[gX,decide_eq_true_eq];constructor
 ·rintro⟨⟨⟨⟨h1,h2⟩,h3⟩,h4⟩,h5⟩;unfold Az;rw[res_k h1,if_pos h2];simp only[ne_eq,not_true_eq_false,if_false];rw[<- hw,gI h3 h4 h1];exact⟨rfl,h5⟩
 rintro⟨h1,h2⟩;have hk:c.csr 0%2=1:=by
  unfold Az at h1;generalize AG c m.mem c.pc 4 1=R at h1;obtain⟨a,l,k⟩:=R;simp only at h1;split at h1
  ·simp[BB]at h1
  exact(Ng h1).2.2.1
 unfold Az at h1 h2;rw[res_k hk]at h1 h2;by_cases hwi:AS m.mem c.pc 4=true
 ·rw[if_pos hwi]at h1 h2;simp only[ne_eq,not_true_eq_false,if_false]at h1 h2;rw[<- hw]at h1 h2;obtain⟨a1,a2,a3,a4⟩:=Ng h1;rw[a4]at h2;exact⟨⟨⟨⟨hk,hwi⟩,a1⟩,a2⟩,h2⟩
 rw[if_neg hwi]at h1;simp only at h1;rw[if_pos (by split<;>omega)]at h1;simp[BB]at h1
inductive Tr(u:Int):MchD->List EntD->List OutD->MchD->List EntD->Prop
 | nil {m l}:m.count=u->firstOk m.count l=true->Tr u m l [] m l
 | ev {m e l O m' r}:m.count<u->e.kind≠1->Tr u (applyD m e).1 l O m' r->Tr u m (⟨m.count,e⟩::l) O m' r
 | go {m l O m' r}:m.count<u->runsD m=true->readsD m=false->(∀e,l.head? =some e->m.count<e.at_)->Tr u (goD m 0).1 l O m' r->Tr u m l ((goD m 0).2++O) m' r
 | clk {m k l O m' r}:m.count<u->W32 k->runsD m=true->readsD m=true->Tr u (goD m k).1 l O m' r->Tr u m (⟨m.count,⟨1,k,[]⟩⟩::l) ((goD m k).2++O) m' r
theorem Tr.le{u:Int}{m m':MchD}{l r:List EntD}{O:List OutD}(h:Tr u m l O m' r):m.count<=u:=by
 cases h<;>omega
theorem Tr.first{u:Int}{m m':MchD}{l r:List EntD}{O:List OutD}(h:Tr u m l O m' r):firstOk m.count l=true:=by
 cases h with
 | nil _ h=>exact h
 | ev _ _ _=>simp[firstOk]
 | go _ _ _ h _ =>
  cases l with
  | nil=>rfl
  | cons e l=>have:=h e rfl;simp[firstOk];omega
 | clk _ _ _ _ _=>simp[firstOk]
theorem CC(m:MchD)(e:EvD):(applyD m e).1.count=m.count:=by
 unfold applyD
 (repeat' split)<;>rfl
theorem FN(m:MchD)(k:Int):(goD m k).1.count=m.count+1:=by
 show(BZ _ _ _ _).1.count+1=_;rw[Fc,Eb]
theorem Tr.split{u:Int}{m m':MchD}{l r:List EntD}{O:List OutD}(h:Tr u m l O m' r):∀t:Int,m.count<=t->t<=u->∃y L O1 O2,Tr t m l O1 y L/\Tr u y L O2 m' r/\O=O1++O2/\y.count=t:=by
 induction h with
 | @nil m l h1 h2 =>
  intro t h3 h4;exact⟨m,l,[],[],.nil (by omega) h2,.nil h1 h2,rfl,by omega⟩
 | @ev m e l O m' r h1 h2 h3 ih =>
  intro t h4 h5;by_cases h:m.count=t
  ·have hT:Tr u m (⟨m.count,e⟩::l) O m' r:=.ev h1 h2 h3;exact⟨m,_,[],O,.nil h hT.first,hT,rfl,h⟩
  obtain⟨y,L,O1,O2,a1,a2,a3,a4⟩:=ih t (by rw[CC];omega) h5;exact⟨y,L,O1,O2,.ev (by omega) h2 a1,a2,a3,a4⟩
 | @go m l O m' r h1 h2 h3 h4 h5 ih =>
  intro t h6 h7;by_cases h:m.count=t
  ·have hT:Tr u m l ((goD m 0).2++O) m' r:=.go h1 h2 h3 h4 h5;exact⟨m,_,[],_,.nil h hT.first,hT,rfl,h⟩
  obtain⟨y,L,O1,O2,a1,a2,a3,a4⟩:=ih t (by rw[FN];omega) h7;exact⟨y,L,_,O2,.go (by omega) h2 h3 h4 a1,a2,by rw[a3,iH],a4⟩
 | @clk m k l O m' r h1 h2 h3 h4 h5 ih =>
  intro t h6 h7;by_cases h:m.count=t
  ·have hT:Tr u m (⟨m.count,⟨1,k,[]⟩⟩::l) ((goD m k).2++O) m' r:=.clk h1 h2 h3 h4 h5;exact⟨m,_,[],_,.nil h hT.first,hT,rfl,h⟩
  obtain⟨y,L,O1,O2,a1,a2,a3,a4⟩:=ih t (by rw[FN];omega) h7;exact⟨y,L,_,O2,.clk (by omega) h2 h3 h4 a1,a2,by rw[a3,iH],a4⟩
theorem Tr.pre{t:Int}{m y:MchD}{l L:List EntD}{O:List OutD}(h:Tr t m l O y L):∀n:Nat,(∀k e,n<=k->l[k]? =some e->t<=e.at_)->∃us,L=l.drop us/\us<=n/\us<=l.length/\Tr t m (l.take n) O y ((l.take n).drop us):=by
 induction h with
 | @nil m l h1 h2 =>
  intro n _;refine⟨0,rfl,by omega,by omega,.nil h1 ?_⟩;cases n with
  | zero=>rfl
  | succ n=>cases l with|nil=>rfl|cons e l=>simpa[firstOk]using h2
 | @ev m e l O m' r h1 h2 h3 ih =>
  intro n hn;cases n with
  | zero=>have:=hn 0 _ (by omega) rfl;simp only at this;omega
  | succ n =>
   obtain⟨us,a1,a2,a3,a4⟩:=ih n (fun k e hk he=>hn (k+1) e (by omega) (by simpa using he));exact⟨us+1,by simpa using a1,by omega,by simp;omega,by simpa using Tr.ev h1 h2 a4⟩
 | @go m l O m' r h1 h2 h3 h4 h5 ih =>
  intro n hn;obtain⟨us,a1,a2,a3,a4⟩:=ih n hn;refine⟨us,a1,a2,a3,.go h1 h2 h3 (fun e he=>?_) a4⟩;cases n with
  | zero=>simp at he
  | succ n=>cases l with|nil=>simp at he|cons x l=>exact h4 e (by simpa using he)
 | @clk m k l O m' r h1 h2 h3 h4 h5 ih =>
  intro n hn;cases n with
  | zero=>have:=hn 0 _ (by omega) rfl;simp only at this;omega
  | succ n =>
   obtain⟨us,a1,a2,a3,a4⟩:=ih n (fun k e hk he=>hn (k+1) e (by omega) (by simpa using he));exact⟨us+1,by simpa using a1,by omega,by simp;omega,by simpa using Tr.clk h1 h2 h3 h4 a4⟩
theorem Tr.end_cnt{u:Int}{m m':MchD}{l r:List EntD}{O:List OutD}(h:Tr u m l O m' r):m'.count=u:=by
 induction h with
 | nil h _=>exact h
 | ev _ _ _ ih=>exact ih
 | go _ _ _ _ _ ih=>exact ih
 | clk _ _ _ _ _ ih=>exact ih
theorem Tr.ok{u:Int}{m m':MchD}{l r:List EntD}{O:List OutD}(h:Tr u m l O m' r)(hE:∀e∈l,W32 e.ev.n):OkM m->mayD m=true->OkM m'/\mayD m'=true:=by
 induction h with
 | nil _ _=>exact fun a b=>⟨a,b⟩
 | @ev m e l O m' r _ _ _ ih =>
  exact fun a b=>ih (fun x hx=>hE x (gW _ hx)) (DX a (hE _ (g7 ..))).1 (CQ a b e)
 | go _ h2 _ _ _ ih=>exact fun a b=>ih hE (Ml a h2 Ax).1 ((Bz _).2 (Hm a h2 0))
 | clk _ hk h2 _ _ ih=>exact fun a b=>ih (fun x hx=>hE x (gW _ hx)) (Ml a h2 hk).1 ((Bz _).2 (Hm a h2 _))
theorem Hv:∀(l:List EntD)(i j:Nat)(a b:EntD),ordD l=true->l[i]? =some a->l[j]? =some b->i<=j->a.at_<=b.at_
 | [],i,j,a,b,_,ha,_,_=>by simp at ha
 | x::l,0,0,a,b,_,ha,hb,_=>by simp at ha hb;subst ha hb;omega
 | x::l,i+1,0,a,b,_,_,_,h=>by omega
 | x::l,i+1,j+1,a,b,ho,ha,hb,h=>by
  have ho2:ordD l=true:=by cases l with|nil=>rfl|cons y l=>rw[ordD,gX]at ho;exact ho.2
  exact Hv l i j a b ho2 (by simpa using ha) (by simpa using hb) (by omega)
 | x::l,0,j+1,a,b,ho,ha,hb,h=>by
  simp at ha;subst ha;cases l with
  | nil=>simp at hb
  | cons y l =>
   rw[ordD,gX]at ho;have h1:x.at_<=y.at_:=by
    have:=ho.1;simp at this;omega
   exact Int.le_trans h1 (Hv (y::l) 0 j y b ho.2 rfl (by simpa using hb) (by omega))
theorem L8:∀(l:List EntD)(n:Nat),ordD l=true->ordD (l.drop n)=true
 | l,0,h=>h
 | [],n+1,_=>rfl
 | x::l,n+1,h=>by
  have h2:ordD l=true:=by cases l with|nil=>rfl|cons y l=>rw[ordD,gX]at h;exact h.2
  exact L8 l n h2
theorem L9:∀(l:List EntD)(n:Nat),ordD l=true->ordD (l.take n)=true
 | _,0,_=>by simp[ordD]
 | [],n+1,_=>by simp[ordD]
 | [x],n+1,_=>by simp[ordD]
 | x::y::l,1,_=>by simp[ordD]
 | x::y::l,n+2,h=>by
  rw[ordD,gX]at h;have:=L9 (y::l) (n+1) h.2;simp only[List.take_succ_cons]at this ⊢;rw[ordD,gX];exact⟨h.1,this⟩
theorem RJ{c:Int}{l:List EntD}{x:EntD}(h:firstOk c l=true)(hx:c<=x.at_):firstOk c (l++[x])=true:=by
 cases l with
 | nil=>simpa[firstOk]using hx
 | cons e l=>simpa[firstOk]using h
theorem Tr.snoc{u:Int}{m m':MchD}{l r:List EntD}{O:List OutD}(h:Tr u m l O m' r){x:EntD}(hx:u<=x.at_):Tr u m (l++[x]) O m' (r++[x]):=by
 induction h with
 | nil h1 h2=>exact .nil h1 (RJ h2 (by omega))
 | ev h1 h2 _ ih=>exact .ev h1 h2 ih
 | @go m l O m' r h1 h2 h3 h4 _ ih =>
  refine .go h1 h2 h3 (fun e he=>?_) ih;cases l with
  | nil=>simp at he;subst he;omega
  | cons a l=>exact h4 e (by simpa using he)
 | clk h1 h2 h3 h4 _ ih=>exact .clk h1 h2 h3 h4 ih
theorem Tr.comp{u u':Int}{m m' m2:MchD}{l r r2:List EntD}{O O2:List OutD}(h:Tr u m l O m' r)(hu:u<=u')(h2:Tr u' m' r O2 m2 r2):Tr u' m l (O++O2) m2 r2:=by
 induction h with
 | nil _ _=>exact h2
 | ev h1 h3 _ ih=>exact .ev (by omega) h3 (ih h2)
 | go h1 h3 h4 h5 _ ih=>rw[iH];exact .go (by omega) h3 h4 h5 (ih h2)
 | clk h1 h3 h4 h5 _ ih=>rw[iH];exact .clk (by omega) h3 h4 h5 (ih h2)
abbrev appL(m:MchD)(l:List EntD):MchD:=l.foldl (fun x e=>(applyD x e.ev).1) m
theorem Tr.evs{u:Int}:∀(l:List EntD){m m':MchD}{l2 r:List EntD}{O:List OutD},m.count<u->(∀e∈l,e.at_=m.count/\e.ev.kind≠1)->Tr u (appL m l) l2 O m' r->Tr u m (l++l2) O m' r
 | [],_,_,_,_,_,_,_,h=>h
 | e::l,m,m',l2,r,O,hc,he,h=>by
  obtain⟨e1,e2⟩:=he e (g7 ..);have ih:=Tr.evs l (m:=(applyD m e.ev).1) (by rw[CC];exact hc) (fun x hx=>by rw[CC];exact he x (gW _ hx)) h;have hE:e=⟨m.count,e.ev⟩:=by cases e;simp only at e1;subst e1;rfl
  rw[hE];exact .ev hc e2 ih
def Rb(m0:MchD)(H:List EntD)(O:List OutD)(m:MchD):Prop :=
 ∃m1 rest,Tr m.count m0 H O m1 rest/\appL m1 rest=m/\∀e∈rest,e.at_=m.count/\e.ev.kind≠1
theorem Rb.nil(m:MchD):Rb m [] [] m:=⟨m,[],.nil rfl rfl,rfl,by simp⟩
theorem Rb.ev{m0 m:MchD}{H:List EntD}{O:List OutD}(h:Rb m0 H O m){e:EvD}(he:e.kind≠1):Rb m0 (H++[⟨m.count,e⟩]) O (applyD m e).1:=by
 obtain⟨m1,rest,h1,h2,h3⟩:=h;have hc:=CC m e;refine⟨m1,rest++[⟨m.count,e⟩],by rw[hc];exact h1.snoc (Int.le_refl _),?_,fun x hx=>?_⟩
 ·show List.foldl _ _ _=_;rw[List.foldl_append];show(applyD (appL m1 rest) e).1=_;rw[h2]
 rw[hc];rcases List.mem_append.1 hx with q|q
 ·exact h3 x q
 rw[List.mem_singleton.1 q];exact⟨rfl,he⟩
theorem Rb.go{m0 m:MchD}{H:List EntD}{O:List OutD}(h:Rb m0 H O m)(hr:runsD m=true)(hd:readsD m=false):Rb m0 H (O++(goD m 0).2) (goD m 0).1:=by
 obtain⟨m1,rest,h1,h2,h3⟩:=h;have hc:=FN m 0;have hm1:=h1.end_cnt;refine⟨(goD m 0).1,[],?_,rfl,by simp⟩;rw[hc];refine h1.comp (by omega) ?_;have:=Tr.evs (u:=m.count+1) rest (m:=m1) (m':=(goD m 0).1) (l2:=[]) (r:=[]) (O:=(goD m 0).2) (by omega) (fun e he=>by rw[hm1];exact h3 e he) (by
  rw[h2];have:=Tr.go (u:=m.count+1) (m:=m) (l:=[]) (O:=[]) (m':=(goD m 0).1) (r:=[]) (by omega) hr hd (by simp) (.nil (by omega) rfl);rwa[iU]at this)
 rwa[iU]at this
theorem Rb.clk{m0 m:MchD}{H:List EntD}{O:List OutD}(h:Rb m0 H O m){k:Int}(hk:W32 k)(hr:runsD m=true)(hd:readsD m=true):Rb m0 (H++[⟨m.count,⟨1,k,[]⟩⟩]) (O++(goD m k).2) (goD m k).1:=by
 obtain⟨m1,rest,h1,h2,h3⟩:=h;have hc:=FN m k;have hm1:=h1.end_cnt;refine⟨(goD m k).1,[],?_,rfl,by simp⟩;rw[hc];refine(h1.snoc (x:=⟨m.count,⟨1,k,[]⟩⟩) (Int.le_refl _)).comp (by omega) ?_;refine Tr.evs (u:=m.count+1) rest (m:=m1) (by omega) (fun e he=>by rw[hm1];exact h3 e he) ?_;rw[h2];have:=Tr.clk (u:=m.count+1) (m:=m) (k:=k) (l:=[]) (O:=[]) (m':=(goD m k).1) (r:=[]) (by omega) hk hr hd (.nil (by omega) rfl);rwa[iU]at this
theorem X3(m:MchD)(p k k':Int)(h:p≠2):AO m p k=AO m p k':=by
 unfold AO
 (repeat' split)<;>first|rfl|(exfalso;omega)
theorem go_clk{m:MchD}(hr:runsD m=true)(hd:readsD m=false)(k k':Int):goD m k=goD m k':=by
 have h:¬((GB m).kind=1/\(GB m).port=2):=by
  intro q;unfold readsD at hd;rw[hr,q.1,q.2]at hd;simp at hd
 have hE:BZ (CM m) (GB m) k m.count=BZ (CM m) (GB m) k' m.count:=by
  unfold BZ;by_cases h1:(GB m).kind=1
  ·rw[if_pos h1,if_pos h1,X3 _ _ k k' (fun z=>h ⟨h1,z⟩)]
  rw[if_neg h1,if_neg h1]
 unfold goD;rw[hE]
def Rr(m0:MchD)(H:List EntD)(r:RecD)(O:List OutD):Prop:=Rb m0 (H++r.log) O r.m
theorem Rr.offer{m0:MchD}{H:List EntD}{r:RecD}{O:List OutD}(h:Rr m0 H r O){e:EvD}(he:e.kind≠1):Rr m0 H (AW r e) O:=by
 unfold AW;split
 ·show Rb m0 (H++(r.log++[⟨r.m.count,e⟩])) O (applyD r.m e).1;rw[<- iH];exact Rb.ev h he
 exact h
theorem Rr.tick{m0:MchD}{H:List EntD}{r:RecD}{O:List OutD}(h:Rr m0 H r O):Rr m0 H (BF r) O:=by
 unfold BF;split
 ·exact h.offer (by decide)
 exact h
theorem NY{m:MchD}(hm:mayD m=true)(h:Ep m≠true)(hc:m.count<=1152921504606846976):runsD m=true:=by
 unfold Ep at h;rw[ne_eq,Bool.not_eq_true]at h;simp only[Bool.or_eq_false_iff,decide_eq_false_iff_not]at h;obtain⟨⟨h1,h2⟩,h3⟩:=h;unfold runsD;rw[hm,h1,h2];simp;omega
theorem Rr.go{m0:MchD}{H:List EntD}{r:RecD}{O:List OutD}(h:Rr m0 H r O)(hk:W32 r.clock)(hr:runsD r.m=true):Rr m0 H (goR r).1 (O++(goR r).2):=by
 have hs:stepD r.m r.clock=goD r.m r.clock:=by unfold stepD;rw[if_pos hr]
 unfold goR Ir Rr;rw[hs];cases hd:readsD r.m with
 | true =>
  simp only[if_true];rw[<- iH];exact Rb.clk h hk hr hd
 | false =>
  simp only[iR,if_false];rw[go_clk hr hd r.clock 0];exact Rb.go h hr hd
theorem Rr.run{m0:MchD}{H:List EntD}:∀(n:Nat){r:RecD}{k:Nat}{O:List OutD},Rr m0 H r O->OkR r k->mayD r.m=true->Rr m0 H (DW n r []).1 (O++(DW n r []).2)/\∀o,DW n r o=((DW n r []).1,o++(DW n r []).2)
 | 0,r,k,O,h,_,_=>⟨by simpa[DW]using h,fun o=>by simp[DW]⟩
 | n+1,r,k,O,h,hR,hm=>by
  obtain⟨h1,-⟩:=hR.tick;have h2:=h.tick;have hm2:mayD (BF r).m=true:=by
   unfold BF;split
   ·unfold AW;split
    ·exact CQ hR.m hm _
    exact hm
   exact hm
  by_cases hs:Ep (BF r).m=true
  ·refine⟨?_,fun o=>?_⟩
   ·unfold DW;rw[if_pos hs,iU];exact h2
   unfold DW;rw[if_pos hs,if_pos hs,iU]
  have hr:=NY hm2 hs (by have:=((Bz _).1 hm2).n;omega);have h3:=h2.go h1.c hr;have hm3:mayD (goR (BF r)).1.m=true:=HB h1.m hm2 _;obtain⟨a1,a2⟩:=Rr.run n h3 h1.go hm3;have e1:∀o,DW (n+1) r o=DW n (goR (BF r)).1 (o++(goR (BF r)).2):=fun o=>by rw[DW,if_neg hs]
  refine⟨?_,fun o=>?_⟩
  ·rw[e1,a2];simp only[jA];rw[<- iH];exact a1
  rw[e1,e1,a2,a2 ([]++_)];simp
theorem Rr.offers{m0:MchD}{H:List EntD}{O:List OutD}:∀(l:List EvD){r:RecD},Rr m0 H r O->(∀e∈l,e.kind≠1)->Rr m0 H (l.foldl AW r) O
 | [],_,h,_=>h
 | e::l,r,h,hl=>Rr.offers l (h.offer (hl e (g7 ..))) (fun x hx=>hl x (gW _ hx))
theorem Fp:∀(l:List EvD){r:RecD}{k:Nat},OkR r k->(∀e∈l,OkV e)->mayD r.m=true->mayD (l.foldl AW r).m=true
 | [],_,_,_,_,h=>h
 | e::l,r,k,hR,hl,h=>by
  obtain⟨h1,-⟩:=hR.offer (hl e (g7 ..));refine Fp l h1 (fun x hx=>hl x (gW _ hx)) ?_;unfold AW;split
  ·exact CQ hR.m h _
  exact h
theorem Zk{m0:MchD}{H:List EntD}{O:List OutD}{r:RecD}(h:Rb m0 H O r.m)(hl:r.log=[])(hR:OkR r 0)(hm:mayD r.m=true)(hq:∀e∈r.queue,e.kind≠1){clock:Int}(hc:W32 clock)(steps:Int):
  Rb m0 (H++(Cv r steps clock).1.log) (O++(Cv r steps clock).2) (Cv r steps clock).1.m:=by
 have h0:Rr m0 H {r with clock:=max r.clock clock} O:=by
  show Rb m0 (H++r.log) O r.m;rw[hl,iU];exact h
 have hR0:OkR {r with clock:=max r.clock clock} 0:=⟨hR.m,RZ hR.c hc,hR.l,hR.q,hR.v,hR.t⟩;have h1:Rr m0 H (CX r clock) O:=Rr.offers r.queue h0 hq;have h2:mayD (CX r clock).m=true:=Fp r.queue hR0 hR.v hm;obtain⟨a1,-⟩:=Rr.run (DC steps) h1 (hR.queue hc) h2;unfold Cv;rw[if_pos hm];exact a1
theorem Pa:∀(l k:List OutD)(b:Int),heldOk b (l++k)=true->heldOk b l=true
 | [],_,_,_=>rfl
 | o::l,k,b,h=>by
  rw[iT,heldOk,gX]at h;rw[heldOk,gX];exact⟨h.1,Pa l k o.at_ h.2⟩
abbrev conO(o:OutD):Bool:=decide (o.kind=1)||decide (o.kind=2)
structure Oo(b c:Int)(O:List OutD):Prop where
 a:∀o∈O,b<=o.at_/\o.at_<c
 f:∀o∈O,conO o=true->fitsD o=true
 s:heldOk b (O.filter conO)=true
theorem Mm:∀(l:List OutD)(b:Int)(o:OutD),heldOk b l=true->fitsD o=true->b<=o.at_->(∀x∈l,x.at_<=o.at_)->heldOk b (l++[o])=true
 | [],b,o,_,hf,hb,_=>by simp[heldOk,hf,hb]
 | x::l,b,o,h,hf,hb,hl=>by
  rw[heldOk,gX]at h;rw[iT,heldOk,gX];exact⟨h.1,Mm l x.at_ o h.2 hf (hl x (g7 ..)) (fun y hy=>hl y (gW _ hy))⟩
theorem Oo.up{b c c':Int}{O:List OutD}(h:Oo b c O)(hc:c<=c'):Oo b c' O:=⟨fun o ho=>by have:=h.a o ho;omega,h.f,h.s⟩
theorem Oo.snoc{b c:Int}{O:List OutD}(h:Oo b c O){o:OutD}(ho:o.at_=c)(hb:b<=c)(hf:conO o=true->fitsD o=true):Oo b (c+1) (O++[o]):=by
 refine⟨fun x hx=>?_,fun x hx=>?_,?_⟩
 ·rcases List.mem_append.1 hx with q|q
  ·have:=h.a x q;omega
  rw[List.mem_singleton.1 q];omega
 ·rcases List.mem_append.1 hx with q|q
  ·exact h.f x q
  rw[List.mem_singleton.1 q];exact hf
 rw[List.filter_append];cases hc:conO o with
 | true =>
  rw[show [o].filter conO=[o] by simp[hc]];refine Mm _ b o h.s (hf hc) (by omega) (fun x hx=>?_);have:=h.a x (List.mem_filter.1 hx).1;omega
 | false=>rw[show [o].filter conO=[] by simp[hc],iU];exact h.s
abbrev Og(t:Int)(o:OutD):Prop:=o.at_=t/\(conO o=true->fitsD o=true)
theorem cE(d:DskD)(l:List Int){c:Int}(hc:c=1\/c=2)(t:Int):∀o∈(Am d l c t).2,Og t o:=by
 intro o ho;unfold Am at ho;split at ho
 ·simp at ho
 split at ho
 ·simp at ho
 rw[List.mem_singleton.1 ho];unfold Ag;rcases hc with rfl|rfl<;>exact⟨by simp,by simp[conO]⟩
theorem aR(d:DskD)(l:List Int)(p v t:Int):∀o∈(Ak d l p v t).2,Og t o:=by
 unfold Ak
 (repeat' split)<;>first|(rename_i q;exact cE _ _ q _)|simp
theorem cQ(n:NicD)(l:List Int)(p v t:Int):∀o∈(AZ n l p v t).2,Og t o:=by
 unfold AZ;split
 ·simp
 split
 ·simp
 split
 ·split
  ·simp only;split
   ·rename_i q;intro o ho;rw[List.mem_singleton.1 ho];refine⟨rfl,fun _=>?_⟩;have:((Bh l n.frame).take n.len.toNat).length<=128:=by rw[iD];omega
    simp only[fitsD];simp;omega
   simp
  (repeat' split)<;>simp
 simp
theorem Vk(m:MchD)(p v t:Int):∀o∈(AH m p v t).2,Og t o:=by
 unfold AH;split
 ·intro o ho;rw[List.mem_singleton.1 ho];exact⟨rfl,fun _=>by simp[fitsD]⟩
 (repeat' split)<;>first|exact aR _ _ _ _ _|exact cQ _ _ _ _ _|simp
theorem go_con(m:MchD)(k:Int):∀o∈(goD m k).2,Og m.count o:=by
 show ∀o∈(BZ _ _ _ _).2,_;unfold BZ
 (repeat' split)<;>first|exact Vk _ _ _ _|simp
theorem Tr.outs{u:Int}{m m':MchD}{l r:List EntD}{O:List OutD}(h:Tr u m l O m' r):∀{b:Int}{P:List OutD},b<=m.count->Oo b m.count P->Oo b u (P++O):=by
 have hgo:∀{m:MchD}{b:Int}{P:List OutD}(k:Int),runsD m=true->b<=m.count->Oo b m.count P->Oo b (m.count+1) (P++(goD m k).2):=by
  intro m b P k hr hb hP;have h1:=go_con m k;have h2:(goD m k).2.length<=1:=by have:=DV m k;unfold stepD at this;rwa[if_pos hr]at this
  generalize (goD m k).2=q at h1 h2
  match q,h1,h2 with
  | [],_,_=>rw[iU];exact hP.up (by omega)
  | [o],h1,_=>exact hP.snoc (h1 o (List.mem_singleton.2 rfl)).1 hb (h1 o (List.mem_singleton.2 rfl)).2
  | a::b::q,_,h2=>simp at h2
 induction h with
 | nil h1 _=>intro b P hb hP;rw[iU];rw[<- h1];exact hP
 | @ev m e l O m' r h1 h2 h3 ih=>intro b P hb hP;exact ih (by rw[CC];exact hb) (by rw[CC];exact hP)
 | @go m l O m' r h1 h2 h3 h4 h5 ih =>
  intro b P hb hP;rw[<- iH];exact ih (by rw[FN];omega) (by rw[FN];exact hgo 0 h2 hb hP)
 | @clk m k l O m' r h1 h2 h3 h4 h5 ih =>
  intro b P hb hP;rw[<- iH];exact ih (by rw[FN];omega) (by rw[FN];exact hgo k h3 hb hP)
theorem Rb.outs{m0 m:MchD}{H:List EntD}{O:List OutD}(h:Rb m0 H O m):Oo m0.count m.count O:=by
 obtain⟨m1,rest,h1,-,-⟩:=h;have:=h1.outs (b:=m0.count) (P:=[]) (Int.le_refl _) ⟨by simp,by simp,rfl⟩;simpa using this
theorem LJ:∀(l:List OutD)(g:GateD),(∀o∈l,g.acked<=o.at_)->l.foldl D2 g={g with held:=g.held++l.filter conO}
 | [],g,_=>by simp
 | o::l,g,h=>by
  have h1:=h o (g7 ..);rw[List.foldl_cons];cases hc:conO o with
  | true =>
   have e:D2 g o={g with held:=g.held++[o]}:=by
    unfold D2;simp[conO]at hc;rw[nG,if_pos h1]
   rw[e,LJ l {g with held:=g.held++[o]} (fun x hx=>h x (gW _ hx)),List.filter_cons_of_pos hc];simp
  | false =>
   have e:D2 g o=g:=by
    unfold D2;simp[conO]at hc;rw[if_pos hc]
   rw[e,LJ l _ (fun x hx=>h x (gW _ hx)),List.filter_cons_of_neg (by simp[hc])]
theorem hold_b{b c:Int}{P Q:List OutD}{g:GateD}(hg:g.held=P.filter conO)(ha:g.acked=b)(h:Oo b c (P++Q)):(FO g Q).1={g with held:=(P++Q).filter conO}:=by
 have h1:=LJ Q g (fun o ho=>by rw[ha];exact(h.a o (List.mem_append_right _ ho)).1);have h2:DN (Q.foldl D2 g)=true:=by
  rw[h1];unfold DN;simp only;rw[hg,<- List.filter_append,ha];exact h.s
 unfold FO;split
 ·rw[h1];simp only;rw[hg,List.filter_append]
 rename_i q;exfalso;apply q;refine⟨?_,h2⟩;have hs:=h.s;unfold DN;rw[hg,ha];rw[List.filter_append]at hs;exact Pa _ _ _ hs
def SK(c:Int)(e:EntD):Bool:=decide (e.at_<=c)&&!decide (e.ev.kind=1)
def evP(p:RplD):RplD:={p with m:=appL p.m (p.log.takeWhile (SK p.m.count)),log:=p.log.dropWhile (SK p.m.count)}
def hdE(l:List EntD):EntD:=l.headD ⟨0,⟨0,0,[]⟩⟩
def Jx(p:RplD):Bool :=
 if readsD p.m=true then decide ((hdE p.log).ev.kind=1)&&decide ((hdE p.log).at_=p.m.count)else !(decide ((hdE p.log).ev.kind=1)&&decide ((hdE p.log).at_<=p.m.count))
def Rz(p:RplD):RplD×List OutD :=
 if readsD p.m=true then({p with m:=(stepD p.m (hdE p.log).ev.n).1,log:=p.log.tail,clock:=uw ((hdE p.log).ev.n+1)},(stepD p.m (hdE p.log).ev.n).2)
 else({p with m:=(stepD p.m 0).1},(stepD p.m 0).2)
def GG:Nat->RplD->List OutD->RplD×List OutD
 | 0,p,o=>(p,o)
 | n+1,p,o=>if p.known<=p.m.count then(p,o)else if Ep (evP p).m=true\/Jx (evP p)=false then(evP p,o)else GG n (Rz (evP p)).1 (o++(Rz (evP p)).2)
def Ck(p:RplD)(steps:Int):RplD×List OutD:=if mayD p.m=true then GG (DC steps) p []else(p,[])
theorem J5(n:Nat)(p:RplD)(o:List OutD):GG (n+1) p o=if p.known<=p.m.count then(p,o)else if Ep (evP p).m=true\/Jx (evP p)=false then(evP p,o)else GG n (Rz (evP p)).1 (o++(Rz (evP p)).2):=rfl
theorem Lh:∀(n:Nat)(p:RplD)(o:List OutD),GG n p o=((GG n p []).1,o++(GG n p []).2)
 | 0,p,o=>by simp[GG]
 | n+1,p,o=>by
  unfold GG;split
  ·simp
  split
  ·simp
  rw[Lh n _ (o++_),Lh n _ ([]++_)];simp
structure OkJ(p:RplD):Prop where
 m:OkM p.m
 e:∀e∈p.log,OkT e
 k:L64 p.known
theorem S4:∀(l:List EntD)(m:MchD),OkM m->(∀e∈l,OkT e)->OkM (appL m l)
 | [],m,h,_=>h
 | e::l,m,h,hl=>S4 l _ (DX h (hl e (g7 ..)).n).1 (fun x hx=>hl x (gW _ hx))
theorem PO:∀(l:List EntD)(m:MchD),OkM m->(∀e∈l,OkT e)->mayD m=true->mayD (appL m l)=true
 | [],m,h,_,hm=>hm
 | e::l,m,h,hl,hm=>PO l _ (DX h (hl e (g7 ..)).n).1 (fun x hx=>hl x (gW _ hx)) (CQ h hm e.ev)
theorem OkJ.ev{p:RplD}(h:OkJ p):OkJ (evP p) :=
 ⟨S4 _ _ h.m fun e he=>h.e e ((List.takeWhile_sublist _).subset he),fun e he=>h.e e ((List.dropWhile_sublist _).subset he),h.k⟩
theorem OkJ.may{p:RplD}(h:OkJ p)(hm:mayD p.m=true):mayD (evP p).m=true:=PO _ _ h.m (fun e he=>h.e e ((List.takeWhile_sublist _).subset he)) hm
theorem P3{p:RplD}{e:EntD}{r:List EntD}(hl:p.log=e::r)(hd:SK p.m.count e=true):evP p=evP {p with m:=(applyD p.m e.ev).1,log:=r}:=by
 unfold evP;simp only[hl,CC];rw[List.takeWhile_cons_of_pos hd,List.dropWhile_cons_of_pos hd];rfl
theorem IV{p:RplD}(h:∀e r,p.log=e::r->SK p.m.count e=false):evP p=p:=by
 obtain⟨m,l,k,c⟩:=p;unfold evP;cases l with
 | nil=>rfl
 | cons e r =>
  have hd:=h e r rfl;simp only at hd ⊢;rw[List.takeWhile_cons_of_neg (by simp[hd]),List.dropWhile_cons_of_neg (by simp[hd])];rfl
theorem VS{m:MchD}(h:runsD m=true):¬Ep m=true:=by
 unfold runsD at h;unfold Ep;simp only[gX,i7,decide_eq_true_eq]at h;obtain⟨⟨⟨_,h1⟩,h2⟩,h3⟩:=h;have h4:¬m.count=1152921504606846976:=by omega
 simp[h1,h2,h4]
theorem Tr.repl{u:Int}{m m':MchD}{l r:List EntD}{O:List OutD}(h:Tr u m l O m' r):∀(n:Nat)(p:RplD),p.m=m->p.log=l->p.known=u->(u-m.count).toNat<=n->OkJ p->mayD m=true->∃c,GG n p []=(⟨m',r,u,c⟩,O):=by
 induction h with
 | @nil m l h1 h2 =>
  intro n p hm hl hk hn hJ hmay;refine⟨p.clock,?_⟩;cases n with
  | zero=>unfold GG;rw[<- hm,<- hl,<- hk]
  | succ n=>unfold GG;rw[if_pos (by rw[hk,hm,h1];omega),<- hm,<- hl,<- hk]
 | @ev m e l O m' r h1 h2 h3 ih =>
  intro n p hm hl hk hn hJ hmay;have hd:SK m.count ⟨m.count,e⟩=true:=by simp[SK,h2]
  have hE:OkT ⟨m.count,e⟩:=hJ.e _ (by rw[hl];exact g7 ..);have hM:OkM m:=by rw[<- hm];exact hJ.m
  obtain⟨c,hc⟩:=ih n ⟨(applyD m e).1,l,p.known,p.clock⟩ rfl rfl hk (by rw[CC];exact hn) ⟨(DX hM hE.n).1,fun x hx=>hJ.e x (by rw[hl];exact gW _ hx),hJ.k⟩ (CQ hM hmay e);refine⟨c,?_⟩;rw[<- hc];have hev:evP p=evP ⟨(applyD m e).1,l,p.known,p.clock⟩:=by
   have:=P3 hl (by rw[hm];exact hd);rw[hm]at this;exact this
  obtain⟨n,rfl⟩:∃q,n=q+1:=⟨n-1,by omega⟩;rw[J5,J5,hev];simp only[hm,CC];rw[if_neg (show ¬p.known<=m.count by omega),if_neg (show ¬p.known<=m.count by omega)]
 | @go m l O m' r h1 h2 h3 h4 h5 ih =>
  intro n p hm hl hk hn hJ hmay;have hM:OkM m:=by rw[<- hm];exact hJ.m
  have hev:evP p=p:=IV fun e r hx=>by
   rw[hl]at hx;have:=h4 e (by rw[hx];rfl);rw[hm];simp[SK];omega
  obtain⟨n,rfl⟩:∃q,n=q+1:=⟨n-1,by omega⟩;have hs:stepD m 0=goD m 0:=by unfold stepD;rw[if_pos h2]
  have hcnt:=FN m 0;obtain⟨c,hc⟩:=ih n ⟨(goD m 0).1,l,p.known,p.clock⟩ rfl rfl hk (by omega) ⟨(Ml hM h2 Ax).1,fun x hx=>hJ.e x (by rw[hl];exact hx),hJ.k⟩ ((Bz _).2 (Hm hM h2 0));refine⟨c,?_⟩;have hst:=VS h2;have hp:Jx p=true:=by
   unfold Jx;rw[hm,hl,if_neg (by simp[h3])];cases l with
   | nil=>simp[hdE]
   | cons e l=>have:=h4 e rfl;simp[hdE];omega
  rw[J5,if_neg (by rw[hk,hm];omega),hev,if_neg (by rw[hm];simp[hst,hp]),Lh];have e1:Rz p=(⟨(goD m 0).1,l,p.known,p.clock⟩,(goD m 0).2):=by
   unfold Rz;rw[hm,hl,if_neg (by simp[h3]),hs]
  rw[e1,hc];simp
 | @clk m k l O m' r h1 hk' h2 h3 h5 ih =>
  intro n p hm hl hk hn hJ hmay;have hM:OkM m:=by rw[<- hm];exact hJ.m
  have hd:SK m.count ⟨m.count,⟨1,k,[]⟩⟩=false:=by simp[SK]
  have hev:evP p=p:=IV fun e r hx=>by
   rw[hl]at hx;cases hx;rw[hm];exact hd
  obtain⟨n,rfl⟩:∃q,n=q+1:=⟨n-1,by omega⟩;have hs:stepD m k=goD m k:=by unfold stepD;rw[if_pos h2]
  have hcnt:=FN m k;obtain⟨c,hc⟩:=ih n ⟨(goD m k).1,l,p.known,uw (k+1)⟩ rfl rfl hk (by omega) ⟨(Ml hM h2 hk').1,fun x hx=>hJ.e x (by rw[hl];exact gW _ hx),hJ.k⟩ ((Bz _).2 (Hm hM h2 k));refine⟨c,?_⟩;have hst:=VS h2;have hp:Jx p=true:=by
   unfold Jx;rw[hm,hl,if_pos h3];simp[hdE]
  rw[J5,if_neg (by rw[hk,hm];omega),hev,if_neg (by rw[hm];simp[hst,hp]),Lh];have e1:Rz p=(⟨(goD m k).1,l,p.known,uw (k+1)⟩,(goD m k).2):=by
   unfold Rz;rw[hm,hl,if_pos h3];simp[hdE,hs]
  rw[e1,hc];simp
abbrev eF(p:RplD):Ob:=⟨48,52,true,false,[p.row]⟩
def Zf(R:Nat)(Y:LoopD)(pp i1 i2 bid:Nat)(asg bod:List Oper):Prop :=
 ∀(p:RplD)(e:EvD)(nx:Nat)(ob:List (Nat×Option Ob)),OkM p.m->W32 e.n->e.data.length<=100000->lookO ob R=some (eF p)->R<nx->∀K:Nat->List (Nat×Option Ob)->Prop,
  (∀nx' ob',lookO ob' R=some (eF {p with m:=(applyD p.m e).1})->nx<=nx'->(∀q,q<nx->q≠R->lookO ob' q=lookO ob q)->K nx' ob')->rndV glo0 prog Y pp i1 i2 bid asg bod (.st e.row) nx ob K
theorem aS(R a b:Nat)(p:RplD)(k:Int)(hM:OkM p.m)(hE:∀e∈p.log,W32 e.ev.n/\e.ev.data.length<=100000)(hk:k=p.m.count){nx:Nat}{ob:List (Nat×Option Ob)}(hR:lookO ob R=some (eF p))
  (ha:lookO ob a=some ⟨224,1,true,false,[[.ptr R 52 0 49]]⟩) (hb:lookO ob b=some ⟨24,1,true,false,[[lv k]]⟩) (n1:a≠R) (n2:b≠R) (n3:R<nx) (n4:a<nx) (n5:b<nx)
  {l:Nat} {Y:LoopD} {pp i1 i2 bid:Nat} {asg bod:List Oper} (hY:LoopOk prog Y pp i1 i2 bid asg bod) (hr:Zf R Y pp i1 i2 bid asg bod) :
  @Bt (gly glo0 l Y) prog 184 [.yld l,.ptr a 1 0 0,.ptr b 1 0 0] nx ob fun r nx' ob'=>lookO ob' R=some (eF (evP p))/\nx<=nx'/\∀q,q<nx->q≠R->lookO ob' q=lookO ob q:=by
 letI:Glo:=gly glo0 l Y
 refine sIX func184 ntmps184 ?_;(repeat intro K hK);apply wr;refine Aa (p.log.length+1) ?_;refine BM (fun c stt=>∃(T:List (Nat×V))(x:Nat)(o:List (Nat×Option Ob))(z:RplD),stt=⟨46,T,x,o,nx⟩/\(lkT T 0=.yld l/\lkT T 1=.ptr a 1 0 0/\lkT T 2=.ptr b 1 0 0)/\z.log.length<=c/\evP z=evP p/\z.m.count=k/\OkM z.m/\(∀e∈z.log,W32 e.ev.n/\e.ev.data.length<=100000)/\lookO o R=some (eF z)/\nx<=x/\∀q,q<nx->q≠R->lookO o q=lookO ob q) ?_ _ _ ⟨_,nx,ob,p,rfl,by simp[lkT],g8 _,rfl,hk.symm,hM,hE,hR,g8 _,fun q _ _=>rfl⟩;rintro c stt ⟨T,x,o,z,rfl,⟨t0,t1,t2⟩,hc,hev,hzk,hzM,hzE,hzR,hx,hq⟩ Kl hKl;refine Bq [(0,.yld l),(1,.ptr a 1 0 0),(2,.ptr b 1 0 0)] (by simp[t0,t1,t2]) ?_;have hoa:lookO o a=some ⟨224,1,true,false,[[.ptr R 52 0 49]]⟩:=(hq a n4 n1).trans ha;have hobb:lookO o b=some ⟨24,1,true,false,[[lv k]]⟩:=(hq b n5 n2).trans hb;obtain⟨zm,zl,zk,zc⟩:=z;simp only at hzk hzM hzE hc;cases zl with
 | nil =>
  have hfin:evP p=⟨zm,[],zk,zc⟩:=by rw[<- hev];rfl
  refine au ?_;(repeat intro K hK);apply wr;refine AD 25 [0,1,3,7,15,31,63,127,255,511,1023,2047,63,8191,16383,32767,65535,131071,262143,524287,1048575,2097151,4194303,8388607,16777215] [(1,([],[])),(1,([],[])),(1,([],[])),(1,([],[])),(1,([],[])),(1,([],[])),(7,([[],[0],[0,1],[0,1,2],[0,1,2,3],[0,1,2,3,4],[]],[])),(1,([],[])),(1,([],[])),(1,([],[])),(1,([],[])),(1,([],[])),(1,([],[])),(1,([],[])),(1,([],[])),(1,([],[])),(1,([],[])),(1,([],[])),(1,([],[]))] ?_;refine af1 (kX3 @hoa @hobb @hzR) ?_;refine BN ?_;(repeat intro K hK);apply wr;first|exact hq|exact⟨by rw[hzR,hfin],hx,hq⟩
 | cons e r =>
  have hl:=Ay r;have he:=hzE e (g7 ..);have hpos:(0:Int)<(ents r).length+1:=by omega
  have hcons:ents (e::r)=e.row::ents r:=rfl;obtain⟨c,rfl⟩:∃q,c=q+1:=⟨c-1,by simp at hc;omega⟩;by_cases h1:e.at_<=k
  ·by_cases h2:e.ev.kind=1
   ·have hfin:evP p=⟨zm,e::r,zk,zc⟩:=by
     rw[<- hev];exact IV fun e' r' hh=>by cases hh;simp[SK,h2]
    have b1:decide (e.at_<=k)=true:=by simpa using h1
    have b2:(e.ev.kind != 1)=false:=by simp[h2]
    refine af ?_;(repeat intro K hK);apply wr;refine AD 25 [0,1,3,7,15,31,63,127,255,511,1023,2047,63,8191,16383,32767,65535,131071,262143,524287,1048575,2097151,4194303,8388607,16777215] [(1,([],[])),(1,([],[])),(1,([],[])),(1,([],[])),(1,([],[])),(1,([],[])),(7,([[],[0],[0,1],[0,1,2],[0,1,2,3],[0,1,2,3,4],[]],[])),(1,([],[])),(1,([],[])),(1,([],[])),(1,([],[])),(1,([],[])),(1,([],[])),(1,([],[])),(1,([],[])),(1,([],[])),(1,([],[])),(1,([],[])),(1,([],[]))] ?_;refine af1 (kX8 @hoa @hobb @hzR @hcons @hpos @b1 @b2 @h1) ?_;refine Ac @h2 ?_;(repeat intro K hK);apply wr;first|exact hq|exact⟨by rw[hzR,hfin],hx,hq⟩
   have b1:decide (e.at_<=k)=true:=by simpa using h1
   have b2:(e.ev.kind != 1)=true:=by simp[h2]
   refine af ?_;(repeat intro K hK);apply wr;refine AD 25 [0,1,3,7,15,31,63,127,255,511,1023,2047,63,8191,16383,32767,65535,131071,262143,524287,1048575,2097151,4194303,8388607,16777215] [(1,([],[])),(1,([],[])),(1,([],[])),(1,([],[])),(1,([],[])),(1,([],[])),(7,([[],[0],[0,1],[0,1,2],[0,1,2,3],[0,1,2,3,4],[]],[])),(1,([],[])),(1,([],[])),(1,([],[])),(1,([],[])),(1,([],[])),(1,([],[])),(1,([],[])),(1,([],[])),(1,([],[])),(1,([],[])),(1,([],[])),(1,([],[]))] ?_;refine af1 (kX8 @hoa @hobb @hzR @hcons @hpos @b1 @b2 @h1) ?_;(repeat intro K hK);apply wr;refine cT1 @h2 rfl ?_;have ne1:¬a=x:=by omega
   have ne2:¬b=x:=by omega
   have ne3:¬R=x:=by omega
   have ne4:¬x=R:=by omega
   refine af1 (kX8 @hoa @hobb @hzR @hcons @hpos @ne1 @ne2 @ne3) ?_;(repeat intro K hK);apply wr;have hkx:Bx _:=⟨hK⟩;clear hK;refine AD 7 [0,0,2,6,14,31,63] [(5,([[],[],[1],[1,2],[1,2,3]],[])),(1,([],[])),(1,([],[]))] ?_;refine af1 (kX9 @hoa @hobb @hzR @hcons @hpos @ne1 @ne2 @ne3 @ne4) ?_;(repeat intro K hK);apply wr;refine hkx.out _ ?_;clear hkx;refine S9 ?_;refine Nq (g:=glo0) (l:=l) (pre:=[_,_]) (post:=[_]) hY rfl rfl (by kernel_rfl) (by kernel_rfl) ?_;simp[ne4];refine hr ⟨zm,r,zk,zc⟩ e.ev (x+1) _ hzM he.1 he.2 (by simp[lookO]) (by omega) _ fun nx' ob' g1 g2 g3=>?_;have hcnt:=CC zm e.ev;have hnew:evP ⟨(applyD zm e.ev).1,r,zk,zc⟩=evP p:=by
    rw[<- hev];exact(P3 (p:=⟨zm,e::r,zk,zc⟩) rfl (by simp[SK,hzk,h1,h2])).symm
   refine BN ?_;(repeat intro K hK);apply wr;refine hKl c _ rfl ⟨_,nx',ob',⟨(applyD zm e.ev).1,r,zk,zc⟩,rfl,by simp[lkT],by simp at hc;simpa using hc,hnew,by rw[<- hzk];exact hcnt,(DX hzM he.1).1,fun y hy=>hzE y (gW _ hy),g1,by omega,fun q hq1 hq2=>?_⟩;rw[g3 q (by omega) hq2];have hqx:¬q=x:=by omega
   simp[lookO,hq2,hqx];exact hq q hq1 hq2
  have hfin:evP p=⟨zm,e::r,zk,zc⟩:=by
   rw[<- hev];exact IV fun e' r' hh=>by cases hh;simp[SK,hzk,h1]
  have b1:decide (e.at_<=k)=false:=by simpa using h1
  refine af ?_;(repeat intro K hK);apply wr;refine AD 25 [0,1,3,7,15,31,63,127,255,511,1023,2047,63,8191,16383,32767,65535,131071,262143,524287,1048575,2097151,4194303,8388607,16777215] [(1,([],[])),(1,([],[])),(1,([],[])),(1,([],[])),(1,([],[])),(1,([],[])),(7,([[],[0],[0,1],[0,1,2],[0,1,2,3],[0,1,2,3,4],[]],[])),(1,([],[])),(1,([],[])),(1,([],[])),(1,([],[])),(1,([],[])),(1,([],[])),(1,([],[])),(1,([],[])),(1,([],[])),(1,([],[])),(1,([],[])),(1,([],[]))] ?_;refine af1 (kX7 @hoa @hobb @hzR @hcons @hpos @b1 @h1) ?_;refine BN ?_;(repeat intro K hK);apply wr;first|exact hq|exact⟨by rw[hzR,hfin],hx,hq⟩
theorem Er{C D E G:Prop}(c:C)(d:D)(e:E)(t:C->D->E->G:=by intro c d e;(refine af1 e ?_;intros;apply wr);repeat' ((first|(refine AB rfl (fun h=>?_) (fun h=>?_)<;>(first|(simp[e]at h;done)|(simp[e]at h)|skip)<;>(first|(exfalso;omega)|skip))|((first|refine .inl ⟨1,_,d.1,?_⟩|refine⟨1,_,d.1,?_⟩);simp[C0,Cd,noX,Cx,C9,e];first|refine And.intro AQ ?_|skip)|((first|refine .inl ⟨1,_,d.2.1,?_⟩|refine⟨1,_,d.2.1,?_⟩);simp[C0,Cd,noX,Cx,C9,e];first|refine And.intro AQ ?_|skip)|refine cc1 c.1 e ?_|refine cc1 c.2.1 e ?_|refine cc1 c.2.2.1 e ?_|refine cc1 c.2.2.2.1 e ?_|refine cc1 c.2.2.2.2.1 e ?_|refine cc1 c.2.2.2.2.2.1 e ?_|(refine AD 15 [0,1,3,0,8,24,56,24,152,408,1016,2040,31,4127,16383] [(14,([[],[0],[0,1],[],[3],[3,4],[3,4,5],[3,4],[3,4,7],[3,4,7,8],[3,4,5,6,7,8,9],[3,4,5,6,7,8,9,10],[0,1,2,3,4],[0,1,2,3,4,12]],[])),(1,([],[]))] ?_)|exact rt1 e|fail)<;>(refine af1 e ?_;intros;apply wr))):G:=t c d e
theorem Xm(p:RplD)(hM:OkM p.m):AC prog 126 [.st p.row] (.tup [uv (if readsD p.m=true then(hdE p.log).ev.n else 0),.bool (readsD p.m),.bool (Jx p)]):=by
 have hrd:=QL p.m hM;obtain⟨m,l,k,c⟩:=p;simp only at hM hrd;unfold Jx;simp only;generalize readsD m=b at *;cases l with
 | nil =>
  have hd0:hdE []=⟨0,⟨0,0,[]⟩⟩:=rfl;cases b with
  | false =>
   refine sZ func126 ntmps126 ?_;exact Er (qX1 (hrd)) trivial @hd0
  | true =>
   refine sZ func126 ntmps126 ?_;exact Er (qX1 (hrd)) trivial @hd0
 | cons e r =>
  have hcons:ents (e::r)=e.row::ents r:=rfl;have hd1:hdE (e::r)=e:=rfl;have hpos:(0:Int)<(ents r).length+1:=by omega
  by_cases k1:e.ev.kind=1
  ·cases b with
   | false =>
    refine sZ func126 ntmps126 ?_;exact Er (qX1 (hrd)) trivial (kX4 @hcons @hpos @k1 @hd1)
   | true =>
    by_cases k2:e.at_=m.count
    ·refine sZ func126 ntmps126 ?_;exact Er (qX1 (hrd)) trivial (kX5 @hcons @hpos @k1 @k2 @hd1)
    refine sZ func126 ntmps126 ?_;exact Er (qX1 (hrd)) trivial (kX5 @hcons @hpos @k1 @k2 @hd1)
  cases b with
  | false =>
   refine sZ func126 ntmps126 ?_;exact Er (qX1 (hrd)) trivial (kX4 @hcons @hpos @k1 @hd1)
  | true =>
   refine sZ func126 ntmps126 ?_;exact Er (qX1 (hrd)) trivial (kX4 @hcons @hpos @k1 @hd1)
theorem Xp{nx:Nat}{ob:List (Nat×Option Ob)}(id sz off:Nat)(k:Int):
  Bt prog 125 [.ptr id sz 0 off,lv k] nx ob fun r nx' ob'=>r=.cap 184 [] [some (nx,1),some (nx+1,1)]/\nx'=nx+2/\ob'=(nx+1,some ⟨24,1,true,false,[[lv k]]⟩)::(nx,some ⟨224,1,true,false,[[.ptr id sz 0 off]]⟩)::ob:=by
 refine sIX func125 ntmps125 ?_;exact wx trivial trivial
theorem X8(p:RplD)(steps:Int)(hJ:OkJ p)(hl:p.log.length<=50000)(hd:∀e∈p.log,e.ev.data.length<=100000):AC prog 71 [.st p.row,iv steps] (.tup [.st (Ck p steps).1.row,.sl 4 false (outs (Ck p steps).2)]):=by
 have hmem:=hJ.m.n;have hcop:=J9 p (by omega) (by omega);have hmay:=JQ p.m hJ.m.gv.1 (by have:=hJ.m.gv.2;omega);cases hM:mayD p.m with
 | false =>
  have hE:Ck p steps=(p,[]):=by unfold Ck;rw[hM];rfl
  rw[hM]at hmay;rw[hE];refine sX func71 ntmps71 ?_;refine cX (hcop) ?_;refine cX (hmay) ?_;refine CV ?_;refine aw ?_;simp
 | true =>
  rw[hM]at hmay;refine sX func71 ntmps71 ?_;refine cX (hcop) ?_;refine cX (hmay) ?_;refine C3 ?_;(repeat intro K hK);apply wr;refine AT 6 124 4 (by decide) rfl ?_;have hlim:(if 4000<if steps<0 then 0 else steps then 4000 else if steps<0 then 0 else steps)=(DC steps:Int):=by unfold DC;(repeat' split)<;>omega
  have hl4:=OR steps;obtain⟨I,hI⟩:∃I:Nat->St->Prop,I=(fun kk ss=>∃(i:Nat)(z:RplD)(o:List OutD),i<=DC steps/\kk=DC steps-i/\(GG (DC steps) p []=GG (DC steps-i) z o/\OkJ z/\(∀e∈z.log,e.ev.data.length<=100000)/\o.length<=i)/\ss=⟨88,[(22,.int .i64 i),(21,.int .i64 (DC steps)),(6,.own 55),(2,.ptr 0 52 0 0),(4,.ptr 1 52 0 0)],56,[(55,some ⟨124,4,false,false,outs o⟩),(0,some (eF z)),(1,some ⟨48,52,true,false,[zMR++[.sl 0 true [],lv 0,uv 0]]⟩)],0⟩):=⟨_,rfl⟩;refine lX1 I (id) (by rw[hI];exact⟨0,p,[],by simp,rfl,⟨rfl,hJ,hd,by simp⟩,rfl⟩) @hlim ?_;intro kk ss hIk _;rw[hI]at hIk;obtain⟨i,z,o,hi,rfl,hx,rfl⟩:=hIk;obtain⟨hx1,hx2,hx3,hx4⟩:=hx;refine au ?_;(repeat intro K hK);apply wr;refine AB rfl (fun hh=>?_) (fun hh=>?_)
  ·simp at hh;rw[show DC steps-i=(DC steps-(i+1))+1 by omega,J5]at hx1;refine au ?_;(repeat intro K hK);apply wr;by_cases hkn:z.known<=z.m.count
   ·rw[if_pos hkn]at hx1;have hE:Ck p steps=(z,o):=by unfold Ck;rw[if_pos hM];exact hx1
    refine ED @hkn ?_;refine aw ?_;simp[hE]
   rw[if_neg hkn]at hx1;refine BU @hkn ?_;(repeat intro K hK);apply wr;refine cO ?_;refine(Xp 0 52 49 z.m.count).mono fun r nx' ob' hp=>?_;simp only[BX];obtain⟨rfl,rfl,rfl⟩:=hp;simp;refine au ?_;(repeat intro K hK);apply wr;refine Qs rfl fun fn l dl M0=>?_;refine @Bt.mono (gly glo0 l _) _ _ _ _ _ _ _ (aS 0 56 57 z z.m.count hx2.m (fun e he=>⟨(hx2.e e he).n,hx3 e he⟩) rfl (by simp[lookO]) (by simp[lookO]) (by simp[lookO]) (by decide) (by decide) (show 0<58 by decide) (show 56<58 by decide) (show 57<58 by decide) (l:=l) (Y:=⟨fn,_,_,_,_,_,_,M0,dl⟩) (pp:=35) (i1:=9) (i2:=10) (bid:=3) ⟨rfl,rfl,rfl,show 35<88 by decide,by kernel_rfl,by kernel_rfl,by kernel_rfl,by kernel_rfl⟩ ?hround) fun r nx' ob' hp=>?_
   case hround =>
    intro q e nx ob hqM hqn hqd hob hlt K hK;have d1:¬0=nx:=by omega
    have d2:¬nx=0:=by omega
    unfold rndV;simp[hob,d1,d2];refine .inl ⟨0,_,Ks q.m e hqM hqn hqd,?_⟩;simp[C0,Cd,hob,d1,d2];refine hK _ _ (by simp[lookO]) (by omega) fun j j1 j2=>?_;have d3:¬j=nx:=by omega
    simp[lookO,j2,d3]
   obtain⟨g1,g2,g3⟩:=hp;have f1:=g3 1 (by decide) (by decide);have f55:=g3 55 (by decide) (by decide);simp[lookO]at f1 f55;have hw:=hx2.ev;have hwd:∀e∈(evP z).log,e.ev.data.length<=100000:=fun e he=>hx3 e ((List.dropWhile_sublist _).subset he);have g2:58<=nx':=g2;generalize evP z=w at *;simp only[blk,thn];have f55z:lookO (List.map (fun p=>(p.fst,Option.map fzO p.snd)) ob') 55=some ⟨124,4,false,true,outs o⟩:=by
    have:=Ej ob' 55;rw[f55]at this;simpa[Ta,fzO]using this
   have ne1:¬nx'=0:=by omega
   have ne2:¬nx'=1:=by omega
   have ne3:¬nx'=55:=by omega
   refine au1 (kX3 @g1 @f1 @f55) ?_;refine cZ (OL w.m hw.m) (kX3 @g1 @f1 @f55) (kX3 @g1 @f1 @f55) ?_;(repeat intro K hK);apply wr;refine AB rfl (fun hs=>?_) (fun hs=>?_)
   ·have hS:Ep w.m=true:=by unfold Ep;simpa[or_assoc,and_assoc]using hs
    rw[if_pos (.inl hS)]at hx1;have hE:Ck p steps=(w,o):=by unfold Ck;rw[if_pos hM];exact hx1
    refine au1 (kX6 @g1 @f1 @f55 @ne1 @ne2 @ne3) ?_;refine aw ?_;simp[hE,f55z]
   have hS:¬Ep w.m=true:=by unfold Ep;simpa[or_assoc,and_assoc]using hs
   refine au1 (kX3 @g1 @f1 @f55) ?_;refine cZ (Xm w hw.m) (kX3 @g1 @f1 @f55) (kX3 @g1 @f1 @f55) ?_;(repeat intro K hK);apply wr;cases hp:Jx w with
   | false =>
    rw[if_pos (.inr hp)]at hx1;have hE:Ck p steps=(w,o):=by unfold Ck;rw[if_pos hM];exact hx1
    refine DI @hp (kX6 @g1 @f1 @f55 @ne1 @ne2 @ne3) ?_;refine aw ?_;simp[hE,f55z]
   | true =>
    rw[if_neg (by rintro(q|q);exact hS q;rw[hp]at q;cases q)]at hx1;refine EP @hp (kX3 @g1 @f1 @f55) ?_;(repeat intro K hK);apply wr;have hlo:=BA o;cases hr:readsD w.m with
    | true =>
     obtain⟨wm,wl,wk,wc⟩:=w;simp only at hr hw hwd hS;cases wl with
     | nil=>exfalso;simp[Jx,hr,hdE]at hp
     | cons e r =>
      have hcons:ents (e::r)=e.row::ents r:=rfl;have hlr:=Ay r;have hpos:(0:Int)<=(ents r).length:=by omega
      have hd1:hdE (e::r)=e:=rfl;have htk:List.take r.length (ents r)=ents r:=by rw[<- hlr];exact List.take_length
      have hso:=DV wm e.ev.n;have hen:=(hw.e e (g7 ..)).n;have hst:Rz ⟨wm,e::r,wk,wc⟩=(⟨(stepD wm e.ev.n).1,r,wk,uw (e.ev.n+1)⟩,(stepD wm e.ev.n).2):=by unfold Rz;rw[if_pos hr];rfl
      have hJ2:OkJ ⟨(stepD wm e.ev.n).1,r,wk,uw (e.ev.n+1)⟩:=⟨VR hw.m hen,fun x hx=>hw.e x (gW _ hx),hw.k⟩;have hd2:∀x∈r,x.ev.data.length<=100000:=fun x hx=>hwd x (gW _ hx);rw[hst]at hx1;simp only at hx1;refine DI @hr (kX8 @g1 @f1 @f55 @hcons @hpos @hd1 @hlr @htk) ?_;refine cc1 (step_ok wm e.ev.n hw.m) (kX4 @g1 @f1 @f55 @hd1) ?_;(repeat intro K hK)
      generalize stepD wm e.ev.n=S at *;have hlS:=BA S.2;refine au1 (RQ @g1 @f1 @f55 @ne1 @ne2 @ne3 @hlo @hlS @maxLen.eq_1 @hd1) ?_;(repeat intro K hK);apply wr;exact aX (fun x=>if x=55 then nx'+54 else x) (by rw[hI];exact⟨i+1,(RplD.mk S.1 r wk (uw (e.ev.n+1))),(o++S.2),by omega,rfl,⟨hx1,hJ2,hd2,by rw[gV];omega⟩,rfl⟩) (kX8 (AA (n:=(i:Int)+1)) @g1 @f1 @f55 @ne1 @ne2 @ne3 @Bc)
    | false =>
     have hso:=DV w.m 0;have hst:Rz w=({w with m:=(stepD w.m 0).1},(stepD w.m 0).2):=by unfold Rz;rw[if_neg (by simp[hr])]
     have hJ2:OkJ {w with m:=(stepD w.m 0).1}:=⟨VR hw.m Ax,hw.e,hw.k⟩;rw[hst]at hx1;simp only at hx1;refine EP @hr (kX3 @g1 @f1 @f55) ?_;refine cc1 (step_ok w.m 0 hw.m) (kX4 @g1 @f1 @f55 @hr) ?_;(repeat intro K hK)
     generalize stepD w.m 0=S at *;have hlS:=BA S.2;refine au1 (kX9 @g1 @f1 @f55 @ne1 @ne2 @ne3 @hlo @hlS @maxLen.eq_1) ?_;(repeat intro K hK);apply wr;exact aX (fun x=>if x=55 then nx'+54 else x) (by rw[hI];exact⟨i+1,(RplD.mk S.1 w.log w.known w.clock),(o++S.2),by omega,rfl,⟨hx1,hJ2,hwd,by rw[gV];omega⟩,rfl⟩) (kX8 (AA (n:=(i:Int)+1)) @g1 @f1 @f55 @ne1 @ne2 @ne3 @Bc)
  simp at hh;have hE:Ck p steps=(z,o):=by unfold Ck;rw[if_pos hM,hx1,show DC steps-i=0 by omega];rfl
  refine au ?_;refine aw ?_;simp[hE]
end Go.Proofs.YtjkmhmepljamoaaGreat
end
