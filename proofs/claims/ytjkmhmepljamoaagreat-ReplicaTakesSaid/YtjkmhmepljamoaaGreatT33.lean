/- A part of the proof of ReplicaTakes. -/
import Derived.Test.YtjkmhmepljamoaaGreatT03
import Derived.Test.YtjkmhmepljamoaaGreatT04
import Derived.Test.YtjkmhmepljamoaaGreatT06
import Derived.Test.YtjkmhmepljamoaaGreatT07
import Derived.Test.YtjkmhmepljamoaaGreatT11
import Derived.Test.YtjkmhmepljamoaaGreatT18
import Derived.Test.YtjkmhmepljamoaaGreatT29
import Derived.Test.YtjkmhmepljamoaaGreatT30
import Derived.Test.YtjkmhmepljamoaaGreatT32
set_option linter.all false
set_option maxHeartbeats 16000000
set_option maxRecDepth 100000
section
namespace Go.Proofs.YtjkmhmepljamoaaGreat
open Go.Ab Go.RowKit Tryz
structure MayC(c:CpuD):Prop where
 x:c.x 0=0
 s:c.csr 0<=31
 e:c.csr 7<=31
 r:c.csr 6<=255
 v:c.csr 1%4=0
structure MayM(m:MchD):Prop where
 p:pagesD m.mem≠0
 c:MayC m.cpu
 n:m.count<=1152921504606846976
 h:¬(m.waiting=true/\m.halted=true)
 k:m.keys.length<=16
 t:timMay m.tim=true
 d:dskMay m.dk (pagesD m.mem)=true
 i:nicMay m.nc (pagesD m.mem)=true
 b:balMay m.given (pagesD m.mem)=true
theorem CJ(m:MchD):mayD m=true↔MayM m:=by
 constructor
 ·intro h;unfold mayD at h;simp only[eU,gC,Bool.and_eq_false_iff,decide_eq_true_eq,bne_iff_ne,beq_iff_eq,ne_eq]at h;obtain⟨⟨⟨⟨⟨⟨⟨⟨h1,h2⟩,h3⟩,h4⟩,h5⟩,h6⟩,h7⟩,h8⟩,⟨⟨⟨h9,h10⟩,h11⟩,h12⟩,h13⟩:=h;exact⟨h1,⟨h2,h3,h4,h5,h6⟩,h7,by rcases h8 with h8|h8<;>simp[h8],by omega,h10,h11,h12,h13⟩
 rintro⟨h1,⟨h2,h3,h4,h5,h6⟩,h7,h8,h9,h10,h11,h12,h13⟩;unfold mayD;simp only[eU,gC,Bool.and_eq_false_iff,decide_eq_true_eq,bne_iff_ne,beq_iff_eq,ne_eq];refine⟨⟨⟨⟨⟨⟨⟨⟨h1,h2⟩,h3⟩,h4⟩,h5⟩,h6⟩,h7⟩,?_⟩,⟨⟨⟨by omega,h10⟩,h11⟩,h12⟩,h13⟩;cases hw:m.waiting<;>cases hh:m.halted<;>simp_all
theorem MayC.setR{c:CpuD}(h:MayC c){r v:Int}(hr:0<=r):MayC (c.setR r v):=by
 unfold CpuD.setR;split
 ·exact h
 rename_i q;refine⟨?_,h.s,h.e,h.r,h.v⟩;simp only[CpuD.setX];rw[if_neg (by simp;omega)];exact h.x
theorem MayC.setP{c:CpuD}(h:MayC c)(p:Int):MayC (c.setP p):=⟨h.x,h.s,h.e,h.r,h.v⟩
theorem MayC.trap{c:CpuD}(h:MayC c)(k b:Int):MayC (BN c k b):=⟨h.x,by simp[BN];exact(VG _).2,by simp[BN];exact h.e,by simp[BN];exact h.r,by simp[BN];exact h.v⟩
theorem MayC.ret{c:CpuD}(h:MayC c):MayC (O0 c):=⟨h.x,by simp[O0];exact(ZD _).2,by simp[O0];exact h.e,by simp[O0];exact h.r,by simp[O0];exact h.v⟩
theorem and31(v:Int):Bc .u32 v 31<=31:=by rw[show Bc .u32 v 31=v%32 from AW v 5 32 (by omega) (by decide)];omega
theorem andn3{v:Int}(h:W32 v):D8 .u32 v 3%4=0:=by
 obtain⟨n,rfl⟩:=Int.eq_ofNat_of_zero_le h.1;have hn:n<4294967296:=by have:=h.2;omega
 have hb:∀m:Nat,BitVec.ofInt 32 (m:Int)=BitVec.ofNat 32 m:=fun m=>by simp
 have e:(BitVec.ofNat 32 n &&& ~~~ BitVec.ofNat 32 3).toNat%4=0:=by
  apply Nat.eq_of_testBit_eq;intro i;rw[show(4:Nat)=2^2 from rfl,Nat.testBit_mod_two_pow,<- BitVec.getLsbD,BitVec.getLsbD_and,BitVec.getLsbD_not];by_cases hi:i<2
  ·have:i=0\/i=1:=by omega
   rcases this with rfl|rfl<;>simp
  simp[hi]
 unfold D8;rw[show IntKind.u32.bits=32 from rfl,hb n,show BitVec.ofInt 32 3=BitVec.ofNat 32 3 from rfl,Dk (by have:=(BitVec.isLt (BitVec.ofNat 32 n &&& ~~~BitVec.ofNat 32 3));omega)];omega
theorem MayC.write{c:CpuD}(h:MayC c)(k:Int){v:Int}(hv:W32 v):MayC (Bs c k v):=by
 have h31:=and31 v;have h3:=andn3 hv;have h255:Bc .u32 v 255<=255:=by rw[C7];omega
 unfold Bs;split
 ·rename_i q;refine⟨h.x,?_,?_,?_,?_⟩<;>simp only[CpuD.setS]<;>split<;>first|assumption|exact h.s|exact h.e|exact h.r|exact h.v|(exfalso;omega)
 split
 ·rename_i q;refine⟨h.x,?_,?_,?_,?_⟩<;>simp only[CpuD.setS]<;>split<;>first|assumption|exact h.s|exact h.e|exact h.r|exact h.v|(exfalso;omega)
 split
 ·rename_i q;refine⟨h.x,?_,?_,?_,?_⟩<;>simp only[CpuD.setS]<;>split<;>first|assumption|exact h.s|exact h.e|exact h.r|exact h.v|(exfalso;omega)
 split
 ·rename_i q;refine⟨h.x,?_,?_,?_,?_⟩<;>simp only[CpuD.setS]<;>split<;>first|exact h.s|exact h.e|exact h.r|exact h.v|(exfalso;omega)
 exact h
theorem MayC.execute{c:CpuD}(h:MayC c)(hc:OkC c)(i:InstD)(hi:OkI i):MayC (AD c i).1:=by
 have ha:=hi.a0;unfold AD;exact Ay (P:=fun z:CpuD×EffD=>MayC z.1) (fun _=>(h.setR ha).setP _) (fun _=>Ay (P:=fun z:CpuD×EffD=>MayC z.1) (fun _=>h.setP _) (fun _=>Ay (P:=fun z:CpuD×EffD=>MayC z.1) (fun _=>(h.setR ha).setP _) (fun _=>Ay (P:=fun z:CpuD×EffD=>MayC z.1) (fun _=>(h.setR ha).setP _) (fun _=>Ay (P:=fun z:CpuD×EffD=>MayC z.1) (fun _=>h.trap _ _) (fun _=>Ay (P:=fun z:CpuD×EffD=>MayC z.1) (fun _=>h.ret) (fun _=>Ay (P:=fun z:CpuD×EffD=>MayC z.1) (fun _=>(h.setR ha).setP _) (fun _=>Ay (P:=fun z:CpuD×EffD=>MayC z.1) (fun _=>(h.write _ (hc.x _)).setP _) (fun _=>Ay (P:=fun z:CpuD×EffD=>MayC z.1) (fun _=>h.setP _) (fun _=>Ay (P:=fun z:CpuD×EffD=>MayC z.1) (fun _=>h.setP _) (fun _=>Ay (P:=fun z:CpuD×EffD=>MayC z.1) (fun _=>h.setP _) (fun _=>Ay (P:=fun z:CpuD×EffD=>MayC z.1) (fun _=>h.setP _) (fun _=>Ay (P:=fun z:CpuD×EffD=>MayC z.1) (fun _=>h.setP _) (fun _=>(h.setR ha).setP _)))))))))))))
theorem MayC.load{c:CpuD}(h:MayC c)(l:List Int)(i:InstD)(hi:OkI i):MayC (Ac c l i).1:=by
 unfold Ac;generalize AE c l (uw (c.x i.b.toNat+uw i.imm)) (AY i.op) 2=R;obtain⟨a,m,k⟩:=R;simp only;split
 ·exact h.trap _ _
 exact(h.setR hi.a0).setP _
theorem MayC.store{c:CpuD}(h:MayC c)(l:List Int)(i:InstD):MayC (AX c l i).1:=by
 unfold AX;generalize AE c l (uw (c.x i.b.toNat+uw i.imm)) (AY i.op) 3=R;obtain⟨a,m,k⟩:=R;simp only;split
 ·exact h.trap _ _
 exact h.setP _
theorem MayC.exec{c:CpuD}(h:MayC c)(hc:OkC c)(l:List Int):MayC (Aw c l).1:=by
 unfold Aw;generalize AE c l c.pc 4 1=R;obtain⟨a,m,k⟩:=R;simp only;split
 ·exact h.trap _ _
 unfold CW;split
 ·exact h.trap _ _
 rename_i hv;have hi:=CG (by simpa using hv);split
 ·exact h.trap _ _
 split
 ·exact h.load _ _ hi
 split
 ·exact h.store _ _
 exact h.execute hc _ hi
theorem SQ{m:MchD}(h:MayM m)(hh:m.halted=false):MayM (AL m)/\(AL m).waiting=false/\(AL m).halted=false:=by
 have hw:∀c,MayC c->MayM {m with waiting:=false,cpu:=c}:=fun c hc=>⟨h.p,hc,h.n,by simp,h.k,h.t,h.d,h.i,h.b⟩;unfold AL;split
 ·exact⟨hw _ h.c,rfl,hh⟩
 split
 ·exact⟨hw _ h.c,rfl,hh⟩
 exact⟨hw _ (h.c.trap _ _),rfl,hh⟩
theorem WR{c:CpuD}{l:List Int}(hc:OkC c)(hl:OkW l):(Aw c l).2.1.length=l.length:=(Ya hc hl).2.2.1
theorem SB{m:MchD}(hM:OkM m)(h:MayM m)(hh:m.halted=false):MayM (Cu m)/\(Cu m).waiting=false/\(Cu m).halted=false:=by
 obtain⟨hb,h1,h2⟩:=SQ h hh;have ho:=Lr hM;have hlen:pagesD (Aw (AL m).cpu m.mem).2.1=pagesD (AL m).mem:=by
  rw[Co (WR ho.c hM.w)];have:(AL m).mem=m.mem:=N9 m;rw[this]
 refine⟨⟨by show pagesD (Aw _ _).2.1≠0;rw[hlen];exact hb.p,hb.c.exec ho.c _,hb.n,hb.h,hb.k,hb.t,?_,?_,?_⟩,h1,h2⟩
 ·show dskMay _ (pagesD (Aw _ _).2.1)=true;rw[hlen];exact hb.d
 ·show nicMay _ (pagesD (Aw _ _).2.1)=true;rw[hlen];exact hb.i
 show balMay _ (pagesD (Aw _ _).2.1)=true;rw[hlen];exact hb.b
theorem YV:∀(p x:Nat),x<2^64->(Lib.bitLen x<=p↔x<2^p)
 | 0,x,hx=>by
  by_cases h:x=0
  ·subst h;decide
  have:=Lib.bitLen_half x h hx;rw[this];simp;omega
 | p+1,x,hx=>by
  by_cases h:x=0
  ·subst h;exact⟨fun _=>Nat.two_pow_pos _,fun _=>by rw[show Lib.bitLen 0=0 by decide];omega⟩
  have e:=Lib.bitLen_half x h hx;have ih:=YV p (x/2) (by omega);rw[e,Nat.pow_succ];omega
theorem bitLen_le(x:Int)(p:Nat)(h:W32 x):bitLen x<=p↔x<2^p:=by
 unfold bitLen;have h0:=h.1;have e:x<2^p↔x.toNat<2^p:=by
  rw[show(2:Int)^p=((2^p:Nat):Int) by push_cast;rfl];omega
 rw[e];exact YV p x.toNat (by have:=h.2;omega)
theorem Df(g p:Int)(hg:W32 g)(hp:0<=p):balMay g p=true↔g<2^p.toNat:=by
 unfold balMay;rw[decide_eq_true_eq,<- bitLen_le g p.toNat hg];omega
theorem ior_lt{a b:Int}(ha:W32 a)(hb:W32 b){p:Nat}(h1:a<2^p)(h2:b<2^p):ior .u32 a b<2^p:=by
 obtain⟨n,rfl⟩:=Int.eq_ofNat_of_zero_le ha.1;obtain⟨k,rfl⟩:=Int.eq_ofNat_of_zero_le hb.1;have q1:n<2^p:=by
  have:(n:Int)<((2^p:Nat):Int):=by push_cast;exact h1
  omega
 have q2:k<2^p:=by
  have:(k:Int)<((2^p:Nat):Int):=by push_cast;exact h2
  omega
 have hn:n<4294967296:=by have:=ha.2;omega
 have hk:k<4294967296:=by have:=hb.2;omega
 have hb':∀m:Nat,BitVec.ofInt 32 (m:Int)=BitVec.ofNat 32 m:=fun m=>by simp
 unfold ior;rw[show IntKind.u32.bits=32 from rfl,hb' n,hb' k,BitVec.toNat_or,BitVec.toNat_ofNat,BitVec.toNat_ofNat,Nat.mod_eq_of_lt (show n<2^32 from hn),Nat.mod_eq_of_lt (show k<2^32 from hk),Dk (Nat.or_lt_two_pow (n:=32) hn hk)];have:=Nat.or_lt_two_pow q1 q2;have e:((n ||| k:Nat):Int)<((2^p:Nat):Int):=by omega
 push_cast at e
 exact e
theorem W4{a:Int}(ha:W32 a)(b:Int):D8 .u32 a b<=a:=by
 obtain⟨n,rfl⟩:=Int.eq_ofNat_of_zero_le ha.1;have hn:n<4294967296:=by have:=ha.2;omega
 unfold D8;have hb':∀m:Nat,BitVec.ofInt 32 (m:Int)=BitVec.ofNat 32 m:=fun m=>by simp
 rw[show IntKind.u32.bits=32 from rfl,hb' n,BitVec.toNat_and,BitVec.toNat_ofNat,Nat.mod_eq_of_lt (show n<2^32 from hn)];have:=Nat.and_le_left (n:=n) (m:=(~~~ BitVec.ofInt 32 b).toNat);rw[Dk (by omega)];omega
theorem bW{v:Int}(h0:0<=v)(h1:v<32):W32 (2^v.toNat):=by
 have h:(2:Nat)^v.toNat<2^32:=Nat.pow_lt_pow_right (by decide) (by omega);have e:(2:Int)^v.toNat=((2^v.toNat:Nat):Int):=by push_cast;rfl
 rw[e];generalize 2^v.toNat=q at h;constructor<;>omega
theorem Q9{g:Int}{l:List Int}(hg:W32 g)(p:Int){v:Int}(hv:W32 v)(h:balMay g (pagesD l)=true):balMay (Ai g l p v).1 (pagesD l)=true:=by
 have hp:=(Aa l).1;rw[Df _ _ hg hp]at h;unfold Ai;split
 ·rw[Df _ _ hg hp];exact h
 rename_i q;have hw:=bW hv.1 (by omega);split
 ·split
  ·rename_i z;rw[Df _ _ (bA _ _) hp];refine ior_lt hg hw h ?_;have:(2:Nat)^v.toNat<2^(pagesD l).toNat:=Nat.pow_lt_pow_right (by decide) (by have:=hv.1;omega);rw[show(2:Int)^v.toNat=((2^v.toNat:Nat):Int) by push_cast;rfl,show(2:Int)^(pagesD l).toNat=((2^(pagesD l).toNat:Nat):Int) by push_cast;rfl];omega
  rw[Df _ _ hg hp];exact h
 split
 ·rw[Df _ _ (Nr _ _) hp];exact Int.lt_of_le_of_lt (W4 hg _) h
 rw[Df _ _ hg hp];exact h
theorem ZN{a:Int}(h:W32 a):IntKind.i64.wrap a=a:=AA (by have:=h.1;omega) (by have:=h.2;omega)
theorem T8{d:DskD}{l:List Int}(hd:OkD d)(h:dskMay d (pagesD l)=true){c:Int}(hc:c=1\/c=2)(t:Int):dskMay (Ap d l c t).1 (pagesD l)=true:=by
 unfold Ap;split
 ·exact h
 rename_i q;have q:d.state=0:=by simpa using q
 have hbl:¬d.blocks > 64:=by intro z;unfold dskMay at h;rw[if_pos z]at h;cases h
 have h2:=h;unfold dskMay at h2;rw[if_neg hbl,if_pos (.inl q)]at h2;split
 ·unfold dskMay;simp only;rw[if_neg hbl,if_pos (by simp)];exact h2
 rename_i z;have z1:d.block<d.blocks:=by omega
 have z2:d.frame<pagesD l:=by omega
 unfold dskMay;simp only;rw[if_neg hbl,if_neg (by simp),if_pos (by simp),ZN hd.c];simp only[z1,z2,decide_true,Bool.and_true];rcases hc with rfl|rfl
 ·simp[Jv]
 simp[Jv,FP hd.c.1 z2]
theorem Qj{d:DskD}{l:List Int}(hd:OkD d)(h:dskMay d (pagesD l)=true)(p v t:Int):dskMay (Am d l p v t).1 (pagesD l)=true:=by
 unfold Am;split
 ·exact h
 split
 ·exact h
 split
 ·split
  ·exact T8 hd h (by omega) t
  split
  ·rename_i z;have hbl:¬d.blocks > 64:=by intro y;unfold dskMay at h;rw[if_pos y]at h;cases h
   have z2:=z.2;unfold CQ at z2;simp only[Bool.or_eq_true,decide_eq_true_eq]at z2;unfold dskMay at h ⊢;rw[if_neg hbl,if_pos (by omega)]at h;simp only;rw[if_neg hbl,if_pos (by simp)];exact h
  exact h
 exact h
theorem RA{n:NicD}{l:List Int}(hn:OkN n)(h:nicMay n (pagesD l)=true)(p v t:Int):nicMay (Ag n l p v t).1 (pagesD l)=true:=by
 unfold Ag;split
 ·exact h
 split
 ·exact h
 split
 ·split
  ·exact h
  split
  ·show nicMay (if _ then _ else _) _=true;split
   ·rename_i z;obtain⟨z1,z2,z3⟩:=z;have hg:n.got=0:=by unfold nicMay at h;simp[z2,z3]at h;exact h.2
    unfold nicMay;simp[z3,hg,ZN hn.a];omega
   exact h
  split
  ·unfold nicMay at h ⊢;simp only;by_cases hp:n.posted=true
   ·by_cases hr:n.received=true
    ·simp[hp,hr]at h
    have hr:n.received=false:=by simpa using hr
    simp[hp,hr]at h ⊢;exact h.1
   have hp:n.posted=false:=by simpa using hp
   simp[hp]at h ⊢;exact h.1
  exact h
 exact h
theorem WL{m:MchD}{e:EffD}(hM:OkM m)(he:OkE e)(h:MayM m)(hw:m.waiting=false)(hh:m.halted=false)(k t:Int)(hr:e.kind=1->0<=e.reg):MayM (Bl m e k t).1:=by
 unfold Bl;split
 ·rename_i q;have hR:MayM (AQ m e.port k).1:=by
   unfold AQ;split
   ·refine⟨h.p,h.c,h.n,h.h,?_,h.t,h.d,h.i,h.b⟩;have:=h.k;unfold Ec;split
    ·simp;omega
    split<;>exact h.k
   repeat' split
   all_goals exact h
  exact⟨hR.p,hR.c.setR (hr q),hR.n,hR.h,hR.k,hR.t,hR.d,hR.i,hR.b⟩
 split
 ·unfold AH;split
  ·exact h
  split
  ·refine⟨h.p,h.c,h.n,h.h,h.k,?_,h.d,h.i,h.b⟩;show timMay (Vn e.val)=true;unfold timMay Vn;by_cases z:e.val=0<;>simp[z]
  split
  ·exact⟨h.p,h.c,h.n,h.h,h.k,h.t,Qj hM.d h.d _ _ _,h.i,h.b⟩
  split
  ·exact⟨h.p,h.c,h.n,h.h,h.k,h.t,h.d,RA hM.r h.i _ _ _,h.b⟩
  split
  ·obtain⟨-,-,a3⟩:=YU hM.gv hM.w e.port e.val;have hl:=Co a3;refine⟨by show pagesD (Ai _ _ _ _).2≠0;rw[hl];exact h.p,h.c,h.n,h.h,h.k,h.t,?_,?_,?_⟩
   ·show dskMay _ (pagesD (Ai _ _ _ _).2)=true;rw[hl];exact h.d
   ·show nicMay _ (pagesD (Ai _ _ _ _).2)=true;rw[hl];exact h.i
   show balMay _ (pagesD (Ai _ _ _ _).2)=true;rw[hl];exact Q9 hM.gv _ he.v h.b
  exact h
 split
 ·exact⟨h.p,h.c,h.n,by simp[hh],h.k,h.t,h.d,h.i,h.b⟩
 split
 ·exact⟨h.p,h.c,h.n,by simp[hw],h.k,h.t,h.d,h.i,h.b⟩
 exact h
theorem H8{m:MchD}(hM:OkM m)(hr:runsD m=true)(k:Int):MayM (goD m k).1:=by
 have hx:=hr;unfold runsD at hx;simp only[eU,gC,decide_eq_true_eq]at hx;obtain⟨⟨⟨h1,h2⟩,h3⟩,h4⟩:=hx;obtain⟨a1,a2⟩:=IA hM;obtain⟨b1,b2,b3⟩:=SB hM ((CJ m).1 h1) h2;have hd:=WL a1 a2 b1 b2 b3 k m.count (fun q=>(a2.r q).1);have hq:=F4 (Cu m) (GZ m) k m.count;rw[Ea]at hq;unfold goD;refine⟨hd.p,hd.c,?_,hd.h,hd.k,hd.t,hd.d,hd.i,hd.b⟩;show _+1<=_;rw[hq];omega
theorem Gm{m:MchD}(hM:OkM m)(h:mayD m=true)(k:Int):mayD (stepD m k).1=true:=by
 unfold stepD;split
 ·rename_i q;exact(CJ _).2 (H8 hM q k)
 exact h
theorem MB{d:DskD}{l:List Int}(h:dskMay d (pagesD l)=true)(e:EvD):dskMay (AK d l e).1 (pagesD l)=true:=by
 have hbl:¬d.blocks > 64:=by intro y;unfold dskMay at h;rw[if_pos y]at h;cases h
 have hD:dskMay (doneD d e.n) (pagesD l)=true:=by
  unfold dskMay doneD;simp only;rw[if_neg hbl,if_pos (by split<;>omega)];simp
 unfold AK
 repeat' split
 all_goals first|exact h|exact hD
theorem X1{n:NicD}{l:List Int}(h:nicMay n (pagesD l)=true)(s:Str):nicMay (Ah n l s).1 (pagesD l)=true:=by
 unfold Ah;split
 ·rename_i z;unfold nicMay;simp;omega
 exact h
theorem CO{m:MchD}(hM:OkM m)(h:mayD m=true)(e:EvD):mayD (applyD m e).1=true:=by
 have hm:=(CJ m).1 h;unfold applyD;split
 ·exact h
 split
 ·split
  ·refine(CJ _).2 ⟨hm.p,hm.c,hm.n,hm.h,hm.k,?_,hm.d,hm.i,hm.b⟩;show timMay (FC m.tim).1=true;unfold FC;split
   ·simp[timMay]
   exact hm.t
  exact h
 split
 ·split
  ·refine(CJ _).2 ⟨hm.p,hm.c,hm.n,hm.h,?_,hm.t,hm.d,hm.i,hm.b⟩;show(FT m.keys _).1.length<=16;unfold FT;split
   ·exact hm.k
   simp;omega
  exact h
 split
 ·obtain⟨-,a2⟩:=Jw (d:=m.dk) hM.w e;have hl:=Co a2;refine(CJ _).2 ⟨by show pagesD (AK _ _ _).2.1≠0;rw[hl];exact hm.p,hm.c,hm.n,hm.h,hm.k,hm.t,?_,?_,?_⟩
  ·show dskMay _ (pagesD (AK _ _ _).2.1)=true;rw[hl];exact MB hm.d e
  ·show nicMay _ (pagesD (AK _ _ _).2.1)=true;rw[hl];exact hm.i
  show balMay _ (pagesD (AK _ _ _).2.1)=true;rw[hl];exact hm.b
 split
 ·split
  ·obtain⟨-,-,a3⟩:=Yv hM.r hM.w e.data;have hl:=Co a3;refine(CJ _).2 ⟨by show pagesD (Ah _ _ _).2.1≠0;rw[hl];exact hm.p,hm.c,hm.n,hm.h,hm.k,hm.t,?_,?_,?_⟩
   ·show dskMay _ (pagesD (Ah _ _ _).2.1)=true;rw[hl];exact hm.d
   ·show nicMay _ (pagesD (Ah _ _ _).2.1)=true;rw[hl];exact X1 hm.i _
   show balMay _ (pagesD (Ah _ _ _).2.1)=true;rw[hl];exact hm.b
  exact h
 split
 ·split
  ·exact(CJ _).2 ⟨hm.p,hm.c,hm.n,hm.h,hm.k,hm.t,hm.d,hm.i,hm.b⟩
  exact h
 exact h
theorem encW_w{i:InstD}(h:validD i=true):W32 (WO i):=by
 obtain⟨f1,f2,f3,f4,f5,f6⟩:=GM h;unfold WO;constructor<;>rcases f6 with h|h<;>omega
theorem TV(op a b c k z:Int)(hk:0<=k/\k<24)(hz:z=0\/z=1):-2147483648<=(D9 op a b c k z).imm/\(D9 op a b c k z).imm<=2147483647:=by
 have hkz:0<=k*z/\k*z<24:=by rcases hz with rfl|rfl<;>omega
 generalize hq:k*z=q at hkz;unfold D9;rw[hq]
 (repeat' split)<;>simp only<;>omega
theorem TU(n:Int):-2147483648<=(Jb n).imm/\(Jb n).imm<=2147483647 :=
 TV _ _ _ _ _ _ (by unfold kA;omega) (by unfold zA;omega)
noncomputable def Ng(x:Int):Int:=if x.tmod 17=0 then x%4294967296 else WO (Jb x)
theorem Zf(x:Int):W32 (Ng x):=by
 unfold Ng;split
 ·omega
 exact encW_w (Im x)
noncomputable def D6(l:List Int):List Int:=l.map Ng
theorem S6(l:List Int):OkW (D6 l):=by
 intro w hw;obtain⟨x,_,rfl⟩:=List.mem_map.1 hw;exact Zf x
theorem Ex(l:List Int):(D6 l).length=l.length:=by simp[D6]
@[simp] theorem codeL_nil:ints .u32 (D6 [])=[]:=rfl
theorem Zs(n:Int):AC prog 98 [.st (Jb n).row] (.tup [.int .u32 (WO (Jb n)),.bool true]):=by
 have h:=F7 (Jb n) (TU n);simpa[Im n]using h
theorem andF(x:Int):IntKind.u32.wrap (IntKind.i64.wrap ((BitVec.ofInt 64 x &&& 4294967295#64).toNat:Int))=x%4294967296:=by
 have e:(BitVec.ofInt 64 x &&& 4294967295#64).toNat=(x%4294967296).toNat:=by
  rw[BitVec.toNat_and,BitVec.toNat_ofInt,show(4294967295#64).toNat=2^32-1 from rfl,Nat.and_two_pow_sub_one_eq_mod];omega
 rw[e,AA (by omega) (by omega),IntKind.wrap_u32];omega
theorem WI(l:List Int)(hb:l.length<=100000):AC prog 44 [.sl 1 false (ints .i64 l)] (.new 25 1 (ints .u32 (D6 l))):=by
 have hl:=AM .i64 l;refine sX func44 ntmps44 ?_;intros;apply wr;refine AU 3 25 1 (by decide) rfl ?_;obtain⟨I,hI⟩:∃I:Nat->St->Prop,I=(fun kk ss=>∃(i:Nat),i<=l.length/\kk=l.length-i/\(True)/\ss=⟨42,[(4,.int .i64 i),(3,.own 0),(0,.sl 1 false (ints .i64 l))],1,[(0,some ⟨25,1,false,false,ints .u32 (D6 (l.take i))⟩)],0⟩):=⟨_,rfl⟩;refine lX I (id) (by rw[hI];exact⟨0,by simp,rfl,trivial,rfl⟩) ?_;intro kk ss hIk _;rw[hI]at hIk;obtain⟨i,hi,rfl,hx,rfl⟩:=hIk;refine au1 @hl ?_;intros;apply wr;refine AB rfl (fun h=>?_) (fun h=>?_)
 ·simp at h;have hlt:i<l.length:=by omega
  obtain⟨x,hx⟩:∃x,l[i]? =some x:=⟨_,eR hlt⟩;have hg:(ints .i64 l)[i]? =some [.int .i64 x]:=Bh hx;have hS:D6 (l.take (i+1))=D6 (l.take i)++[Ng x]:=by
   rw[D6,List.take_add_one,List.map_append,hx];rfl
  have hn:(ints .u32 (D6 (l.take i))).length=i:=by rw[AM,Ex,fE];omega
  have hS':ints .u32 (D6 (l.take i))++[[V.int .u32 (Ng x)]]=ints .u32 (D6 (l.take (i+1))):=by rw[hS];simp[ints]
  refine au1 (kX2 @hg @hl) ?_;intros;apply wr;refine AB rfl (fun hm=>?_) (fun hm=>?_)
  ·simp at hm;have hw:Ng x=x%4294967296:=if_pos hm;rw[hw]at hS';have hF:IntKind.u32.wrap (Bc .i64 x 4294967295)=x%4294967296:=andF x;refine J4 (kX5 @hg @hl @hn @hF @maxLen.eq_1) ?_;intros;apply wr;exact aX (fun x=>if x=0 then 2 else x) (by rw[hI];exact⟨i+1,by omega,rfl,trivial,rfl⟩) (kX2 (AA (n:=(i:Int)+1) (by omega) (by omega)) @hS')
  simp at hm;have hw:Ng x=WO (Jb x):=if_neg hm;rw[hw]at hS';refine au1 (kX2 @hg @hl) ?_;refine cX (Nv x) ?_;refine cc (Zs x) ?_;refine J4 (kX2 @hn @maxLen.eq_1) ?_;intros;apply wr;exact aX (fun x=>if x=0 then 9 else x) (by rw[hI];exact⟨i+1,by omega,rfl,trivial,rfl⟩) (kX2 (AA (n:=(i:Int)+1) (by omega) (by omega)) @hS')
 simp at h;have ht:l.take i=l:=fZ h;rw[ht];refine au ?_;refine ar ?_;simp
def Wy(w:List Int):List Int:=w++List.replicate (256-w.length) 0
def G7(w:List Int):MchD:={V4 with cpu:=⟨fun _=>0,0,fun i=>if i=0 then 1 else 0⟩,mem:=Wy w,dk:={eN with blocks:=4}}
theorem Pj(w:List Int)(h:w.length<=256):(Wy w).length=256:=by simp[Wy];omega
theorem dP{α:Type}(z:α)(us:List α)(n:Nat)(h:us.length<=n):spl (List.replicate n z) 0 us=us++List.replicate (n-us.length) z:=by
 apply List.ext_getElem?;intro j;rw[DZ _ _ _ _ (by simpa using h)];by_cases hj:j<us.length
 ·rw[if_pos ⟨by omega,by omega⟩,fO hj];rfl
 rw[if_neg (by omega),fP (by omega),List.getElem?_replicate,List.getElem?_replicate];by_cases h2:j<n
 ·rw[if_pos h2,if_pos (by omega)]
 rw[if_neg h2,if_neg (by omega)]
theorem Wz(w:List Int)(h:w.length<=256):spl (ints .u32 mem0) 0 (ints .u32 w)=ints .u32 (Wy w):=by
 rw[<- P8,dP _ _ _ (by rw[AM];exact h),AM];unfold Wy ints;rw[List.map_append,List.map_replicate]
theorem bJ(w:List Int)(h:w.length<=256):AC prog 45 [iv 8,iv 4,.sl 1 false (ints .u32 w)] (.tup [.st (G7 w).row,.bool true]):=by
 have hl:=AM .u32 w;have hs:=Wz w h;refine sY func45 ntmps45 @hl ?_;intros;apply wr;refine AB rfl (fun h1=>?_) (fun h1=>?_)
 ·simp at h1;exfalso;omega
 refine au1 @hl ?_;refine cX (X3) ?_;refine cc (cL) ?_;have hsl:min w.length 256=w.length:=by omega
 refine au1 (kX3 @hl @mem0_l @hsl) ?_;intros;apply wr;refine aw ?_;have ht:(ints .u32 w).take 256=ints .u32 w:=fZ (by omega);simp[G7,hs,hsl,ht]
end Go.Proofs.YtjkmhmepljamoaaGreat
end
section
set_option maxRecDepth 1000000
namespace Go.Proofs.YtjkmhmepljamoaaGreat
open Go.Ab Go.RowKit Tryz
def kW:List Int:=[403701760,303104152,990904321,403701760,303104031,990904327,403701760,303104004,990904326,404750336,304218624,405798912,305332224,406847488,306446344,340983816,307560455,342032386,23461890,592838656,271777793,708116474,403701760,303104006,1024458759,403701760,303104002,1024458761,403701760,303104100,1024458755,403701760,303104640,990904322,403701760,303104021,990904320,956301312,990904325,974127107,386990096,672137233,974127106,269549572,990904322,1009778690,1026555904,403701760,303104001,1024458756,403701760,303104007,1024458757,286392321,269549569,1024458758,974127109,956301312,1007681536,1024458752,1023410182,1023410185,403701760,303104006,1024458759,403701760,303104002,1024458761,1007681538,269549588,1024458755,1007681546,1024458762,974127109,956301312]
def kMem(f:Nat->Int):List Int:=kW++(List.replicate 85 0++(List.range 96).map f)
def kM0(f:Nat->Int):MchD:={V4 with cpu:=⟨fun _=>0,0,fun i=>if i=0 then 1 else 0⟩,mem:=kMem f,dk:={eN with blocks:=4}}
def itD(m:MchD):Nat->MchD
 | 0=>m
 | n+1=>(goD (itD m n) 0).1
def rdsD(m:MchD):Bool:=decide ((AL m).cpu.csr 0%2=1)&&AS m.mem (AL m).cpu.pc 4&&validD (DW (wAt m.mem ((AL m).cpu.pc/4)))&&decide ((DW (wAt m.mem ((AL m).cpu.pc/4))).op=60)&&decide ((DW (wAt m.mem ((AL m).cpu.pc/4))).imm=2)
def UF(m:MchD):Bool:=decide ((GZ m).kind=0)||(decide ((GZ m).kind=2)&&(decide ((GZ m).port=3)||decide ((GZ m).port=7)||(decide ((GZ m).port=9)&&decide ((GZ m).val=2))))
def slimB(m:MchD):Bool:=!FQ (AL m).cpu&&[1,16,18,20,24,35,42,57,59,61].contains (DW (wAt (AE (AL m).cpu m.mem (AL m).cpu.pc 4 1).2.1 ((AE (AL m).cpu m.mem (AL m).cpu.pc 4 1).1/4))).op
def KR(m:MchD):Bool:=!m.halted&&(!Ns m&&(!rdsD m&&(UF m&&slimB m)))
theorem k_q1(f:Nat->Int):((List.range 87).all fun k=>KR (itD (kM0 f) k))=true:=by kernel_rfl
end Go.Proofs.YtjkmhmepljamoaaGreat
end
section
namespace Go.Proofs.YtjkmhmepljamoaaGreat
open Go.Ab Go.RowKit Tryz
theorem Vt(m:MchD):(AL m).dk=m.dk:=by
 unfold AL;split
 ·rfl
 split<;>rfl
theorem LQ{m:MchD}(h:UF m=true):(goD m 0).1.dk=m.dk/\(goD m 0).2=[]:=by
 have ha:(Cu m).dk=m.dk:=Vt m;unfold goD Bl;simp only;unfold UF at h;simp only[Bool.or_eq_true,eU,decide_eq_true_eq]at h;generalize GZ m=e at *;rcases h with h|⟨h,q⟩
 ·rw[if_neg (by omega),if_neg (by omega),if_neg (by omega),if_neg (by omega)];exact⟨ha,rfl⟩
 rw[if_neg (by omega),if_pos h];rcases q with(q|q)|⟨q,v⟩
 ·unfold AH;rw[q];exact⟨ha,rfl⟩
 ·unfold AH;rw[q];exact⟨ha,rfl⟩
 unfold AH;rw[q,v];exact⟨ha,by simp[Ag]⟩
theorem it_ok{m:MchD}(hM:OkM m)(hmay:mayD m=true)(hc:m.count=0)(n:Nat)(hn:n<=1000)(hq:∀k<n,KR (itD m k)=true):OkM (itD m n)/\mayD (itD m n)=true/\(itD m n).count=n/\(itD m n).dk=m.dk:=by
 induction n with
 | zero=>exact⟨hM,hmay,by show m.count=_;rw[hc];rfl,rfl⟩
 | succ n ih =>
  obtain⟨h1,h2,h3,h4⟩:=ih (by omega) fun k hk=>hq k (by omega);have q:=hq n (by omega);unfold KR at q;simp only[eU,gC]at q;obtain⟨q1,q2,q3,q4,q5⟩:=q;have hr:runsD (itD m n)=true:=by unfold runsD;rw[h2,q1,q2,h3];simp;omega
  obtain⟨g1,g2⟩:=M3 h1 hr BD;refine⟨g1,(CJ _).2 (H8 h1 hr 0),by rw[show itD m (n+1)=(goD (itD m n) 0).1 from rfl,g2,h3];simp,?_⟩;rw[show itD m (n+1)=(goD (itD m n) 0).1 from rfl,(LQ q4).1,h4]
theorem Yo{w:List Int}(hw:OkW w)(hl:w.length<=256):OkM (G7 w):=by
 have hp:=Pj w hl;refine⟨⟨fun i=>BD,BD,fun i=>?_,by simp[G7]⟩,?_,by simp[G7,hp],by simp[G7],BD,?_,?_,BD,BD,by simp[G7]⟩
 ·show W32 (if i=0 then 1 else 0);split
  ·exact⟨by omega,by omega⟩
  exact BD
 ·intro x hx;rcases List.mem_append.1 (show x∈w++List.replicate (256-w.length) 0 from hx)with q|q
  ·exact hw x q
  rw[(List.mem_replicate.1 q).2];exact BD
 ·constructor<;>(constructor<;>simp[G7])
 constructor<;>(constructor<;>simp[G7])
theorem P9{w:List Int}(hl:w.length<=256):mayD (G7 w)=true:=by
 have hp:=Pj w hl;have hg:pagesD (Wy w)=8:=by unfold pagesD;rw[hp];decide
 have h0:(8 != (0:Int))=true:=by decide
 have h1:balMay 0 8=true:=by kernel_rfl
 have h2:nicMay zNic 8=true:=by kernel_rfl
 have h3:dskMay {eN with blocks:=4} 8=true:=by kernel_rfl
 have h4:timMay zTim=true:=by kernel_rfl
 have hm:(G7 w).mem=Wy w:=rfl;unfold mayD;rw[hm,hg,show(G7 w).given=0 from rfl,show(G7 w).nc=zNic from rfl,show(G7 w).dk={eN with blocks:=4}from rfl,show(G7 w).tim=zTim from rfl,h0,h1,h2,h3,h4];rfl
noncomputable def HK(k:Int)(l:List Int):List Int:=if k<2 then kW++(List.replicate 85 0++D6 l)else D6 l
noncomputable def mkD(k:Int)(l:List Int):MchD:=if k=1 then itD (G7 (HK k l)) 87 else G7 (HK k l)
theorem kW_w:OkW kW:=by
 have h:kW.all (fun x=>decide (0<=x)&&decide (x<4294967296))=true:=by decide +kernel
 intro x hx;have:=List.all_eq_true.1 h x hx;simp at this;exact⟨by omega,by omega⟩
theorem Ks(k:Int)(l:List Int):(HK k l).length<=l.length+160:=by
 unfold HK;split
 ·simp only[eX,List.length_replicate,Ex,show kW.length=75 from rfl];omega
 rw[Ex];omega
theorem Yd(k:Int)(l:List Int):OkW (HK k l):=by
 unfold HK;split
 ·intro x hx;rcases List.mem_append.1 hx with q|q
  ·exact kW_w x q
  rcases List.mem_append.1 q with q|q
  ·rw[(List.mem_replicate.1 q).2];exact BD
  exact S6 l x q
 exact S6 l
theorem dX(c:List Int)(h:c.length<=96):c++List.replicate (96-c.length) 0=(List.range 96).map fun i=>c.getD i 0:=by
 apply List.ext_getElem?;intro j;rw[fH,List.getElem?_append];by_cases hj:j<c.length
 ·rw[if_pos hj,List.getElem?_range (by omega),Option.map_some,eP,eR hj];rfl
 rw[if_neg hj,List.getElem?_replicate];by_cases h2:j<96
 ·rw[if_pos (by omega),List.getElem?_range h2,Option.map_some,eP,fX (by omega)];rfl
 rw[if_neg (by omega),fX (by simpa using h2)];rfl
theorem Yn(l:List Int)(hl:l.length<=60):G7 (HK 1 l)=kM0 fun i=>(D6 l).getD i 0:=by
 have hc:=Ex l;have e:Wy (HK 1 l)=kMem fun i=>(D6 l).getD i 0:=by
  unfold Wy HK kMem;rw[if_pos (by decide),<- dX (D6 l) (by omega)];have:256-(kW++(List.replicate 85 0++D6 l)).length=96-(D6 l).length:=by
   simp only[eX,List.length_replicate,show kW.length=75 from rfl];omega
  rw[this,fL,fL]
 unfold G7 kM0;rw[e]
theorem Ym(k:Int)(l:List Int)(hl:l.length<=60):OkM (mkD k l)/\mayD (mkD k l)=true/\(mkD k l).dk.state=0:=by
 have hi:=Ks k l;have h1:=Yo (Yd k l) (by omega);have h2:=P9 (w:=HK k l) (by omega);unfold mkD;split
 ·rename_i hk;subst hk;have hq:∀j<87,KR (itD (G7 (HK 1 l)) j)=true:=by
   intro j hj;rw[Yn l hl];exact List.all_eq_true.1 (k_q1 fun i=>(D6 l).getD i 0) j (List.mem_range.2 hj)
  obtain⟨g1,g2,g3,g4⟩:=it_ok h1 h2 rfl 87 (by omega) hq;exact⟨g1,g2,by rw[g4];rfl⟩
 exact⟨h1,h2,rfl⟩
abbrev rowM(m:MchD)(v:V):List V:=m.cpu.row++v::.str m.keys::(m.tim.row++(m.dk.row++(m.nc.row++[uv m.tgt,uv m.given,lv m.count,.bool m.waiting,.bool m.halted])))
abbrev bG(m:MchD)(v:V):Ob:=⟨42,49,true,false,[rowM m v]⟩
def K7(nx:Nat)(ob:List (Nat×Option Ob))(id j:Nat)(m:MchD)(nx':Nat)(ob':List (Nat×Option Ob)):Prop :=
 nx<=nx'/\lookO ob' id=some (bG m (.own j))/\lookO ob' j=some (⟨25,1,false,false,ints .u32 m.mem⟩)/\∀i,i<nx->i≠id->i≠j->lookO ob' i=lookO ob i
abbrev zMR0:=[uv 0,uv 0,uv 0,uv 0,uv 0,uv 0,uv 0,uv 0,uv 0,uv 0,uv 0,uv 0,uv 0,uv 0,uv 0,uv 0,uv 0,uv 0,uv 0,uv 0,uv 0,uv 0,uv 0,uv 0,uv 0,.sl 0 true [],.str [],.bool false,uv 0,.bool false,uv 0,uv 0,uv 0,iv 0,iv 0,uv 0,uv 0,.str [],uv 0,uv 0,.bool false,uv 0,.bool false,uv 0,uv 0,uv 0,lv 0,.bool false,.bool false]
abbrev nilE:V:=.sl 0 true []
theorem aM{c:CpuD}{i:InstD}(h:(AD c i).2.kind=1):i.op=60:=by
 have hz:Ax.kind=1->i.op=60:=by simp[Ax]
 unfold AD at h;revert h;exact Ay (P:=fun z:CpuD×EffD=>z.2.kind=1->i.op=60) (fun _=>hz) (fun _=>Ay (P:=fun z:CpuD×EffD=>z.2.kind=1->i.op=60) (fun _=>hz) (fun _=>Ay (P:=fun z:CpuD×EffD=>z.2.kind=1->i.op=60) (fun _=>hz) (fun _=>Ay (P:=fun z:CpuD×EffD=>z.2.kind=1->i.op=60) (fun _=>hz) (fun _=>Ay (P:=fun z:CpuD×EffD=>z.2.kind=1->i.op=60) (fun _=>hz) (fun _=>Ay (P:=fun z:CpuD×EffD=>z.2.kind=1->i.op=60) (fun _=>hz) (fun _=>Ay (P:=fun z:CpuD×EffD=>z.2.kind=1->i.op=60) (fun _=>hz) (fun _=>Ay (P:=fun z:CpuD×EffD=>z.2.kind=1->i.op=60) (fun _=>hz) (fun _=>Ay (P:=fun z:CpuD×EffD=>z.2.kind=1->i.op=60) (fun q _=>q) (fun _=>Ay (P:=fun z:CpuD×EffD=>z.2.kind=1->i.op=60) (fun _ h=>by simp at h) (fun _=>Ay (P:=fun z:CpuD×EffD=>z.2.kind=1->i.op=60) (fun _ h=>by simp at h) (fun _=>Ay (P:=fun z:CpuD×EffD=>z.2.kind=1->i.op=60) (fun _ h=>by simp at h) (fun _=>Ay (P:=fun z:CpuD×EffD=>z.2.kind=1->i.op=60) (fun _ h=>by simp at h) (fun _=>hz)))))))))))))
theorem ex_60{c:CpuD}{i:InstD}(h:i.op=60):(AD c i).2=⟨1,i.imm,i.a,0⟩:=by
 unfold AD;rw[if_neg (by omega),if_neg (by omega),if_neg (by omega),if_neg (by omega),if_neg (by omega),if_neg (by omega),if_neg (by omega),if_neg (by omega),if_pos h]
theorem NV{c:CpuD}{l:List Int}{w:Int}(h:(CW c l w).2.2.kind=1):validD (DW w)=true/\(DW w).op=60/\c.csr 0%2=1/\(CW c l w).2.2.port=(DW w).imm:=by
 unfold CW at h ⊢;split at h
 ·simp[Ax]at h
 rename_i q1;split at h
 ·simp[Ax]at h
 rename_i q2;split at h
 ·simp[Ax]at h
 rename_i q3;split at h
 ·simp[Ax]at h
 rename_i q4;have q:=aM h;rw[if_neg q1,if_neg q2,if_neg q3,if_neg q4];refine⟨by simpa using q1,q,?_,by simp only;rw[ex_60 q]⟩;have:¬c.csr 0%2=0:=fun z=>q2 ⟨by rw[q];rfl,z⟩;omega
theorem eL{c:CpuD}{l:List Int}{w:Int}(h1:validD (DW w)=true)(h2:(DW w).op=60)(h3:c.csr 0%2=1):(CW c l w).2.2=⟨1,(DW w).imm,(DW w).a,0⟩:=by
 unfold CW;rw[if_neg (by simp[h1]),if_neg (fun q=>by have:=q.2;omega),if_neg (by omega),if_neg (by omega)];exact ex_60 h2
theorem res_k{c:CpuD}{l:List Int}(h:c.csr 0%2=1):AE c l c.pc 4 1=if AS l c.pc 4=true then(c.pc,l,0)else(0,l,if c.pc%4≠0 then 3 else 4):=by
 have hp:¬FQ c=true:=by unfold FQ;simp;omega
 unfold AE;by_cases h4:c.pc%4=0
 ·rw[if_neg (by simp[h4]),if_neg hp];split
  ·rfl
  rw[if_neg (by simp[h4])];rfl
 have hw:¬AS l c.pc 4=true:=by unfold AS;simp[h4]
 rw[if_pos h4,if_neg hw,if_pos h4]
theorem Yu{m:MchD}(hr:runsD m=true):rdsD m=readsD m:=by
 have e1:readsD m=(decide ((GZ m).kind=1)&&decide ((GZ m).port=2)):=by unfold readsD;rw[hr];rfl
 rw[e1,Bool.eq_iff_iff];unfold rdsD GZ;generalize (AL m).cpu=c;obtain⟨w,hw⟩:∃w,w=wAt m.mem (c.pc/4):=⟨_,rfl⟩;rw[<- hw];simp only[eU,decide_eq_true_eq];constructor
 ·rintro⟨⟨⟨⟨h1,h2⟩,h3⟩,h4⟩,h5⟩;unfold Aw;rw[res_k h1,if_pos h2];simp only[ne_eq,not_true_eq_false,if_false];rw[<- hw,eL h3 h4 h1];exact⟨rfl,h5⟩
 rintro⟨h1,h2⟩;have hk:c.csr 0%2=1:=by
  unfold Aw at h1;generalize AE c m.mem c.pc 4 1=R at h1;obtain⟨a,l,k⟩:=R;simp only at h1;split at h1
  ·simp[Ax]at h1
  exact(NV h1).2.2.1
 unfold Aw at h1 h2;rw[res_k hk]at h1 h2;by_cases hwi:AS m.mem c.pc 4=true
 ·rw[if_pos hwi]at h1 h2;simp only[ne_eq,not_true_eq_false,if_false]at h1 h2;rw[<- hw]at h1 h2;obtain⟨a1,a2,a3,a4⟩:=NV h1;rw[a4]at h2;exact⟨⟨⟨⟨hk,hwi⟩,a1⟩,a2⟩,h2⟩
 rw[if_neg hwi]at h1;simp only at h1;rw[if_pos (by split<;>omega)]at h1;simp[Ax]at h1
inductive Tr(u:Int):MchD->List EntD->List OutD->MchD->List EntD->Prop
 | nil {m l}:m.count=u->firstOk m.count l=true->Tr u m l [] m l
 | ev {m e l O m' r}:m.count<u->e.kind≠1->Tr u (applyD m e).1 l O m' r->Tr u m (⟨m.count,e⟩::l) O m' r
 | go {m l O m' r}:m.count<u->runsD m=true->readsD m=false->(∀e,l.head? =some e->m.count<e.at_)->Tr u (goD m 0).1 l O m' r->Tr u m l ((goD m 0).2++O) m' r
 | clk {m k l O m' r}:m.count<u->W32 k->runsD m=true->readsD m=true->Tr u (goD m k).1 l O m' r->Tr u m (⟨m.count,⟨1,k,[]⟩⟩::l) ((goD m k).2++O) m' r
theorem Tr.le{u:Int}{m m':MchD}{l r:List EntD}{O:List OutD}(h:Tr u m l O m' r):m.count<=u:=by
 cases h<;>omega
theorem Tr.first{u:Int}{m m':MchD}{l r:List EntD}{O:List OutD}(h:Tr u m l O m' r):firstOk m.count l=true:=by
 cases h with
 | nil _ h=>exact h
 | ev _ _ _=>simp[firstOk]
 | go _ _ _ h _ =>
  cases l with
  | nil=>rfl
  | cons e l=>have:=h e rfl;simp[firstOk];omega
 | clk _ _ _ _ _=>simp[firstOk]
theorem CC(m:MchD)(e:EvD):(applyD m e).1.count=m.count:=by
 unfold applyD
 (repeat' split)<;>rfl
theorem FI(m:MchD)(k:Int):(goD m k).1.count=m.count+1:=by
 show(Bl _ _ _ _).1.count+1=_;rw[F4,Ea]
theorem Tr.split{u:Int}{m m':MchD}{l r:List EntD}{O:List OutD}(h:Tr u m l O m' r):∀t:Int,m.count<=t->t<=u->∃y L O1 O2,Tr t m l O1 y L/\Tr u y L O2 m' r/\O=O1++O2/\y.count=t:=by
 induction h with
 | @nil m l h1 h2 =>
  intro t h3 h4;exact⟨m,l,[],[],.nil (by omega) h2,.nil h1 h2,rfl,by omega⟩
 | @ev m e l O m' r h1 h2 h3 ih =>
  intro t h4 h5;by_cases h:m.count=t
  ·have hT:Tr u m (⟨m.count,e⟩::l) O m' r:=.ev h1 h2 h3;exact⟨m,_,[],O,.nil h hT.first,hT,rfl,h⟩
  obtain⟨y,L,O1,O2,a1,a2,a3,a4⟩:=ih t (by rw[CC];omega) h5;exact⟨y,L,O1,O2,.ev (by omega) h2 a1,a2,a3,a4⟩
 | @go m l O m' r h1 h2 h3 h4 h5 ih =>
  intro t h6 h7;by_cases h:m.count=t
  ·have hT:Tr u m l ((goD m 0).2++O) m' r:=.go h1 h2 h3 h4 h5;exact⟨m,_,[],_,.nil h hT.first,hT,rfl,h⟩
  obtain⟨y,L,O1,O2,a1,a2,a3,a4⟩:=ih t (by rw[FI];omega) h7;exact⟨y,L,_,O2,.go (by omega) h2 h3 h4 a1,a2,by rw[a3,fL],a4⟩
 | @clk m k l O m' r h1 h2 h3 h4 h5 ih =>
  intro t h6 h7;by_cases h:m.count=t
  ·have hT:Tr u m (⟨m.count,⟨1,k,[]⟩⟩::l) ((goD m k).2++O) m' r:=.clk h1 h2 h3 h4 h5;exact⟨m,_,[],_,.nil h hT.first,hT,rfl,h⟩
  obtain⟨y,L,O1,O2,a1,a2,a3,a4⟩:=ih t (by rw[FI];omega) h7;exact⟨y,L,_,O2,.clk (by omega) h2 h3 h4 a1,a2,by rw[a3,fL],a4⟩
theorem Tr.pre{t:Int}{m y:MchD}{l L:List EntD}{O:List OutD}(h:Tr t m l O y L):∀n:Nat,(∀k e,n<=k->l[k]? =some e->t<=e.at_)->∃us,L=l.drop us/\us<=n/\us<=l.length/\Tr t m (l.take n) O y ((l.take n).drop us):=by
 induction h with
 | @nil m l h1 h2 =>
  intro n _;refine⟨0,rfl,by omega,by omega,.nil h1 ?_⟩;cases n with
  | zero=>rfl
  | succ n=>cases l with|nil=>rfl|cons e l=>simpa[firstOk]using h2
 | @ev m e l O m' r h1 h2 h3 ih =>
  intro n hn;cases n with
  | zero=>have:=hn 0 _ (by omega) rfl;simp only at this;omega
  | succ n =>
   obtain⟨us,a1,a2,a3,a4⟩:=ih n (fun k e hk he=>hn (k+1) e (by omega) (by simpa using he));exact⟨us+1,by simpa using a1,by omega,by simp;omega,by simpa using Tr.ev h1 h2 a4⟩
 | @go m l O m' r h1 h2 h3 h4 h5 ih =>
  intro n hn;obtain⟨us,a1,a2,a3,a4⟩:=ih n hn;refine⟨us,a1,a2,a3,.go h1 h2 h3 (fun e he=>?_) a4⟩;cases n with
  | zero=>simp at he
  | succ n=>cases l with|nil=>simp at he|cons x l=>exact h4 e (by simpa using he)
 | @clk m k l O m' r h1 h2 h3 h4 h5 ih =>
  intro n hn;cases n with
  | zero=>have:=hn 0 _ (by omega) rfl;simp only at this;omega
  | succ n =>
   obtain⟨us,a1,a2,a3,a4⟩:=ih n (fun k e hk he=>hn (k+1) e (by omega) (by simpa using he));exact⟨us+1,by simpa using a1,by omega,by simp;omega,by simpa using Tr.clk h1 h2 h3 h4 a4⟩
theorem Tr.end_cnt{u:Int}{m m':MchD}{l r:List EntD}{O:List OutD}(h:Tr u m l O m' r):m'.count=u:=by
 induction h with
 | nil h _=>exact h
 | ev _ _ _ ih=>exact ih
 | go _ _ _ _ _ ih=>exact ih
 | clk _ _ _ _ _ ih=>exact ih
theorem Tr.ok{u:Int}{m m':MchD}{l r:List EntD}{O:List OutD}(h:Tr u m l O m' r)(hE:∀e∈l,W32 e.ev.n):OkM m->mayD m=true->OkM m'/\mayD m'=true:=by
 induction h with
 | nil _ _=>exact fun a b=>⟨a,b⟩
 | @ev m e l O m' r _ _ _ ih =>
  exact fun a b=>ih (fun x hx=>hE x (eW _ hx)) (DU a (hE _ (fB ..))).1 (CO a b e)
 | go _ h2 _ _ _ ih=>exact fun a b=>ih hE (M3 a h2 BD).1 ((CJ _).2 (H8 a h2 0))
 | clk _ hk h2 _ _ ih=>exact fun a b=>ih (fun x hx=>hE x (eW _ hx)) (M3 a h2 hk).1 ((CJ _).2 (H8 a h2 _))
theorem Hh:∀(l:List EntD)(i j:Nat)(a b:EntD),ordD l=true->l[i]? =some a->l[j]? =some b->i<=j->a.at_<=b.at_
 | [],i,j,a,b,_,ha,_,_=>by simp at ha
 | x::l,0,0,a,b,_,ha,hb,_=>by simp at ha hb;subst ha hb;omega
 | x::l,i+1,0,a,b,_,_,_,h=>by omega
 | x::l,i+1,j+1,a,b,ho,ha,hb,h=>by
  have ho2:ordD l=true:=by cases l with|nil=>rfl|cons y l=>rw[ordD,eU]at ho;exact ho.2
  exact Hh l i j a b ho2 (by simpa using ha) (by simpa using hb) (by omega)
 | x::l,0,j+1,a,b,ho,ha,hb,h=>by
  simp at ha;subst ha;cases l with
  | nil=>simp at hb
  | cons y l =>
   rw[ordD,eU]at ho;have h1:x.at_<=y.at_:=by
    have:=ho.1;simp at this;omega
   exact Int.le_trans h1 (Hh (y::l) 0 j y b ho.2 rfl (by simpa using hb) (by omega))
theorem LN:∀(l:List EntD)(n:Nat),ordD l=true->ordD (l.drop n)=true
 | l,0,h=>h
 | [],n+1,_=>rfl
 | x::l,n+1,h=>by
  have h2:ordD l=true:=by cases l with|nil=>rfl|cons y l=>rw[ordD,eU]at h;exact h.2
  exact LN l n h2
theorem LO:∀(l:List EntD)(n:Nat),ordD l=true->ordD (l.take n)=true
 | _,0,_=>by simp[ordD]
 | [],n+1,_=>by simp[ordD]
 | [x],n+1,_=>by simp[ordD]
 | x::y::l,1,_=>by simp[ordD]
 | x::y::l,n+2,h=>by
  rw[ordD,eU]at h;have:=LO (y::l) (n+1) h.2;simp only[List.take_succ_cons]at this ⊢;rw[ordD,eU];exact⟨h.1,this⟩
theorem Qo{c:Int}{l:List EntD}{x:EntD}(h:firstOk c l=true)(hx:c<=x.at_):firstOk c (l++[x])=true:=by
 cases l with
 | nil=>simpa[firstOk]using hx
 | cons e l=>simpa[firstOk]using h
theorem Tr.snoc{u:Int}{m m':MchD}{l r:List EntD}{O:List OutD}(h:Tr u m l O m' r){x:EntD}(hx:u<=x.at_):Tr u m (l++[x]) O m' (r++[x]):=by
 induction h with
 | nil h1 h2=>exact .nil h1 (Qo h2 (by omega))
 | ev h1 h2 _ ih=>exact .ev h1 h2 ih
 | @go m l O m' r h1 h2 h3 h4 _ ih =>
  refine .go h1 h2 h3 (fun e he=>?_) ih;cases l with
  | nil=>simp at he;subst he;omega
  | cons a l=>exact h4 e (by simpa using he)
 | clk h1 h2 h3 h4 _ ih=>exact .clk h1 h2 h3 h4 ih
theorem Tr.comp{u u':Int}{m m' m2:MchD}{l r r2:List EntD}{O O2:List OutD}(h:Tr u m l O m' r)(hu:u<=u')(h2:Tr u' m' r O2 m2 r2):Tr u' m l (O++O2) m2 r2:=by
 induction h with
 | nil _ _=>exact h2
 | ev h1 h3 _ ih=>exact .ev (by omega) h3 (ih h2)
 | go h1 h3 h4 h5 _ ih=>rw[fL];exact .go (by omega) h3 h4 h5 (ih h2)
 | clk h1 h3 h4 h5 _ ih=>rw[fL];exact .clk (by omega) h3 h4 h5 (ih h2)
abbrev appL(m:MchD)(l:List EntD):MchD:=l.foldl (fun x e=>(applyD x e.ev).1) m
theorem Tr.evs{u:Int}:∀(l:List EntD){m m':MchD}{l2 r:List EntD}{O:List OutD},m.count<u->(∀e∈l,e.at_=m.count/\e.ev.kind≠1)->Tr u (appL m l) l2 O m' r->Tr u m (l++l2) O m' r
 | [],_,_,_,_,_,_,_,h=>h
 | e::l,m,m',l2,r,O,hc,he,h=>by
  obtain⟨e1,e2⟩:=he e (fB ..);have ih:=Tr.evs l (m:=(applyD m e.ev).1) (by rw[CC];exact hc) (fun x hx=>by rw[CC];exact he x (eW _ hx)) h;have hE:e=⟨m.count,e.ev⟩:=by cases e;simp only at e1;subst e1;rfl
  rw[hE];exact .ev hc e2 ih
def Rb(m0:MchD)(H:List EntD)(O:List OutD)(m:MchD):Prop :=
 ∃m1 rest,Tr m.count m0 H O m1 rest/\appL m1 rest=m/\∀e∈rest,e.at_=m.count/\e.ev.kind≠1
theorem Rb.nil(m:MchD):Rb m [] [] m:=⟨m,[],.nil rfl rfl,rfl,by simp⟩
theorem Rb.ev{m0 m:MchD}{H:List EntD}{O:List OutD}(h:Rb m0 H O m){e:EvD}(he:e.kind≠1):Rb m0 (H++[⟨m.count,e⟩]) O (applyD m e).1:=by
 obtain⟨m1,rest,h1,h2,h3⟩:=h;have hc:=CC m e;refine⟨m1,rest++[⟨m.count,e⟩],by rw[hc];exact h1.snoc (Int.le_refl _),?_,fun x hx=>?_⟩
 ·show List.foldl _ _ _=_;rw[List.foldl_append];show(applyD (appL m1 rest) e).1=_;rw[h2]
 rw[hc];rcases List.mem_append.1 hx with q|q
 ·exact h3 x q
 rw[List.mem_singleton.1 q];exact⟨rfl,he⟩
theorem Rb.go{m0 m:MchD}{H:List EntD}{O:List OutD}(h:Rb m0 H O m)(hr:runsD m=true)(hd:readsD m=false):Rb m0 H (O++(goD m 0).2) (goD m 0).1:=by
 obtain⟨m1,rest,h1,h2,h3⟩:=h;have hc:=FI m 0;have hm1:=h1.end_cnt;refine⟨(goD m 0).1,[],?_,rfl,by simp⟩;rw[hc];refine h1.comp (by omega) ?_;have:=Tr.evs (u:=m.count+1) rest (m:=m1) (m':=(goD m 0).1) (l2:=[]) (r:=[]) (O:=(goD m 0).2) (by omega) (fun e he=>by rw[hm1];exact h3 e he) (by
  rw[h2];have:=Tr.go (u:=m.count+1) (m:=m) (l:=[]) (O:=[]) (m':=(goD m 0).1) (r:=[]) (by omega) hr hd (by simp) (.nil (by omega) rfl);rwa[f7]at this)
 rwa[f7]at this
theorem Rb.clk{m0 m:MchD}{H:List EntD}{O:List OutD}(h:Rb m0 H O m){k:Int}(hk:W32 k)(hr:runsD m=true)(hd:readsD m=true):Rb m0 (H++[⟨m.count,⟨1,k,[]⟩⟩]) (O++(goD m k).2) (goD m k).1:=by
 obtain⟨m1,rest,h1,h2,h3⟩:=h;have hc:=FI m k;have hm1:=h1.end_cnt;refine⟨(goD m k).1,[],?_,rfl,by simp⟩;rw[hc];refine(h1.snoc (x:=⟨m.count,⟨1,k,[]⟩⟩) (Int.le_refl _)).comp (by omega) ?_;refine Tr.evs (u:=m.count+1) rest (m:=m1) (by omega) (fun e he=>by rw[hm1];exact h3 e he) ?_;rw[h2];have:=Tr.clk (u:=m.count+1) (m:=m) (k:=k) (l:=[]) (O:=[]) (m':=(goD m k).1) (r:=[]) (by omega) hk hr hd (.nil (by omega) rfl);rwa[f7]at this
theorem XG(m:MchD)(p k k':Int)(h:p≠2):AQ m p k=AQ m p k':=by
 unfold AQ
 (repeat' split)<;>first|rfl|(exfalso;omega)
theorem go_clk{m:MchD}(hr:runsD m=true)(hd:readsD m=false)(k k':Int):goD m k=goD m k':=by
 have h:¬((GZ m).kind=1/\(GZ m).port=2):=by
  intro q;unfold readsD at hd;rw[hr,q.1,q.2]at hd;simp at hd
 have hE:Bl (Cu m) (GZ m) k m.count=Bl (Cu m) (GZ m) k' m.count:=by
  unfold Bl;by_cases h1:(GZ m).kind=1
  ·rw[if_pos h1,if_pos h1,XG _ _ k k' (fun z=>h ⟨h1,z⟩)]
  rw[if_neg h1,if_neg h1]
 unfold goD;rw[hE]
def Rr(m0:MchD)(H:List EntD)(r:RecD)(O:List OutD):Prop:=Rb m0 (H++r.log) O r.m
theorem Rr.offer{m0:MchD}{H:List EntD}{r:RecD}{O:List OutD}(h:Rr m0 H r O){e:EvD}(he:e.kind≠1):Rr m0 H (AZ r e) O:=by
 unfold AZ;split
 ·show Rb m0 (H++(r.log++[⟨r.m.count,e⟩])) O (applyD r.m e).1;rw[<- fL];exact Rb.ev h he
 exact h
theorem Rr.tick{m0:MchD}{H:List EntD}{r:RecD}{O:List OutD}(h:Rr m0 H r O):Rr m0 H (BM r) O:=by
 unfold BM;split
 ·exact h.offer (by decide)
 exact h
theorem NE{m:MchD}(hm:mayD m=true)(h:Em m≠true)(hc:m.count<=1152921504606846976):runsD m=true:=by
 unfold Em at h;rw[ne_eq,Bool.not_eq_true]at h;simp only[Bool.or_eq_false_iff,decide_eq_false_iff_not]at h;obtain⟨⟨h1,h2⟩,h3⟩:=h;unfold runsD;rw[hm,h1,h2];simp;omega
theorem Rr.go{m0:MchD}{H:List EntD}{r:RecD}{O:List OutD}(h:Rr m0 H r O)(hk:W32 r.clock)(hr:runsD r.m=true):Rr m0 H (goR r).1 (O++(goR r).2):=by
 have hs:stepD r.m r.clock=goD r.m r.clock:=by unfold stepD;rw[if_pos hr]
 unfold goR I6 Rr;rw[hs];cases hd:readsD r.m with
 | true =>
  simp only[if_true];rw[<- fL];exact Rb.clk h hk hr hd
 | false =>
  simp only[fU,if_false];rw[go_clk hr hd r.clock 0];exact Rb.go h hr hd
theorem Rr.run{m0:MchD}{H:List EntD}:∀(n:Nat){r:RecD}{k:Nat}{O:List OutD},Rr m0 H r O->OkR r k->mayD r.m=true->Rr m0 H (Dz n r []).1 (O++(Dz n r []).2)/\∀o,Dz n r o=((Dz n r []).1,o++(Dz n r []).2)
 | 0,r,k,O,h,_,_=>⟨by simpa[Dz]using h,fun o=>by simp[Dz]⟩
 | n+1,r,k,O,h,hR,hm=>by
  obtain⟨h1,-⟩:=hR.tick;have h2:=h.tick;have hm2:mayD (BM r).m=true:=by
   unfold BM;split
   ·unfold AZ;split
    ·exact CO hR.m hm _
    exact hm
   exact hm
  by_cases hs:Em (BM r).m=true
  ·refine⟨?_,fun o=>?_⟩
   ·unfold Dz;rw[if_pos hs,f7];exact h2
   unfold Dz;rw[if_pos hs,if_pos hs,f7]
  have hr:=NE hm2 hs (by have:=((CJ _).1 hm2).n;omega);have h3:=h2.go h1.c hr;have hm3:mayD (goR (BM r)).1.m=true:=Gm h1.m hm2 _;obtain⟨a1,a2⟩:=Rr.run n h3 h1.go hm3;have e1:∀o,Dz (n+1) r o=Dz n (goR (BM r)).1 (o++(goR (BM r)).2):=fun o=>by rw[Dz,if_neg hs]
  refine⟨?_,fun o=>?_⟩
  ·rw[e1,a2];simp only[f9];rw[<- fL];exact a1
  rw[e1,e1,a2,a2 ([]++_)];simp
theorem Rr.offers{m0:MchD}{H:List EntD}{O:List OutD}:∀(l:List EvD){r:RecD},Rr m0 H r O->(∀e∈l,e.kind≠1)->Rr m0 H (l.foldl AZ r) O
 | [],_,h,_=>h
 | e::l,r,h,hl=>Rr.offers l (h.offer (hl e (fB ..))) (fun x hx=>hl x (eW _ hx))
theorem Fe:∀(l:List EvD){r:RecD}{k:Nat},OkR r k->(∀e∈l,OkV e)->mayD r.m=true->mayD (l.foldl AZ r).m=true
 | [],_,_,_,_,h=>h
 | e::l,r,k,hR,hl,h=>by
  obtain⟨h1,-⟩:=hR.offer (hl e (fB ..));refine Fe l h1 (fun x hx=>hl x (eW _ hx)) ?_;unfold AZ;split
  ·exact CO hR.m h _
  exact h
theorem V7{m0:MchD}{H:List EntD}{O:List OutD}{r:RecD}(h:Rb m0 H O r.m)(hl:r.log=[])(hR:OkR r 0)(hm:mayD r.m=true)(hq:∀e∈r.queue,e.kind≠1){clock:Int}(hc:W32 clock)(steps:Int):
  Rb m0 (H++(Dl r steps clock).1.log) (O++(Dl r steps clock).2) (Dl r steps clock).1.m:=by
 have h0:Rr m0 H {r with clock:=max r.clock clock} O:=by
  show Rb m0 (H++r.log) O r.m;rw[hl,f7];exact h
 have hR0:OkR {r with clock:=max r.clock clock} 0:=⟨hR.m,Qx hR.c hc,hR.l,hR.q,hR.v,hR.t⟩;have h1:Rr m0 H (Cb r clock) O:=Rr.offers r.queue h0 hq;have h2:mayD (Cb r clock).m=true:=Fe r.queue hR0 hR.v hm;obtain⟨a1,-⟩:=Rr.run (DY steps) h1 (hR.queue hc) h2;unfold Dl;rw[if_pos hm];exact a1
theorem PU:∀(l k:List OutD)(b:Int),heldOk b (l++k)=true->heldOk b l=true
 | [],_,_,_=>rfl
 | o::l,k,b,h=>by
  rw[fW,heldOk,eU]at h;rw[heldOk,eU];exact⟨h.1,PU l k o.at_ h.2⟩
abbrev conO(o:OutD):Bool:=decide (o.kind=1)||decide (o.kind=2)
structure Oo(b c:Int)(O:List OutD):Prop where
 a:∀o∈O,b<=o.at_/\o.at_<c
 f:∀o∈O,conO o=true->fitsD o=true
 s:heldOk b (O.filter conO)=true
theorem M5:∀(l:List OutD)(b:Int)(o:OutD),heldOk b l=true->fitsD o=true->b<=o.at_->(∀x∈l,x.at_<=o.at_)->heldOk b (l++[o])=true
 | [],b,o,_,hf,hb,_=>by simp[heldOk,hf,hb]
 | x::l,b,o,h,hf,hb,hl=>by
  rw[heldOk,eU]at h;rw[fW,heldOk,eU];exact⟨h.1,M5 l x.at_ o h.2 hf (hl x (fB ..)) (fun y hy=>hl y (eW _ hy))⟩
theorem Oo.up{b c c':Int}{O:List OutD}(h:Oo b c O)(hc:c<=c'):Oo b c' O:=⟨fun o ho=>by have:=h.a o ho;omega,h.f,h.s⟩
theorem Oo.snoc{b c:Int}{O:List OutD}(h:Oo b c O){o:OutD}(ho:o.at_=c)(hb:b<=c)(hf:conO o=true->fitsD o=true):Oo b (c+1) (O++[o]):=by
 refine⟨fun x hx=>?_,fun x hx=>?_,?_⟩
 ·rcases List.mem_append.1 hx with q|q
  ·have:=h.a x q;omega
  rw[List.mem_singleton.1 q];omega
 ·rcases List.mem_append.1 hx with q|q
  ·exact h.f x q
  rw[List.mem_singleton.1 q];exact hf
 rw[List.filter_append];cases hc:conO o with
 | true =>
  rw[show [o].filter conO=[o] by simp[hc]];refine M5 _ b o h.s (hf hc) (by omega) (fun x hx=>?_);have:=h.a x (List.mem_filter.1 hx).1;omega
 | false=>rw[show [o].filter conO=[] by simp[hc],f7];exact h.s
abbrev Og(t:Int)(o:OutD):Prop:=o.at_=t/\(conO o=true->fitsD o=true)
theorem bB(d:DskD)(l:List Int){c:Int}(hc:c=1\/c=2)(t:Int):∀o∈(Ap d l c t).2,Og t o:=by
 intro o ho;unfold Ap at ho;split at ho
 ·simp at ho
 split at ho
 ·simp at ho
 rw[List.mem_singleton.1 ho];unfold BK;rcases hc with rfl|rfl<;>exact⟨by simp,by simp[conO]⟩
theorem Zo(d:DskD)(l:List Int)(p v t:Int):∀o∈(Am d l p v t).2,Og t o:=by
 unfold Am
 (repeat' split)<;>first|(rename_i q;exact bB _ _ q _)|simp
theorem bL(n:NicD)(l:List Int)(p v t:Int):∀o∈(Ag n l p v t).2,Og t o:=by
 unfold Ag;split
 ·simp
 split
 ·simp
 split
 ·split
  ·simp only;split
   ·rename_i q;intro o ho;rw[List.mem_singleton.1 ho];refine⟨rfl,fun _=>?_⟩;have:((Bm l n.frame).take n.len.toNat).length<=128:=by rw[fE];omega
    simp only[fitsD];simp;omega
   simp
  (repeat' split)<;>simp
 simp
theorem VV(m:MchD)(p v t:Int):∀o∈(AH m p v t).2,Og t o:=by
 unfold AH;split
 ·intro o ho;rw[List.mem_singleton.1 ho];exact⟨rfl,fun _=>by simp[fitsD]⟩
 (repeat' split)<;>first|exact Zo _ _ _ _ _|exact bL _ _ _ _ _|simp
theorem go_con(m:MchD)(k:Int):∀o∈(goD m k).2,Og m.count o:=by
 show ∀o∈(Bl _ _ _ _).2,_;unfold Bl
 (repeat' split)<;>first|exact VV _ _ _ _|simp
theorem Tr.outs{u:Int}{m m':MchD}{l r:List EntD}{O:List OutD}(h:Tr u m l O m' r):∀{b:Int}{P:List OutD},b<=m.count->Oo b m.count P->Oo b u (P++O):=by
 have hgo:∀{m:MchD}{b:Int}{P:List OutD}(k:Int),runsD m=true->b<=m.count->Oo b m.count P->Oo b (m.count+1) (P++(goD m k).2):=by
  intro m b P k hr hb hP;have h1:=go_con m k;have h2:(goD m k).2.length<=1:=by have:=DR m k;unfold stepD at this;rwa[if_pos hr]at this
  generalize (goD m k).2=q at h1 h2
  match q,h1,h2 with
  | [],_,_=>rw[f7];exact hP.up (by omega)
  | [o],h1,_=>exact hP.snoc (h1 o (List.mem_singleton.2 rfl)).1 hb (h1 o (List.mem_singleton.2 rfl)).2
  | a::b::q,_,h2=>simp at h2
 induction h with
 | nil h1 _=>intro b P hb hP;rw[f7];rw[<- h1];exact hP
 | @ev m e l O m' r h1 h2 h3 ih=>intro b P hb hP;exact ih (by rw[CC];exact hb) (by rw[CC];exact hP)
 | @go m l O m' r h1 h2 h3 h4 h5 ih =>
  intro b P hb hP;rw[<- fL];exact ih (by rw[FI];omega) (by rw[FI];exact hgo 0 h2 hb hP)
 | @clk m k l O m' r h1 h2 h3 h4 h5 ih =>
  intro b P hb hP;rw[<- fL];exact ih (by rw[FI];omega) (by rw[FI];exact hgo k h3 hb hP)
theorem Rb.outs{m0 m:MchD}{H:List EntD}{O:List OutD}(h:Rb m0 H O m):Oo m0.count m.count O:=by
 obtain⟨m1,rest,h1,-,-⟩:=h;have:=h1.outs (b:=m0.count) (P:=[]) (Int.le_refl _) ⟨by simp,by simp,rfl⟩;simpa using this
theorem Kq:∀(l:List OutD)(g:GateD),(∀o∈l,g.acked<=o.at_)->l.foldl DX g={g with held:=g.held++l.filter conO}
 | [],g,_=>by simp
 | o::l,g,h=>by
  have h1:=h o (fB ..);rw[List.foldl_cons];cases hc:conO o with
  | true =>
   have e:DX g o={g with held:=g.held++[o]}:=by
    unfold DX;simp[conO]at hc;rw[if_neg (by omega),if_pos h1]
   rw[e,Kq l {g with held:=g.held++[o]} (fun x hx=>h x (eW _ hx)),List.filter_cons_of_pos hc];simp
  | false =>
   have e:DX g o=g:=by
    unfold DX;simp[conO]at hc;rw[if_pos hc]
   rw[e,Kq l _ (fun x hx=>h x (eW _ hx)),List.filter_cons_of_neg (by simp[hc])]
theorem hold_b{b c:Int}{P Q:List OutD}{g:GateD}(hg:g.held=P.filter conO)(ha:g.acked=b)(h:Oo b c (P++Q)):(GH g Q).1={g with held:=(P++Q).filter conO}:=by
 have h1:=Kq Q g (fun o ho=>by rw[ha];exact(h.a o (List.mem_append_right _ ho)).1);have h2:DI (Q.foldl DX g)=true:=by
  rw[h1];unfold DI;simp only;rw[hg,<- List.filter_append,ha];exact h.s
 unfold GH;split
 ·rw[h1];simp only;rw[hg,List.filter_append]
 rename_i q;exfalso;apply q;refine⟨?_,h2⟩;have hs:=h.s;unfold DI;rw[hg,ha];rw[List.filter_append]at hs;exact PU _ _ _ hs
def Rk(c:Int)(e:EntD):Bool:=decide (e.at_<=c)&&!decide (e.ev.kind=1)
def evP(p:RplD):RplD:={p with m:=appL p.m (p.log.takeWhile (Rk p.m.count)),log:=p.log.dropWhile (Rk p.m.count)}
def hdE(l:List EntD):EntD:=l.headD ⟨0,⟨0,0,[]⟩⟩
def Je(p:RplD):Bool :=
 if readsD p.m=true then decide ((hdE p.log).ev.kind=1)&&decide ((hdE p.log).at_=p.m.count)else !(decide ((hdE p.log).ev.kind=1)&&decide ((hdE p.log).at_<=p.m.count))
def Ru(p:RplD):RplD×List OutD :=
 if readsD p.m=true then({p with m:=(stepD p.m (hdE p.log).ev.n).1,log:=p.log.tail,clock:=uw ((hdE p.log).ev.n+1)},(stepD p.m (hdE p.log).ev.n).2)
 else({p with m:=(stepD p.m 0).1},(stepD p.m 0).2)
def Gh:Nat->RplD->List OutD->RplD×List OutD
 | 0,p,o=>(p,o)
 | n+1,p,o=>if p.known<=p.m.count then(p,o)else if Em (evP p).m=true\/Je (evP p)=false then(evP p,o)else Gh n (Ru (evP p)).1 (o++(Ru (evP p)).2)
def Cg(p:RplD)(steps:Int):RplD×List OutD:=if mayD p.m=true then Gh (DY steps) p []else(p,[])
theorem JK(n:Nat)(p:RplD)(o:List OutD):Gh (n+1) p o=if p.known<=p.m.count then(p,o)else if Em (evP p).m=true\/Je (evP p)=false then(evP p,o)else Gh n (Ru (evP p)).1 (o++(Ru (evP p)).2):=rfl
theorem LU:∀(n:Nat)(p:RplD)(o:List OutD),Gh n p o=((Gh n p []).1,o++(Gh n p []).2)
 | 0,p,o=>by simp[Gh]
 | n+1,p,o=>by
  unfold Gh;split
  ·simp
  split
  ·simp
  rw[LU n _ (o++_),LU n _ ([]++_)];simp
structure OkJ(p:RplD):Prop where
 m:OkM p.m
 e:∀e∈p.log,OkT e
 k:L64 p.known
theorem SD:∀(l:List EntD)(m:MchD),OkM m->(∀e∈l,OkT e)->OkM (appL m l)
 | [],m,h,_=>h
 | e::l,m,h,hl=>SD l _ (DU h (hl e (fB ..)).n).1 (fun x hx=>hl x (eW _ hx))
theorem Ov:∀(l:List EntD)(m:MchD),OkM m->(∀e∈l,OkT e)->mayD m=true->mayD (appL m l)=true
 | [],m,h,_,hm=>hm
 | e::l,m,h,hl,hm=>Ov l _ (DU h (hl e (fB ..)).n).1 (fun x hx=>hl x (eW _ hx)) (CO h hm e.ev)
theorem OkJ.ev{p:RplD}(h:OkJ p):OkJ (evP p) :=
 ⟨SD _ _ h.m fun e he=>h.e e ((List.takeWhile_sublist _).subset he),fun e he=>h.e e ((List.dropWhile_sublist _).subset he),h.k⟩
theorem OkJ.may{p:RplD}(h:OkJ p)(hm:mayD p.m=true):mayD (evP p).m=true:=Ov _ _ h.m (fun e he=>h.e e ((List.takeWhile_sublist _).subset he)) hm
theorem PM{p:RplD}{e:EntD}{r:List EntD}(hl:p.log=e::r)(hd:Rk p.m.count e=true):evP p=evP {p with m:=(applyD p.m e.ev).1,log:=r}:=by
 unfold evP;simp only[hl,CC];rw[List.takeWhile_cons_of_pos hd,List.dropWhile_cons_of_pos hd];rfl
theorem IF{p:RplD}(h:∀e r,p.log=e::r->Rk p.m.count e=false):evP p=p:=by
 obtain⟨m,l,k,c⟩:=p;unfold evP;cases l with
 | nil=>rfl
 | cons e r =>
  have hd:=h e r rfl;simp only at hd ⊢;rw[List.takeWhile_cons_of_neg (by simp[hd]),List.dropWhile_cons_of_neg (by simp[hd])];rfl
theorem Uw{m:MchD}(h:runsD m=true):¬Em m=true:=by
 unfold runsD at h;unfold Em;simp only[eU,gC,decide_eq_true_eq]at h;obtain⟨⟨⟨_,h1⟩,h2⟩,h3⟩:=h;have h4:¬m.count=1152921504606846976:=by omega
 simp[h1,h2,h4]
theorem Tr.repl{u:Int}{m m':MchD}{l r:List EntD}{O:List OutD}(h:Tr u m l O m' r):∀(n:Nat)(p:RplD),p.m=m->p.log=l->p.known=u->(u-m.count).toNat<=n->OkJ p->mayD m=true->∃c,Gh n p []=(⟨m',r,u,c⟩,O):=by
 induction h with
 | @nil m l h1 h2 =>
  intro n p hm hl hk hn hJ hmay;refine⟨p.clock,?_⟩;cases n with
  | zero=>unfold Gh;rw[<- hm,<- hl,<- hk]
  | succ n=>unfold Gh;rw[if_pos (by rw[hk,hm,h1];omega),<- hm,<- hl,<- hk]
 | @ev m e l O m' r h1 h2 h3 ih =>
  intro n p hm hl hk hn hJ hmay;have hd:Rk m.count ⟨m.count,e⟩=true:=by simp[Rk,h2]
  have hE:OkT ⟨m.count,e⟩:=hJ.e _ (by rw[hl];exact fB ..);have hM:OkM m:=by rw[<- hm];exact hJ.m
  obtain⟨c,hc⟩:=ih n ⟨(applyD m e).1,l,p.known,p.clock⟩ rfl rfl hk (by rw[CC];exact hn) ⟨(DU hM hE.n).1,fun x hx=>hJ.e x (by rw[hl];exact eW _ hx),hJ.k⟩ (CO hM hmay e);refine⟨c,?_⟩;rw[<- hc];have hev:evP p=evP ⟨(applyD m e).1,l,p.known,p.clock⟩:=by
   have:=PM hl (by rw[hm];exact hd);rw[hm]at this;exact this
  obtain⟨n,rfl⟩:∃q,n=q+1:=⟨n-1,by omega⟩;rw[JK,JK,hev];simp only[hm,CC];rw[if_neg (show ¬p.known<=m.count by omega),if_neg (show ¬p.known<=m.count by omega)]
 | @go m l O m' r h1 h2 h3 h4 h5 ih =>
  intro n p hm hl hk hn hJ hmay;have hM:OkM m:=by rw[<- hm];exact hJ.m
  have hev:evP p=p:=IF fun e r hx=>by
   rw[hl]at hx;have:=h4 e (by rw[hx];rfl);rw[hm];simp[Rk];omega
  obtain⟨n,rfl⟩:∃q,n=q+1:=⟨n-1,by omega⟩;have hs:stepD m 0=goD m 0:=by unfold stepD;rw[if_pos h2]
  have hcnt:=FI m 0;obtain⟨c,hc⟩:=ih n ⟨(goD m 0).1,l,p.known,p.clock⟩ rfl rfl hk (by omega) ⟨(M3 hM h2 BD).1,fun x hx=>hJ.e x (by rw[hl];exact hx),hJ.k⟩ ((CJ _).2 (H8 hM h2 0));refine⟨c,?_⟩;have hst:=Uw h2;have hp:Je p=true:=by
   unfold Je;rw[hm,hl,if_neg (by simp[h3])];cases l with
   | nil=>simp[hdE]
   | cons e l=>have:=h4 e rfl;simp[hdE];omega
  rw[JK,if_neg (by rw[hk,hm];omega),hev,if_neg (by rw[hm];simp[hst,hp]),LU];have e1:Ru p=(⟨(goD m 0).1,l,p.known,p.clock⟩,(goD m 0).2):=by
   unfold Ru;rw[hm,hl,if_neg (by simp[h3]),hs]
  rw[e1,hc];simp
 | @clk m k l O m' r h1 hk' h2 h3 h5 ih =>
  intro n p hm hl hk hn hJ hmay;have hM:OkM m:=by rw[<- hm];exact hJ.m
  have hd:Rk m.count ⟨m.count,⟨1,k,[]⟩⟩=false:=by simp[Rk]
  have hev:evP p=p:=IF fun e r hx=>by
   rw[hl]at hx;cases hx;rw[hm];exact hd
  obtain⟨n,rfl⟩:∃q,n=q+1:=⟨n-1,by omega⟩;have hs:stepD m k=goD m k:=by unfold stepD;rw[if_pos h2]
  have hcnt:=FI m k;obtain⟨c,hc⟩:=ih n ⟨(goD m k).1,l,p.known,uw (k+1)⟩ rfl rfl hk (by omega) ⟨(M3 hM h2 hk').1,fun x hx=>hJ.e x (by rw[hl];exact eW _ hx),hJ.k⟩ ((CJ _).2 (H8 hM h2 k));refine⟨c,?_⟩;have hst:=Uw h2;have hp:Je p=true:=by
   unfold Je;rw[hm,hl,if_pos h3];simp[hdE]
  rw[JK,if_neg (by rw[hk,hm];omega),hev,if_neg (by rw[hm];simp[hst,hp]),LU];have e1:Ru p=(⟨(goD m k).1,l,p.known,uw (k+1)⟩,(goD m k).2):=by
   unfold Ru;rw[hm,hl,if_pos h3];simp[hdE,hs]
  rw[e1,hc];simp
abbrev cP(p:RplD):Ob:=⟨48,52,true,false,[p.row]⟩
def ZQ(R:Nat)(Y:LoopD)(pp i1 i2 bid:Nat)(asg bod:List Oper):Prop :=
 ∀(p:RplD)(e:EvD)(nx:Nat)(ob:List (Nat×Option Ob)),OkM p.m->W32 e.n->e.data.length<=100000->lookO ob R=some (cP p)->R<nx->∀K:Nat->List (Nat×Option Ob)->Prop,
  (∀nx' ob',lookO ob' R=some (cP {p with m:=(applyD p.m e).1})->nx<=nx'->(∀q,q<nx->q≠R->lookO ob' q=lookO ob q)->K nx' ob')->rndV glo0 prog Y pp i1 i2 bid asg bod (.st e.row) nx ob K
theorem Zp(R a b:Nat)(p:RplD)(k:Int)(hM:OkM p.m)(hE:∀e∈p.log,W32 e.ev.n/\e.ev.data.length<=100000)(hk:k=p.m.count){nx:Nat}{ob:List (Nat×Option Ob)}(hR:lookO ob R=some (cP p))
  (ha:lookO ob a=some ⟨224,1,true,false,[[.ptr R 52 0 49]]⟩) (hb:lookO ob b=some ⟨24,1,true,false,[[lv k]]⟩) (n1:a≠R) (n2:b≠R) (n3:R<nx) (n4:a<nx) (n5:b<nx)
  {l:Nat} {Y:LoopD} {pp i1 i2 bid:Nat} {asg bod:List Oper} (hY:LoopOk prog Y pp i1 i2 bid asg bod) (hr:ZQ R Y pp i1 i2 bid asg bod) :
  @Bt (gly glo0 l Y) prog 184 [.yld l,.ptr a 1 0 0,.ptr b 1 0 0] nx ob fun r nx' ob'=>lookO ob' R=some (cP (evP p))/\nx<=nx'/\∀q,q<nx->q≠R->lookO ob' q=lookO ob q:=by
 letI:Glo:=gly glo0 l Y
 refine sIX func184 ntmps184 ?_;(repeat intro K hK);apply wr;refine Ad (p.log.length+1) ?_;refine BH (fun c stt=>∃(T:List (Nat×V))(x:Nat)(o:List (Nat×Option Ob))(z:RplD),stt=⟨46,T,x,o,nx⟩/\(lkT T 0=.yld l/\lkT T 1=.ptr a 1 0 0/\lkT T 2=.ptr b 1 0 0)/\z.log.length<=c/\evP z=evP p/\z.m.count=k/\OkM z.m/\(∀e∈z.log,W32 e.ev.n/\e.ev.data.length<=100000)/\lookO o R=some (cP z)/\nx<=x/\∀q,q<nx->q≠R->lookO o q=lookO ob q) ?_ _ _ ⟨_,nx,ob,p,rfl,by simp[lkT],fA _,rfl,hk.symm,hM,hE,hR,fA _,fun q _ _=>rfl⟩;rintro c stt ⟨T,x,o,z,rfl,⟨t0,t1,t2⟩,hc,hev,hzk,hzM,hzE,hzR,hx,hq⟩ Kl hKl;refine Bp [(0,.yld l),(1,.ptr a 1 0 0),(2,.ptr b 1 0 0)] (by simp[t0,t1,t2]) ?_;have hoa:lookO o a=some ⟨224,1,true,false,[[.ptr R 52 0 49]]⟩:=(hq a n4 n1).trans ha;have hobb:lookO o b=some ⟨24,1,true,false,[[lv k]]⟩:=(hq b n5 n2).trans hb;obtain⟨zm,zl,zk,zc⟩:=z;simp only at hzk hzM hzE hc;cases zl with
 | nil =>
  have hfin:evP p=⟨zm,[],zk,zc⟩:=by rw[<- hev];rfl
  refine au ?_;(repeat intro K hK);apply wr;refine AG 25 [0,1,3,7,15,31,63,127,255,511,1023,2047,63,8191,16383,32767,65535,131071,262143,524287,1048575,2097151,4194303,8388607,16777215] [(1,([],[])),(1,([],[])),(1,([],[])),(1,([],[])),(1,([],[])),(1,([],[])),(7,([[],[0],[0,1],[0,1,2],[0,1,2,3],[0,1,2,3,4],[]],[])),(1,([],[])),(1,([],[])),(1,([],[])),(1,([],[])),(1,([],[])),(1,([],[])),(1,([],[])),(1,([],[])),(1,([],[])),(1,([],[])),(1,([],[])),(1,([],[]))] ?_;refine af1 (kX3 @hoa @hobb @hzR) ?_;refine BU ?_;(repeat intro K hK);apply wr;first|exact hq|exact⟨by rw[hzR,hfin],hx,hq⟩
 | cons e r =>
  have hl:=BA r;have he:=hzE e (fB ..);have hpos:(0:Int)<(ents r).length+1:=by omega
  have hcons:ents (e::r)=e.row::ents r:=rfl;obtain⟨c,rfl⟩:∃q,c=q+1:=⟨c-1,by simp at hc;omega⟩;by_cases h1:e.at_<=k
  ·by_cases h2:e.ev.kind=1
   ·have hfin:evP p=⟨zm,e::r,zk,zc⟩:=by
     rw[<- hev];exact IF fun e' r' hh=>by cases hh;simp[Rk,h2]
    have b1:decide (e.at_<=k)=true:=by simpa using h1
    have b2:(e.ev.kind != 1)=false:=by simp[h2]
    refine af ?_;(repeat intro K hK);apply wr;refine AG 25 [0,1,3,7,15,31,63,127,255,511,1023,2047,63,8191,16383,32767,65535,131071,262143,524287,1048575,2097151,4194303,8388607,16777215] [(1,([],[])),(1,([],[])),(1,([],[])),(1,([],[])),(1,([],[])),(1,([],[])),(7,([[],[0],[0,1],[0,1,2],[0,1,2,3],[0,1,2,3,4],[]],[])),(1,([],[])),(1,([],[])),(1,([],[])),(1,([],[])),(1,([],[])),(1,([],[])),(1,([],[])),(1,([],[])),(1,([],[])),(1,([],[])),(1,([],[])),(1,([],[]))] ?_;refine af1 (kX8 @hoa @hobb @hzR @hcons @hpos @b1 @b2 @h1) ?_;refine Ae @h2 ?_;(repeat intro K hK);apply wr;first|exact hq|exact⟨by rw[hzR,hfin],hx,hq⟩
   have b1:decide (e.at_<=k)=true:=by simpa using h1
   have b2:(e.ev.kind != 1)=true:=by simp[h2]
   refine af ?_;(repeat intro K hK);apply wr;refine AG 25 [0,1,3,7,15,31,63,127,255,511,1023,2047,63,8191,16383,32767,65535,131071,262143,524287,1048575,2097151,4194303,8388607,16777215] [(1,([],[])),(1,([],[])),(1,([],[])),(1,([],[])),(1,([],[])),(1,([],[])),(7,([[],[0],[0,1],[0,1,2],[0,1,2,3],[0,1,2,3,4],[]],[])),(1,([],[])),(1,([],[])),(1,([],[])),(1,([],[])),(1,([],[])),(1,([],[])),(1,([],[])),(1,([],[])),(1,([],[])),(1,([],[])),(1,([],[])),(1,([],[]))] ?_;refine af1 (kX8 @hoa @hobb @hzR @hcons @hpos @b1 @b2 @h1) ?_;(repeat intro K hK);apply wr;refine cT1 @h2 rfl ?_;have ne1:¬a=x:=by omega
   have ne2:¬b=x:=by omega
   have ne3:¬R=x:=by omega
   have ne4:¬x=R:=by omega
   refine af1 (kX8 @hoa @hobb @hzR @hcons @hpos @ne1 @ne2 @ne3) ?_;(repeat intro K hK);apply wr;have hkx:Bx _:=⟨hK⟩;clear hK;refine AG 7 [0,0,2,6,14,31,63] [(5,([[],[],[1],[1,2],[1,2,3]],[])),(1,([],[])),(1,([],[]))] ?_;refine af1 (kX9 @hoa @hobb @hzR @hcons @hpos @ne1 @ne2 @ne3 @ne4) ?_;(repeat intro K hK);apply wr;refine hkx.out _ ?_;clear hkx;refine SJ ?_;refine N7 (g:=glo0) (l:=l) (pre:=[_,_]) (post:=[_]) hY rfl rfl (by kernel_rfl) (by kernel_rfl) ?_;simp[ne4];refine hr ⟨zm,r,zk,zc⟩ e.ev (x+1) _ hzM he.1 he.2 (by simp[lookO]) (by omega) _ fun nx' ob' g1 g2 g3=>?_;have hcnt:=CC zm e.ev;have hnew:evP ⟨(applyD zm e.ev).1,r,zk,zc⟩=evP p:=by
    rw[<- hev];exact(PM (p:=⟨zm,e::r,zk,zc⟩) rfl (by simp[Rk,hzk,h1,h2])).symm
   refine BU ?_;(repeat intro K hK);apply wr;refine hKl c _ rfl ⟨_,nx',ob',⟨(applyD zm e.ev).1,r,zk,zc⟩,rfl,by simp[lkT],by simp at hc;simpa using hc,hnew,by rw[<- hzk];exact hcnt,(DU hzM he.1).1,fun y hy=>hzE y (eW _ hy),g1,by omega,fun q hq1 hq2=>?_⟩;rw[g3 q (by omega) hq2];have hqx:¬q=x:=by omega
   simp[lookO,hq2,hqx];exact hq q hq1 hq2
  have hfin:evP p=⟨zm,e::r,zk,zc⟩:=by
   rw[<- hev];exact IF fun e' r' hh=>by cases hh;simp[Rk,hzk,h1]
  have b1:decide (e.at_<=k)=false:=by simpa using h1
  refine af ?_;(repeat intro K hK);apply wr;refine AG 25 [0,1,3,7,15,31,63,127,255,511,1023,2047,63,8191,16383,32767,65535,131071,262143,524287,1048575,2097151,4194303,8388607,16777215] [(1,([],[])),(1,([],[])),(1,([],[])),(1,([],[])),(1,([],[])),(1,([],[])),(7,([[],[0],[0,1],[0,1,2],[0,1,2,3],[0,1,2,3,4],[]],[])),(1,([],[])),(1,([],[])),(1,([],[])),(1,([],[])),(1,([],[])),(1,([],[])),(1,([],[])),(1,([],[])),(1,([],[])),(1,([],[])),(1,([],[])),(1,([],[]))] ?_;refine af1 (kX7 @hoa @hobb @hzR @hcons @hpos @b1 @h1) ?_;refine BU ?_;(repeat intro K hK);apply wr;first|exact hq|exact⟨by rw[hzR,hfin],hx,hq⟩
theorem En{C D E G:Prop}(c:C)(d:D)(e:E)(t:C->D->E->G:=by intro c d e;(refine af1 e ?_;intros;apply wr);repeat' ((first|(refine AB rfl (fun h=>?_) (fun h=>?_)<;>(first|(simp[e]at h;done)|(simp[e]at h)|skip)<;>(first|(exfalso;omega)|skip))|((first|refine .inl ⟨1,_,d.1,?_⟩|refine⟨1,_,d.1,?_⟩);simp[CZ,C9,noX,Ct,C5,e];first|refine And.intro AP ?_|skip)|((first|refine .inl ⟨1,_,d.2.1,?_⟩|refine⟨1,_,d.2.1,?_⟩);simp[CZ,C9,noX,Ct,C5,e];first|refine And.intro AP ?_|skip)|refine cc1 c.1 e ?_|refine cc1 c.2.1 e ?_|refine cc1 c.2.2.1 e ?_|refine cc1 c.2.2.2.1 e ?_|refine cc1 c.2.2.2.2.1 e ?_|refine cc1 c.2.2.2.2.2.1 e ?_|(refine AG 15 [0,1,3,0,8,24,56,24,152,408,1016,2040,31,4127,16383] [(14,([[],[0],[0,1],[],[3],[3,4],[3,4,5],[3,4],[3,4,7],[3,4,7,8],[3,4,5,6,7,8,9],[3,4,5,6,7,8,9,10],[0,1,2,3,4],[0,1,2,3,4,12]],[])),(1,([],[]))] ?_)|exact rt1 e|fail)<;>(refine af1 e ?_;intros;apply wr))):G:=t c d e
theorem XW(p:RplD)(hM:OkM p.m):AC prog 126 [.st p.row] (.tup [uv (if readsD p.m=true then(hdE p.log).ev.n else 0),.bool (readsD p.m),.bool (Je p)]):=by
 have hrd:=Pr p.m hM;obtain⟨m,l,k,c⟩:=p;simp only at hM hrd;unfold Je;simp only;generalize readsD m=b at *;cases l with
 | nil =>
  have hd0:hdE []=⟨0,⟨0,0,[]⟩⟩:=rfl;cases b with
  | false =>
   refine sZ func126 ntmps126 ?_;exact En (qX1 (hrd)) trivial @hd0
  | true =>
   refine sZ func126 ntmps126 ?_;exact En (qX1 (hrd)) trivial @hd0
 | cons e r =>
  have hcons:ents (e::r)=e.row::ents r:=rfl;have hd1:hdE (e::r)=e:=rfl;have hpos:(0:Int)<(ents r).length+1:=by omega
  by_cases k1:e.ev.kind=1
  ·cases b with
   | false =>
    refine sZ func126 ntmps126 ?_;exact En (qX1 (hrd)) trivial (kX4 @hcons @hpos @k1 @hd1)
   | true =>
    by_cases k2:e.at_=m.count
    ·refine sZ func126 ntmps126 ?_;exact En (qX1 (hrd)) trivial (kX5 @hcons @hpos @k1 @k2 @hd1)
    refine sZ func126 ntmps126 ?_;exact En (qX1 (hrd)) trivial (kX5 @hcons @hpos @k1 @k2 @hd1)
  cases b with
  | false =>
   refine sZ func126 ntmps126 ?_;exact En (qX1 (hrd)) trivial (kX4 @hcons @hpos @k1 @hd1)
  | true =>
   refine sZ func126 ntmps126 ?_;exact En (qX1 (hrd)) trivial (kX4 @hcons @hpos @k1 @hd1)
theorem XZ{nx:Nat}{ob:List (Nat×Option Ob)}(id sz off:Nat)(k:Int):
  Bt prog 125 [.ptr id sz 0 off,lv k] nx ob fun r nx' ob'=>r=.cap 184 [] [some (nx,1),some (nx+1,1)]/\nx'=nx+2/\ob'=(nx+1,some ⟨24,1,true,false,[[lv k]]⟩)::(nx,some ⟨224,1,true,false,[[.ptr id sz 0 off]]⟩)::ob:=by
 refine sIX func125 ntmps125 ?_;exact wx trivial trivial
theorem XL(p:RplD)(steps:Int)(hJ:OkJ p)(hl:p.log.length<=50000)(hd:∀e∈p.log,e.ev.data.length<=100000):AC prog 71 [.st p.row,iv steps] (.tup [.st (Cg p steps).1.row,.sl 4 false (outs (Cg p steps).2)]):=by
 have hmem:=hJ.m.n;have hcop:=JP p (by omega) (by omega);have hmay:=It p.m hJ.m.gv.1 (by have:=hJ.m.gv.2;omega);cases hM:mayD p.m with
 | false =>
  have hE:Cg p steps=(p,[]):=by unfold Cg;rw[hM];rfl
  rw[hM]at hmay;rw[hE];refine sX func71 ntmps71 ?_;refine cX (hcop) ?_;refine cX (hmay) ?_;refine CU ?_;refine aw ?_;simp
 | true =>
  rw[hM]at hmay;refine sX func71 ntmps71 ?_;refine cX (hcop) ?_;refine cX (hmay) ?_;refine CX ?_;(repeat intro K hK);apply wr;refine AU 6 124 4 (by decide) rfl ?_;have hlim:(if 4000<if steps<0 then 0 else steps then 4000 else if steps<0 then 0 else steps)=(DY steps:Int):=by unfold DY;(repeat' split)<;>omega
  have hl4:=OA steps;obtain⟨I,hI⟩:∃I:Nat->St->Prop,I=(fun kk ss=>∃(i:Nat)(z:RplD)(o:List OutD),i<=DY steps/\kk=DY steps-i/\(Gh (DY steps) p []=Gh (DY steps-i) z o/\OkJ z/\(∀e∈z.log,e.ev.data.length<=100000)/\o.length<=i)/\ss=⟨88,[(22,.int .i64 i),(21,.int .i64 (DY steps)),(6,.own 55),(2,.ptr 0 52 0 0),(4,.ptr 1 52 0 0)],56,[(55,some ⟨124,4,false,false,outs o⟩),(0,some (cP z)),(1,some ⟨48,52,true,false,[zMR++[.sl 0 true [],lv 0,uv 0]]⟩)],0⟩):=⟨_,rfl⟩;refine lX1 I (id) (by rw[hI];exact⟨0,p,[],by simp,rfl,⟨rfl,hJ,hd,by simp⟩,rfl⟩) @hlim ?_;intro kk ss hIk _;rw[hI]at hIk;obtain⟨i,z,o,hi,rfl,hx,rfl⟩:=hIk;obtain⟨hx1,hx2,hx3,hx4⟩:=hx;refine au ?_;(repeat intro K hK);apply wr;refine AB rfl (fun hh=>?_) (fun hh=>?_)
  ·simp at hh;rw[show DY steps-i=(DY steps-(i+1))+1 by omega,JK]at hx1;refine au ?_;(repeat intro K hK);apply wr;by_cases hkn:z.known<=z.m.count
   ·rw[if_pos hkn]at hx1;have hE:Cg p steps=(z,o):=by unfold Cg;rw[if_pos hM];exact hx1
    refine EM @hkn ?_;refine aw ?_;simp[hE]
   rw[if_neg hkn]at hx1;refine B1 @hkn ?_;(repeat intro K hK);apply wr;refine cO ?_;refine(XZ 0 52 49 z.m.count).mono fun r nx' ob' hp=>?_;simp only[BS];obtain⟨rfl,rfl,rfl⟩:=hp;simp;refine au ?_;(repeat intro K hK);apply wr;refine Q8 rfl fun fn l dl M0=>?_;refine @Bt.mono (gly glo0 l _) _ _ _ _ _ _ _ (Zp 0 56 57 z z.m.count hx2.m (fun e he=>⟨(hx2.e e he).n,hx3 e he⟩) rfl (by simp[lookO]) (by simp[lookO]) (by simp[lookO]) (by decide) (by decide) (show 0<58 by decide) (show 56<58 by decide) (show 57<58 by decide) (l:=l) (Y:=⟨fn,_,_,_,_,_,_,M0,dl⟩) (pp:=35) (i1:=9) (i2:=10) (bid:=3) ⟨rfl,rfl,rfl,show 35<88 by decide,by kernel_rfl,by kernel_rfl,by kernel_rfl,by kernel_rfl⟩ ?hround) fun r nx' ob' hp=>?_
   case hround =>
    intro q e nx ob hqM hqn hqd hob hlt K hK;have d1:¬0=nx:=by omega
    have d2:¬nx=0:=by omega
    unfold rndV;simp[hob,d1,d2];refine .inl ⟨0,_,K9 q.m e hqM hqn hqd,?_⟩;simp[CZ,C9,hob,d1,d2];refine hK _ _ (by simp[lookO]) (by omega) fun j j1 j2=>?_;have d3:¬j=nx:=by omega
    simp[lookO,j2,d3]
   obtain⟨g1,g2,g3⟩:=hp;have f1:=g3 1 (by decide) (by decide);have f55:=g3 55 (by decide) (by decide);simp[lookO]at f1 f55;have hw:=hx2.ev;have hwd:∀e∈(evP z).log,e.ev.data.length<=100000:=fun e he=>hx3 e ((List.dropWhile_sublist _).subset he);have g2:58<=nx':=g2;generalize evP z=w at *;simp only[blk,thn];have f55z:lookO (List.map (fun p=>(p.fst,Option.map fzO p.snd)) ob') 55=some ⟨124,4,false,true,outs o⟩:=by
    have:=Ei ob' 55;rw[f55]at this;simpa[TG,fzO]using this
   have ne1:¬nx'=0:=by omega
   have ne2:¬nx'=1:=by omega
   have ne3:¬nx'=55:=by omega
   refine au1 (kX3 @g1 @f1 @f55) ?_;refine cZ (Nt w.m hw.m) (kX3 @g1 @f1 @f55) (kX3 @g1 @f1 @f55) ?_;(repeat intro K hK);apply wr;refine AB rfl (fun hs=>?_) (fun hs=>?_)
   ·have hS:Em w.m=true:=by unfold Em;simpa[or_assoc,and_assoc]using hs
    rw[if_pos (.inl hS)]at hx1;have hE:Cg p steps=(w,o):=by unfold Cg;rw[if_pos hM];exact hx1
    refine au1 (kX6 @g1 @f1 @f55 @ne1 @ne2 @ne3) ?_;refine aw ?_;simp[hE,f55z]
   have hS:¬Em w.m=true:=by unfold Em;simpa[or_assoc,and_assoc]using hs
   refine au1 (kX3 @g1 @f1 @f55) ?_;refine cZ (XW w hw.m) (kX3 @g1 @f1 @f55) (kX3 @g1 @f1 @f55) ?_;(repeat intro K hK);apply wr;cases hp:Je w with
   | false =>
    rw[if_pos (.inr hp)]at hx1;have hE:Cg p steps=(w,o):=by unfold Cg;rw[if_pos hM];exact hx1
    refine DT @hp (kX6 @g1 @f1 @f55 @ne1 @ne2 @ne3) ?_;refine aw ?_;simp[hE,f55z]
   | true =>
    rw[if_neg (by rintro(q|q);exact hS q;rw[hp]at q;cases q)]at hx1;refine EL @hp (kX3 @g1 @f1 @f55) ?_;(repeat intro K hK);apply wr;have hlo:=BB o;cases hr:readsD w.m with
    | true =>
     obtain⟨wm,wl,wk,wc⟩:=w;simp only at hr hw hwd hS;cases wl with
     | nil=>exfalso;simp[Je,hr,hdE]at hp
     | cons e r =>
      have hcons:ents (e::r)=e.row::ents r:=rfl;have hlr:=BA r;have hpos:(0:Int)<=(ents r).length:=by omega
      have hd1:hdE (e::r)=e:=rfl;have htk:List.take r.length (ents r)=ents r:=by rw[<- hlr];exact List.take_length
      have hso:=DR wm e.ev.n;have hen:=(hw.e e (fB ..)).n;have hst:Ru ⟨wm,e::r,wk,wc⟩=(⟨(stepD wm e.ev.n).1,r,wk,uw (e.ev.n+1)⟩,(stepD wm e.ev.n).2):=by unfold Ru;rw[if_pos hr];rfl
      have hJ2:OkJ ⟨(stepD wm e.ev.n).1,r,wk,uw (e.ev.n+1)⟩:=⟨Uv hw.m hen,fun x hx=>hw.e x (eW _ hx),hw.k⟩;have hd2:∀x∈r,x.ev.data.length<=100000:=fun x hx=>hwd x (eW _ hx);rw[hst]at hx1;simp only at hx1;refine DT @hr (kX8 @g1 @f1 @f55 @hcons @hpos @hd1 @hlr @htk) ?_;refine cc1 (step_ok wm e.ev.n hw.m) (kX4 @g1 @f1 @f55 @hd1) ?_;(repeat intro K hK)
      generalize stepD wm e.ev.n=S at *;have hlS:=BB S.2;refine au1 (Qs @g1 @f1 @f55 @ne1 @ne2 @ne3 @hlo @hlS @maxLen.eq_1 @hd1) ?_;(repeat intro K hK);apply wr;exact aX (fun x=>if x=55 then nx'+54 else x) (by rw[hI];exact⟨i+1,(RplD.mk S.1 r wk (uw (e.ev.n+1))),(o++S.2),by omega,rfl,⟨hx1,hJ2,hd2,by rw[eX];omega⟩,rfl⟩) (kX8 (AA (n:=(i:Int)+1) (by omega) (by omega)) @g1 @f1 @f55 @ne1 @ne2 @ne3 @B8)
    | false =>
     have hso:=DR w.m 0;have hst:Ru w=({w with m:=(stepD w.m 0).1},(stepD w.m 0).2):=by unfold Ru;rw[if_neg (by simp[hr])]
     have hJ2:OkJ {w with m:=(stepD w.m 0).1}:=⟨Uv hw.m BD,hw.e,hw.k⟩;rw[hst]at hx1;simp only at hx1;refine EL @hr (kX3 @g1 @f1 @f55) ?_;refine cc1 (step_ok w.m 0 hw.m) (kX4 @g1 @f1 @f55 @hr) ?_;(repeat intro K hK)
     generalize stepD w.m 0=S at *;have hlS:=BB S.2;refine au1 (kX9 @g1 @f1 @f55 @ne1 @ne2 @ne3 @hlo @hlS @maxLen.eq_1) ?_;(repeat intro K hK);apply wr;exact aX (fun x=>if x=55 then nx'+54 else x) (by rw[hI];exact⟨i+1,(RplD.mk S.1 w.log w.known w.clock),(o++S.2),by omega,rfl,⟨hx1,hJ2,hwd,by rw[eX];omega⟩,rfl⟩) (kX8 (AA (n:=(i:Int)+1) (by omega) (by omega)) @g1 @f1 @f55 @ne1 @ne2 @ne3 @B8)
  simp at hh;have hE:Cg p steps=(z,o):=by unfold Cg;rw[if_pos hM,hx1,show DY steps-i=0 by omega];rfl
  refine au ?_;refine aw ?_;simp[hE]
end Go.Proofs.YtjkmhmepljamoaaGreat
end
