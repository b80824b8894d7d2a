/- A part of the proof of ReplicaDisk. -/
import Derived.Test.YtjkmhmepljamoaaGreatK05
import Derived.Test.YtjkmhmepljamoaaGreatK21
import Derived.Test.YtjkmhmepljamoaaGreatK23
import Derived.Test.YtjkmhmepljamoaaGreatK24
import Derived.Shelf.Strings.Repeat
set_option linter.all false
set_option maxHeartbeats 16000000
set_option maxRecDepth 100000
section
namespace Go.Proofs.YtjkmhmepljamoaaGreat
open Go.Ab Go.RowKit Tryz
open Go.Proofs (Any.strings_Repeat)
theorem GA{C D E G:Prop}(c:C)(d:D)(e:E)(t:C->D->E->G:=by intro c d e;(refine af1 e ?_;intros;apply wr);repeat' ((first|(refine AB rfl (fun h=>?_) (fun h=>?_)<;>(first|(simp[e]at h;done)|(simp[e]at h)|skip)<;>(first|(exfalso;omega)|skip))|((first|refine .inl ⟨1,_,d.1,?_⟩|refine⟨1,_,d.1,?_⟩);simp[C0,Cd,noX,Cx,C9,e];first|refine And.intro AQ ?_|skip)|((first|refine .inl ⟨1,_,d.2.1,?_⟩|refine⟨1,_,d.2.1,?_⟩);simp[C0,Cd,noX,Cx,C9,e];first|refine And.intro AQ ?_|skip)|refine cc1 c.1 e ?_|refine cc1 c.2.1 e ?_|refine cc1 c.2.2.1 e ?_|refine cc1 c.2.2.2.1 e ?_|refine cc1 c.2.2.2.2.1 e ?_|refine cc1 c.2.2.2.2.2.1 e ?_|(refine AD (rid:=2) 5 [0,0,2,7,15] [(3,([[],[],[1]],[(0,2)])),(1,([],[])),(1,([],[]))] ?_)|(refine AD (rid:=12) 5 [0,0,2,7,15] [(3,([[],[],[1]],[(0,2)])),(1,([],[])),(1,([],[]))] ?_)|exact rt1 e|fail)<;>(refine af1 e ?_;intros;apply wr))):G:=t c d e
theorem bldX:Builder.Extra prog repLays_ren:={sizeBuilder:=by kernel_rfl,liesBuilder:=by kernel_rfl,t5:=Tryz.underlying5,a5:=Tryz.isAgg5,z5:=Tryz.sizeOf5,v5:=Tryz.zeroValue5,infoByte:=by kernel_rfl,cellsByte:=by kernel_rfl,sizeByte:=by kernel_rfl,neB5:=by decide}
theorem vals2{a b:Value}{vals:Array Value}(hs:vals.size=2)(h0:vals.getD 0 undef=a)(h1:vals.getD 1 undef=b):vals=#[a,b]:=by
 apply Array.ext
 ·simpa using hs
 intro i hi hi';have:i=0\/i=1:=by simp at hi';omega
 rcases this with rfl|rfl
 ·simpa[Array.getD,hi]using h0
 simpa[Array.getD,hi]using h1
theorem Xs(n:Nat):Lib.repeatL ([0]:Str) n=List.replicate n 0:=by
 induction n with
 | zero=>rfl
 | succ n ih=>simp[Lib.repeatL,List.replicate_succ,ih]
theorem rep_ok:AC prog 312 [.str [0],iv 128] (.str Cj):=by
 refine⟨by kernel_rfl,fun w Xa vals M hXa hs hrr=>?_⟩;obtain rfl:=vals2 hs (Ea (hrr 0 _ rfl)) (DK (hrr 1 _ rfl));have h:=Any.strings_Repeat repLays bldX ⟨[0].toArray⟩ 128 w (by omega) (by simp[ByteArray.size]);refine h.mono ?_;rintro e w' ⟨rfl,hb⟩;have he:Lib.repeatL (⟨[0].toArray⟩:ByteArray).data.toList 128=Cj:=Xs 128;rw[he];refine⟨_,rfl,hb,fun M n' hM=>⟨.str _ _,fun id o ho=>?_,fun id id' o o' g ho=>?_⟩⟩
 ·simp[V.fcells,V.cells,BY,lookO]at ho
 simp[V.fcells,V.cells,BY,lookO]at ho
theorem pow_in{v:Int}(h0:0<=v)(h1:v<32):IntKind.u32.wrap (1*2^min v.toNat 32)=2^v.toNat:=by
 have h:∀k:Fin 32,IntKind.u32.wrap (1*2^min k.val 32)=2^k.val:=by decide +kernel
 exact h ⟨v.toNat,by omega⟩
theorem Sb(t g:Int)(l:List Int)(p v:Int)(hg:W32 g)(hv:W32 v)(hb:l.length<=100000):
  AC prog 249 [.st [uv t,uv g],DO l,iv p,uv v] (.tup [.st [uv t,uv (Aj g l p v).1],DO (Aj g l p v).2]):=by
 have hp:=Ad l;have hcl:=DL (ints .u32 l) false 1 (.inl rfl) (by rw[AN];exact hb);by_cases h32:32<=v
 ·have hE:Aj g l p v=(g,l):=by unfold Aj;rw[if_pos h32]
  rw[hE];refine sZ func249 ntmps249 ?_;exact GA (qX1 (hcl)) trivial @h32
 have hpw:=pow_in hv.1 (by omega:v<32);simp at hpw;have hw1:IntKind.i64.wrap v=v:=AA (by have:=hv.1;omega) (by omega);have hia:=Wq hg v.toNat (by omega);by_cases h10:p=10
 ·subst h10;by_cases hpg:v<pagesD l
  ·by_cases hbit:g/2^v.toNat%2=0
   ·have hE:Aj g l 10 v=(ior .u32 g (2^v.toNat),Br l v Cj):=by unfold Aj;rw[if_neg h32,if_pos rfl,if_pos ⟨hpg,hbit⟩]
    rw[hE];refine sZ func249 ntmps249 ?_;exact GA (qX3 (Cq l) (rep_ok) (Hf l v Cj hv.1 hpg (by simp[Cj]))) trivial (kX6 @h32 @hpw @hw1 @hia @hpg @hbit)
   have hE:Aj g l 10 v=(g,l):=by unfold Aj;rw[if_neg h32,if_pos rfl,if_neg (fun q=>hbit q.2)]
   rw[hE];refine sZ func249 ntmps249 ?_;exact GA (qX2 (Cq l) (hcl)) trivial (kX6 @h32 @hpw @hw1 @hia @hpg @hbit)
  have hE:Aj g l 10 v=(g,l):=by unfold Aj;rw[if_neg h32,if_pos rfl,if_neg (fun q=>hpg q.1)]
  rw[hE];refine sZ func249 ntmps249 ?_;exact GA (qX2 (Cq l) (hcl)) trivial (kX4 @h32 @hpw @hw1 @hpg)
 by_cases h11:p=11
 ·subst h11;have hE:Aj g l 11 v=(Da .u32 g (2^v.toNat),l):=by unfold Aj;rw[if_neg h32];simp
  rw[hE];refine sZ func249 ntmps249 ?_;exact GA (qX1 (hcl)) trivial (kX2 @h32 @hpw)
 have hE:Aj g l p v=(g,l):=by unfold Aj;rw[if_neg h32,if_neg h10,if_neg h11]
 rw[hE];refine sZ func249 ntmps249 ?_;exact GA (qX1 (hcl)) trivial (kX4 @h32 @hpw @h10 @h11)
end Go.Proofs.YtjkmhmepljamoaaGreat
end
section
namespace Go.Proofs.YtjkmhmepljamoaaGreat
open Go.Ab Go.RowKit Tryz
theorem Ni(m:MchD)(p v t:Int)(hM:OkM m)(hv:W32 v):AC prog 181 [.st m.row,iv p,uv v,lv t] (.tup [.st (AH m p v t).1.row,H7 (AH m p v t).2]):=by
 have hd:=TC m.dk m.mem p v t hM.d.c hv;have hn:=UF m.nc m.mem p v t hM.r.a hM.r.b;have hb:=Sb m.tgt m.given m.mem p v hM.gv hv (by have:=hM.n;omega);by_cases h0:p=0
 ·subst h0;have hbv:Ch [.int .u8 (IntKind.u8.wrap v)]:=MO v;have hE:AH m 0 v t=(m,[⟨1,t,0,[UInt8.ofNat (v%256).toNat]⟩]):=by simp[AH]
  have hw:Ec [.int .u8 (IntKind.u8.wrap v)]=UInt8.ofNat (v%256).toNat:=by simp[Ec,IntKind.wrap_u8]
  rw[hE];refine sZ func181 ntmps181 ?_;exact wx1 trivial trivial (kX3 @hbv @hw @O9)
 by_cases h3:p=3
 ·subst h3;have hE:AH m 3 v t=({m with tim:=WM v},[]):=by simp[AH]
  rw[hE];refine sZ func181 ntmps181 ?_;exact wx1 (qX1 (arm_ok m.tim v)) trivial @outs.eq_1
 by_cases h4:p=4\/p=5\/p=6
 ·have hE:AH m p v t=({m with dk:=(Ak m.dk m.mem p v t).1},(Ak m.dk m.mem p v t).2):=by unfold AH;rw[if_neg h0,if_neg h3,if_pos h4]
  rw[hE];generalize Ak m.dk m.mem p v t=R at *;rcases h4 with rfl|rfl|rfl
  ·refine sZ func181 ntmps181 ?_;exact wx (qX1 (hd)) trivial
  ·refine sZ func181 ntmps181 ?_;exact wx (qX1 (hd)) trivial
  refine sZ func181 ntmps181 ?_;exact wx (qX1 (hd)) trivial
 by_cases h7:p=7\/p=8\/p=9
 ·have hE:AH m p v t=({m with nc:=(AZ m.nc m.mem p v t).1},(AZ m.nc m.mem p v t).2):=by unfold AH;rw[if_neg h0,if_neg h3,if_neg h4,if_pos h7]
  rw[hE];generalize AZ m.nc m.mem p v t=R at *;rcases h7 with rfl|rfl|rfl
  ·refine sZ func181 ntmps181 ?_;exact wx (qX1 (hn)) trivial
  ·refine sZ func181 ntmps181 ?_;exact wx (qX1 (hn)) trivial
  refine sZ func181 ntmps181 ?_;exact wx (qX1 (hn)) trivial
 by_cases h10:p=10\/p=11
 ·have hE:AH m p v t=({m with given:=(Aj m.given m.mem p v).1,mem:=(Aj m.given m.mem p v).2},[]):=by unfold AH;rw[if_neg h0,if_neg h3,if_neg h4,if_neg h7,if_pos h10]
  rw[hE];generalize Aj m.given m.mem p v=R at *;rcases h10 with rfl|rfl
  ·refine sZ func181 ntmps181 ?_;exact wx (qX1 (hb)) trivial
  refine sZ func181 ntmps181 ?_;exact wx (qX1 (hb)) trivial
 have hE:AH m p v t=(m,[]):=by unfold AH;rw[if_neg h0,if_neg h3,if_neg h4,if_neg h7,if_neg h10]
 rw[hE];have n4:¬p=4:=by omega
 have n5:¬p=5:=by omega
 have n6:¬p=6:=by omega
 have n7:¬p=7:=by omega
 have n8:¬p=8:=by omega
 have n9:¬p=9:=by omega
 have n10:¬p=10:=by omega
 have n11:¬p=11:=by omega
 refine sZ func181 ntmps181 ?_;exact wx1 trivial trivial (RQ @h0 @h3 @n4 @n5 @n6 @n7 @n8 @n9 @n10 @n11)
theorem GK(m:MchD)(p k:Int):(AO m p k).1.count=m.count:=by unfold AO;(repeat' split)<;>rfl
theorem F6(m:MchD)(p v t:Int):(AH m p v t).1.count=m.count:=by unfold AH;(repeat' split)<;>rfl
theorem Nr(m:MchD):(AL m).count=m.count:=by unfold AL;split;rfl;split<;>rfl
theorem XI(m:MchD){r:Int}(v:Int)(h0:0<=r)(h1:r<=15):m.row.set r.toNat (uv v)=({m with cpu:=m.cpu.setX r v}:MchD).row:=by
 rcases J3 h0 h1 with rfl|rfl|rfl|rfl|rfl|rfl|rfl|rfl|rfl|rfl|rfl|rfl|rfl|rfl|rfl|rfl<;>simp[CpuD.setX]
theorem step_ok(m:MchD)(k:Int)(hM:OkM m):
  AC prog 120 [.st m.row,uv k] (.tup [.st (stepD m k).1.row,H7 (stepD m k).2]):=by
 obtain⟨hb,he⟩:=IP hM;have hcl:=DL (ints .u32 m.mem) false 1 (.inl rfl) (by rw[AN];have:=hM.n;omega);have hr:=VI m hM;cases hR:runsD m with
 | false =>
  have hE:stepD m k=(m,[]):=by unfold stepD;rw[hR];rfl
  rw[hR]at hr;rw[hE];refine sZ func120 ntmps120 ?_;exact wx (qX2 (hcl) (hr)) trivial
 | true =>
  have hE:stepD m k=goD m k:=by unfold stepD;rw[hR];rfl
  rw[hR]at hr;rw[hE];have hx:=TQ (AL m).cpu m.mem (Io hM) hM.w (by have:=hM.n;omega);have hbe:=PQ m hM;have hm:=Ns m;have hbc:=Nr m;have hct0:=hM.ct;unfold goD GB CM;unfold GB at he;unfold CM at hb;generalize AL m=b at *;generalize Az b.cpu m.mem=Z at *;obtain⟨M,hMd⟩:∃M:MchD,M={b with cpu:=Z.1,mem:=Z.2.1}:=⟨_,rfl⟩;have hMc:M.count=m.count:=by rw[hMd];exact hbc
  rw[<- hMd]at hb ⊢;by_cases k1:Z.2.2.kind=1
  ·obtain⟨r0,r1⟩:=he.r k1;have hp:=Oj M Z.2.2.port k hb;have hc:=GK M Z.2.2.port k;have hD:BZ M Z.2.2 k m.count=({(AO M Z.2.2.port k).1 with cpu:=(AO M Z.2.2.port k).1.cpu.setR Z.2.2.reg (AO M Z.2.2.port k).2},[]):=by unfold BZ;rw[if_pos k1]
   rw[hD];generalize AO M Z.2.2.port k=R at *;rw[hMc]at hc;have hct:IntKind.u64.wrap (R.1.count+1)=R.1.count+1:=u64_in;subst hMd;by_cases hz:Z.2.2.reg=0
   ·refine sZ func120 ntmps120 ?_;exact wx1 (qX5 (hcl) (hr) (hbe) (hx) (hp)) trivial (kX5 @hm @k1 @hz @hct @CpuD.setR.eq_1)
   have hs:=XI R.1 R.2 r0 r1;simp at hs;refine sZ func120 ntmps120 ?_;exact wx1 (qX5 (hcl) (hr) (hbe) (hx) (hp)) trivial (kX6 @hm @k1 @hz @hct @hs @CpuD.setR.eq_1)
  by_cases k2:Z.2.2.kind=2
  ·have hp:=Ni M Z.2.2.port Z.2.2.val m.count hb he.v;have hc:=F6 M Z.2.2.port Z.2.2.val m.count;have hD:BZ M Z.2.2 k m.count=AH M Z.2.2.port Z.2.2.val m.count:=by unfold BZ;rw[if_neg k1,if_pos k2]
   rw[hD];generalize AH M Z.2.2.port Z.2.2.val m.count=R at *;rw[hMc]at hc;have hct:IntKind.u64.wrap (R.1.count+1)=R.1.count+1:=u64_in;subst hMd;refine sZ func120 ntmps120 ?_;exact wx1 (qX5 (hcl) (hr) (hbe) (hx) (hp)) trivial (kX3 @hm @k2 @hct)
  have hct:IntKind.u64.wrap (b.count+1)=b.count+1:=u64_in;by_cases k3:Z.2.2.kind=3
  ·have hD:BZ M Z.2.2 k m.count=({M with waiting:=true},[]):=by unfold BZ;rw[if_neg k1,if_neg k2,if_pos k3]
   rw[hD];subst hMd;refine sZ func120 ntmps120 ?_;exact wx1 (qX4 (hcl) (hr) (hbe) (hx)) trivial (kX3 @hm @k3 @hct)
  by_cases k4:Z.2.2.kind=4
  ·have hD:BZ M Z.2.2 k m.count=({M with halted:=true},[]):=by unfold BZ;rw[if_neg k1,if_neg k2,if_neg k3,if_pos k4]
   rw[hD];subst hMd;refine sZ func120 ntmps120 ?_;exact wx1 (qX4 (hcl) (hr) (hbe) (hx)) trivial (kX3 @hm @k4 @hct)
  have hD:BZ M Z.2.2 k m.count=(M,[]):=by unfold BZ;rw[if_neg k1,if_neg k2,if_neg k3,if_neg k4]
  rw[hD];subst hMd;refine sZ func120 ntmps120 ?_;exact wx1 (qX4 (hcl) (hr) (hbe) (hx)) trivial (kX6 @hm @k1 @k2 @k3 @k4 @hct)
end Go.Proofs.YtjkmhmepljamoaaGreat
end
