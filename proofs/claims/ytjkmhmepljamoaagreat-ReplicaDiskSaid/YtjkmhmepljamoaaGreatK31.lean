/- A part of the proof of ReplicaDisk. -/
import Derived.Test.YtjkmhmepljamoaaGreatK04
import Derived.Test.YtjkmhmepljamoaaGreatK06
import Derived.Test.YtjkmhmepljamoaaGreatK14
import Derived.Test.YtjkmhmepljamoaaGreatK19
import Derived.Test.YtjkmhmepljamoaaGreatK22
import Derived.Test.YtjkmhmepljamoaaGreatK24
import Derived.Test.YtjkmhmepljamoaaGreatK26
set_option linter.all false
set_option maxHeartbeats 16000000
set_option maxRecDepth 100000
section
namespace Go.Proofs.YtjkmhmepljamoaaGreat
open Go.Ab Go.RowKit Tryz
theorem BQ(b:Bool):AC prog 266 [.bool b] (uv (b2w b)):=by
 refine sZ func266 ntmps266 ?_;exact wx1 trivial trivial @b2w.eq_1
theorem NW(a:Int):AC prog 267 [iv a] (.bool (decide (1<=a)&&decide (a<=3))):=by
 refine sZ func267 ntmps267 ?_;exact wx trivial trivial
theorem NM(a:Int):AC prog 269 [iv a] (iv (if a=1 then 4 else if a=3 then 6 else 5)):=by
 refine sZ func269 ntmps269 ?_;exact wx trivial trivial
theorem iand5{x:Int}(h:0<=x/\x<=31):decide (Bg .u32 x 5=4)=(decide (x%2=0)&&decide (x/4%2=1)):=by
 have e:∀k:Fin 32,decide (Bg .u32 (k.val:Int) 5=4)=(decide ((k.val:Int)%2=0)&&decide ((k.val:Int)/4%2=1)):=by decide
 have:=e ⟨x.toNat,by omega⟩;rwa[show((⟨x.toNat,by omega⟩:Fin 32).val:Int)=x by simp;omega]at this
theorem Uw(c:CpuD)(h:OkC c):AC prog 268 [.st c.row] (.bool (FU c)):=by
 have e:=iand5 ⟨(h.csr 0).1,h.s⟩;refine sZ func268 ntmps268 ?_;exact wx1 trivial trivial (kX2 @e @FU.eq_1)
theorem Uz(op a b:Int):AC prog 274 [iv op,uv a,uv b] (.bool (HE op a b)):=by
 refine sZ func274 ntmps274 ?_;exact wx1 trivial trivial @HE.eq_1
theorem YF(op:Int):AC prog 203 [iv op] (.bool (Oc op)):=by
 refine sZ func203 ntmps203 ?_;exact wx1 trivial trivial @Oc.eq_1
def CW(op:Int):Int:=if op=16 then 1 else if op=17 then 3 else if op=18 then 4 else if op=19 then 5 else if op=20 then 6 else if op=21 then 7 else if op=22 then 8 else if op=23 then 12 else op
theorem Aw(op:Int):AC prog 276 [iv op] (iv (CW op)):=by
 refine sZ func276 ntmps276 ?_;exact wx1 trivial trivial @CW.eq_1
theorem DF(c:CpuD)(r v:Int)(h0:0<=r)(h1:r<=15):AC prog 160 [.st c.row,iv r,uv v] (.st (c.setR r v).row):=by
 have e:=Uh c v h0 h1;by_cases hr:r=0
 ·subst hr;refine sZ func160 ntmps160 ?_;exact wx1 trivial trivial @CpuD.setR.eq_1
 refine sZ func160 ntmps160 ?_;exact wx1 trivial trivial (kX3 @e @CpuD.setR.eq_1 @hr)
theorem VJ(c:CpuD)(k v:Int)(h0:0<=k)(h1:k<=7):AC prog 273 [.st c.row,iv k,uv v] (.st (Bs c k v).row):=by
 have hk:k=0\/k=1\/k=2\/k=3\/k=4\/k=5\/k=6\/k=7:=by omega
 rcases hk with rfl|rfl|rfl|rfl|rfl|rfl|rfl|rfl
 ·refine sZ func273 ntmps273 ?_;exact wx1 trivial trivial (kX2 @Bs.eq_1 @CpuD.setS.eq_1)
 ·refine sZ func273 ntmps273 ?_;exact wx1 trivial trivial (kX2 @Bs.eq_1 @CpuD.setS.eq_1)
 ·refine sZ func273 ntmps273 ?_;exact wx1 trivial trivial (kX2 @Bs.eq_1 @CpuD.setS.eq_1)
 ·refine sZ func273 ntmps273 ?_;exact wx1 trivial trivial (kX2 @Bs.eq_1 @CpuD.setS.eq_1)
 ·refine sZ func273 ntmps273 ?_;exact wx1 trivial trivial (kX2 @Bs.eq_1 @CpuD.setS.eq_1)
 ·refine sZ func273 ntmps273 ?_;exact wx1 trivial trivial (kX2 @Bs.eq_1 @CpuD.setS.eq_1)
 ·refine sZ func273 ntmps273 ?_;exact wx1 trivial trivial (kX2 @Bs.eq_1 @CpuD.setS.eq_1)
 refine sZ func273 ntmps273 ?_;exact wx1 trivial trivial (kX2 @Bs.eq_1 @CpuD.setS.eq_1)
theorem eG{s:Int}(h0:0<=s)(h1:s<=31):ior .u32 (Da .u32 (ior .u32 (ior .u32 (Da .u32 s 24) (IntKind.u32.wrap (8*b2w (!decide (Bg .u32 s 1=0))))) (IntKind.u32.wrap (16*b2w (!decide (Bg .u32 s 2=0))))) 2) 1=N5 s:=by
 have e:∀k:Fin 32,ior .u32 (Da .u32 (ior .u32 (ior .u32 (Da .u32 (k.val:Int) 24) (IntKind.u32.wrap (8*b2w (!decide (Bg .u32 (k.val:Int) 1=0))))) (IntKind.u32.wrap (16*b2w (!decide (Bg .u32 (k.val:Int) 2=0))))) 2) 1=N5 (k.val:Int):=by decide
 have:=e ⟨s.toNat,by omega⟩;rwa[show((⟨s.toNat,by omega⟩:Fin 32).val:Int)=s by simp;omega]at this
theorem rret_s{s:Int}(h0:0<=s)(h1:s<=31):ior .u32 (ior .u32 (Da .u32 s 3) (IntKind.u32.wrap (1*b2w (!decide (Bg .u32 s 8=0))))) (IntKind.u32.wrap (2*b2w (!decide (Bg .u32 s 16=0))))=Z3 s:=by
 have e:∀k:Fin 32,ior .u32 (ior .u32 (Da .u32 (k.val:Int) 3) (IntKind.u32.wrap (1*b2w (!decide (Bg .u32 (k.val:Int) 8=0))))) (IntKind.u32.wrap (2*b2w (!decide (Bg .u32 (k.val:Int) 16=0))))=Z3 (k.val:Int):=by decide
 have:=e ⟨s.toNat,by omega⟩;rwa[show((⟨s.toNat,by omega⟩:Fin 32).val:Int)=s by simp;omega]at this
theorem CO(c:CpuD)(cause bad:Int)(h:OkC c):AC prog 200 [.st c.row,iv cause,uv bad] (.st (BP c cause bad).row):=by
 have e:=eG (h.csr 0).1 h.s;refine sZ func200 ntmps200 ?_;exact wx1 (qX2 (BQ (!decide (Bg .u32 (c.csr 0) 1=0))) (BQ (!decide (Bg .u32 (c.csr 0) 2=0)))) trivial (kX2 @e @BP.eq_1)
theorem Rv(c:CpuD)(h:OkC c):AC prog 272 [.st c.row] (.st (Om c).row):=by
 have e:=rret_s (h.csr 0).1 h.s;refine sZ func272 ntmps272 ?_;exact wx1 (qX2 (BQ (!decide (Bg .u32 (c.csr 0) 8=0))) (BQ (!decide (Bg .u32 (c.csr 0) 16=0)))) trivial (kX2 @e @Om.eq_1)
theorem Bp(a b:Int)(ha:W32 a)(hb:W32 b):AC prog 277 [uv a,uv b] (.tup [uv (Jq a b),uv (Jr a b)]):=by
 obtain⟨ha0,ha1⟩:=ha;obtain⟨hb0,hb1⟩:=hb;by_cases h1:b=0
 ·subst h1;refine sZ func277 ntmps277 ?_
  (refine af1 (kX2 @Jq.eq_1 @Jr.eq_1) ?_;intros;apply wr)
  repeat' ((first|(refine AB rfl (fun h=>?_) (fun h=>?_)<;>(first|(simp[Jq,Jr]at h;done)|(simp[Jq,Jr]at h)|skip)<;>(first|(exfalso;omega)|skip))|(refine AD 10 [0,0,3,7,0,0,48,112,15,511] [(9,([[],[],[0,1],[0,1,2],[],[],[4,5],[4,5,6],[0,1,2,3]],[])),(1,([],[]))] ?_)|exact rt1 (kX2 @Jq.eq_1 @Jr.eq_1)|fail)<;>(refine af1 (kX2 @Jq.eq_1 @Jr.eq_1) ?_;intros;apply wr))
 have hn:¬sw b=0:=by unfold sw;rw[IntKind.wrap_i32];omega
 have i1:∀x,IntKind.i64.wrap (sw x)=sw x:=fun x=>by unfold sw;simp only[IntKind.wrap_i32];exact AA
 have q0:sw b≠0->-2147483648<=(sw a).tdiv (sw b)/\(sw a).tdiv (sw b)<=2147483648:=by
  intro hne;have ra:-2147483648<=sw a/\sw a<=2147483647:=by unfold sw;rw[IntKind.wrap_i32];omega
  have:((sw a).tdiv (sw b)).natAbs=(sw a).natAbs/(sw b).natAbs:=Int.natAbs_tdiv (sw a) (sw b);have h2:(sw a).natAbs/(sw b).natAbs<=(sw a).natAbs:=Nat.div_le_self _ _;obtain⟨q,hq⟩:∃q:Nat,q=(sw a).natAbs/(sw b).natAbs:=⟨_,rfl⟩;rw[<- hq]at this h2;omega
 have e1:IntKind.u32.wrap (IntKind.i64.wrap ((sw a).tdiv (sw b)))=Jq a b:=by
  unfold Jq uw;rw[if_neg h1,AA (by have:=q0 hn;omega) (by have:=q0 hn;omega)]
 have e2:IntKind.u32.wrap ((sw a).tmod (sw b))=Jr a b:=by
  unfold Jr;rw[if_neg h1]
 refine sZ func277 ntmps277 ?_
 (refine af1 (kX5 @e1 @e2 @h1 @hn @i1) ?_;intros;apply wr)
 repeat' ((first|(refine AB rfl (fun h=>?_) (fun h=>?_)<;>(first|(simp[e1,e2,h1,hn,i1]at h;done)|(simp[e1,e2,h1,hn,i1]at h)|skip)<;>(first|(exfalso;omega)|skip))|(refine AD 10 [0,0,3,7,0,0,48,112,15,511] [(9,([[],[],[0,1],[0,1,2],[],[],[4,5],[4,5,6],[0,1,2,3]],[])),(1,([],[]))] ?_)|exact rt1 (kX5 @e1 @e2 @h1 @hn @i1)|fail)<;>(refine af1 (kX5 @e1 @e2 @h1 @hn @i1) ?_;intros;apply wr))
@[simp] theorem shl8:IntKind.u32.wrap (4294967295*2^(min (8:Int).toNat 32))=4294967040:=by decide
theorem shl8':IntKind.u32.wrap 1099511627520=4294967040:=by decide
theorem Xv(x:Int)(h0:0<=x)(h1:x<256):AC prog 275 [uv x,iv 8] (uv (GH x)):=by
 have e1:Bg .u32 x 255=x:=by rw[Cb];omega
 have e2:x.fdiv 128=x/128:=gU _ (by decide);have e3:x<128->GH x=x:=fun h=>if_pos h;have e4:¬x<128->ior .u32 x 4294967040=GH x:=by
  intro h;have e:∀k:Fin 256,ior .u32 (k.val:Int) 4294967040=(k.val:Int)+4294967040:=by decide
  have:=e ⟨x.toNat,by omega⟩;rw[show((⟨x.toNat,by omega⟩:Fin 256).val:Int)=x by simp;omega]at this;rw[this,GH,if_neg h]
 by_cases hx:x<128
 ·have e5:¬x/128=1:=by omega
  refine sZ func275 ntmps275 ?_;exact wx1 trivial trivial (kX7 @e1 @e2 @e5 (e3 hx) @IA @HZ @D5)
 have e5:x/128=1:=by omega
 refine sZ func275 ntmps275 ?_;exact wx1 trivial trivial (kX8 @e1 @e2 @e5 @shl8' (e4 hx) @IA @HZ @D5)
theorem Ry(l:List Int)(a s:Int)(hs:s=1\/s=4)(ha:W32 a):AC prog 201 [DO l,uv a,iv s] (.bool (AS l a s)):=by
 have hp:=Ad l;have e1:IntKind.i64.wrap (128*pagesD l)=128*pagesD l:=AA;have e2:IntKind.u32.wrap (128*pagesD l)=128*pagesD l:=u32_in;have e5:=Ln ha.1;rcases hs with rfl|rfl
 ·have e6:AS l a 1=decide (a<128*pagesD l):=by
   have:(a+1<=pagesD l*128)=(a<128*pagesD l):=by apply propext;omega
   unfold AS;simp[this]
  refine sZ func201 ntmps201 ?_;exact wx1 (qX1 (EA l)) trivial (kX6 @e1 @e2 @e5 @e6 @D5 @IA)
 have e6:AS l a 4=(decide (a%4=0)&&decide (a<128*pagesD l)):=by
  unfold AS;by_cases h4:a%4=0
  ·have:(a+4<=pagesD l*128)=(a<128*pagesD l):=by apply propext;omega
   simp[h4,this]
  simp[h4]
 refine sX func201 ntmps201 ?_;refine EG (kX6 @e1 @e2 @e5 @e6 @D5 @IA) ?_;intros;apply wr;first|refine B0 (EA l) rfl (fun hgd=>?_) (by simp[BY]) ?_|refine BI (EA l) rfl (by simp) (fun hgd=>?_) (by simp[BY]) ?_
 all_goals simp
 all_goals (try (first|exact hgd|(simp at hgd;first|done|assumption|grind)))
 refine au1 (kX6 @e1 @e2 @e5 @e6 @D5 @IA) ?_;intros;apply wr;refine ar ?_;simp[e1,e2,e5,e6];rfl
theorem YC(l:List Int)(a s:Int)(hs:s=1\/s=4)(ha:W32 a):AC prog 156 [DO l,uv a,iv s] (.tup [uv (if AS l a s=true then Bw l a s else 0),.bool (AS l a s)]):=by
 have hW:=Ry l a s hs ha;cases hw:AS l a s with
 | false =>
  rw[hw]at hW;refine sZ func156 ntmps156 ?_;exact wx (qX1 (hW)) trivial
 | true =>
  rw[hw]at hW;have hi:=Bm hw ha.1;have e1:=N3 ha;obtain⟨w,hw'⟩:∃w,w=wAt l (a/4):=⟨_,rfl⟩;have e2:=CN (k:=.u32) (F3 hi);rw[<- hw']at e2;have hw2:=hw'.symm;have e3:=AN .u32 l;have e4:=Ln ha.1;have e5:IntKind.u32.wrap (8*(a%4))=8*(a%4):=u32_in;have e6:w.fdiv (2^min (8*(a%4)).toNat 32)=w/2^(8*(a%4)).toNat:=by
   rw[gY (by omega),gU _ (iJ (iM (by decide)))]
  have e7:(0:Int)<=a/4:=by have:=ha.1;omega
  have e8:a/4<(l.length:Int):=by omega
  have e9:w/2^(8*(a%4)).toNat%256=byteAt w (a%4):=rfl;rcases hs with rfl|rfl
  ·refine sZ func156 ntmps156 ?_;exact wx1 (qX1 (hW)) trivial (RQ @e1 @e2 @e3 @e4 @e5 @e6 @e9 @Cb @Bw.eq_1 @hw2)
  refine sZ func156 ntmps156 ?_;exact wx1 (qX1 (hW)) trivial (kX6 @e1 @e2 @e3 @e4 @Bw.eq_1 @hw2)
theorem X9(a b:Int)(ha:W32 a)(hb:W32 b):AC prog 207 [iv 1,uv a,uv b] (.tup [uv (uw (a+b)),.bool true]):=by
 have e0:Bg .u32 b 31=b%32:=AV b 5 32 (by omega) (by decide);have e1:a.fdiv (2^min (b%32).toNat 32)=a/2^(b%32).toNat:=by
  rw[gY (by omega),gU _ (iJ (iM (by decide)))]
 have e2:(sw a).fdiv (2^min (b%32).toNat 32)=sw a/2^(b%32).toNat:=by
  rw[gY (by omega),gU _ (iJ (iM (by decide)))]
 have e3:min (b%32).toNat 32=(b%32).toNat:=gY (by omega);have hpl:AC prog 276 [iv 1] (iv 1):=by have:=Aw 1;simpa[CW]using this
 refine sZ func207 ntmps207 ?_;exact wx1 (qX3 (hpl) (Bp a b ha hb) (BQ (true))) trivial (kX2 @e0 @e0)
theorem U2(a b:Int)(ha:W32 a)(hb:W32 b):AC prog 207 [iv 16,uv a,uv b] (.tup [uv (uw (a+b)),.bool true]):=by
 have e0:Bg .u32 b 31=b%32:=AV b 5 32 (by omega) (by decide);have e1:a.fdiv (2^min (b%32).toNat 32)=a/2^(b%32).toNat:=by
  rw[gY (by omega),gU _ (iJ (iM (by decide)))]
 have e2:(sw a).fdiv (2^min (b%32).toNat 32)=sw a/2^(b%32).toNat:=by
  rw[gY (by omega),gU _ (iJ (iM (by decide)))]
 have e3:min (b%32).toNat 32=(b%32).toNat:=gY (by omega);have hpl:AC prog 276 [iv 16] (iv 1):=by have:=Aw 16;simpa[CW]using this
 refine sZ func207 ntmps207 ?_;exact wx1 (qX3 (hpl) (Bp a b ha hb) (BQ (true))) trivial (kX2 @e0 @e0)
theorem Xb(a b:Int)(ha:W32 a)(hb:W32 b):AC prog 207 [iv 2,uv a,uv b] (.tup [uv (uw (a-b)),.bool true]):=by
 have e0:Bg .u32 b 31=b%32:=AV b 5 32 (by omega) (by decide);have e1:a.fdiv (2^min (b%32).toNat 32)=a/2^(b%32).toNat:=by
  rw[gY (by omega),gU _ (iJ (iM (by decide)))]
 have e2:(sw a).fdiv (2^min (b%32).toNat 32)=sw a/2^(b%32).toNat:=by
  rw[gY (by omega),gU _ (iJ (iM (by decide)))]
 have e3:min (b%32).toNat 32=(b%32).toNat:=gY (by omega);have hpl:AC prog 276 [iv 2] (iv 2):=by have:=Aw 2;simpa[CW]using this
 refine sZ func207 ntmps207 ?_;exact wx1 (qX3 (hpl) (Bp a b ha hb) (BQ (true))) trivial (kX2 @e0 @e0)
theorem Xd(a b:Int)(ha:W32 a)(hb:W32 b):AC prog 207 [iv 3,uv a,uv b] (.tup [uv (Bg .u32 a b),.bool true]):=by
 have e0:Bg .u32 b 31=b%32:=AV b 5 32 (by omega) (by decide);have e1:a.fdiv (2^min (b%32).toNat 32)=a/2^(b%32).toNat:=by
  rw[gY (by omega),gU _ (iJ (iM (by decide)))]
 have e2:(sw a).fdiv (2^min (b%32).toNat 32)=sw a/2^(b%32).toNat:=by
  rw[gY (by omega),gU _ (iJ (iM (by decide)))]
 have e3:min (b%32).toNat 32=(b%32).toNat:=gY (by omega);have hpl:AC prog 276 [iv 3] (iv 3):=by have:=Aw 3;simpa[CW]using this
 refine sZ func207 ntmps207 ?_;exact wx1 (qX3 (hpl) (Bp a b ha hb) (BQ (true))) trivial (kX2 @e0 @e0)
theorem U3(a b:Int)(ha:W32 a)(hb:W32 b):AC prog 207 [iv 17,uv a,uv b] (.tup [uv (Bg .u32 a b),.bool true]):=by
 have e0:Bg .u32 b 31=b%32:=AV b 5 32 (by omega) (by decide);have e1:a.fdiv (2^min (b%32).toNat 32)=a/2^(b%32).toNat:=by
  rw[gY (by omega),gU _ (iJ (iM (by decide)))]
 have e2:(sw a).fdiv (2^min (b%32).toNat 32)=sw a/2^(b%32).toNat:=by
  rw[gY (by omega),gU _ (iJ (iM (by decide)))]
 have e3:min (b%32).toNat 32=(b%32).toNat:=gY (by omega);have hpl:AC prog 276 [iv 17] (iv 3):=by have:=Aw 17;simpa[CW]using this
 refine sZ func207 ntmps207 ?_;exact wx1 (qX3 (hpl) (Bp a b ha hb) (BQ (true))) trivial (kX2 @e0 @e0)
theorem Xe(a b:Int)(ha:W32 a)(hb:W32 b):AC prog 207 [iv 4,uv a,uv b] (.tup [uv (ior .u32 a b),.bool true]):=by
 have e0:Bg .u32 b 31=b%32:=AV b 5 32 (by omega) (by decide);have e1:a.fdiv (2^min (b%32).toNat 32)=a/2^(b%32).toNat:=by
  rw[gY (by omega),gU _ (iJ (iM (by decide)))]
 have e2:(sw a).fdiv (2^min (b%32).toNat 32)=sw a/2^(b%32).toNat:=by
  rw[gY (by omega),gU _ (iJ (iM (by decide)))]
 have e3:min (b%32).toNat 32=(b%32).toNat:=gY (by omega);have hpl:AC prog 276 [iv 4] (iv 4):=by have:=Aw 4;simpa[CW]using this
 refine sZ func207 ntmps207 ?_;exact wx1 (qX3 (hpl) (Bp a b ha hb) (BQ (true))) trivial (kX2 @e0 @e0)
theorem U4(a b:Int)(ha:W32 a)(hb:W32 b):AC prog 207 [iv 18,uv a,uv b] (.tup [uv (ior .u32 a b),.bool true]):=by
 have e0:Bg .u32 b 31=b%32:=AV b 5 32 (by omega) (by decide);have e1:a.fdiv (2^min (b%32).toNat 32)=a/2^(b%32).toNat:=by
  rw[gY (by omega),gU _ (iJ (iM (by decide)))]
 have e2:(sw a).fdiv (2^min (b%32).toNat 32)=sw a/2^(b%32).toNat:=by
  rw[gY (by omega),gU _ (iJ (iM (by decide)))]
 have e3:min (b%32).toNat 32=(b%32).toNat:=gY (by omega);have hpl:AC prog 276 [iv 18] (iv 4):=by have:=Aw 18;simpa[CW]using this
 refine sZ func207 ntmps207 ?_;exact wx1 (qX3 (hpl) (Bp a b ha hb) (BQ (true))) trivial (kX2 @e0 @e0)
theorem Xg(a b:Int)(ha:W32 a)(hb:W32 b):AC prog 207 [iv 5,uv a,uv b] (.tup [uv (Vp .u32 a b),.bool true]):=by
 have e0:Bg .u32 b 31=b%32:=AV b 5 32 (by omega) (by decide);have e1:a.fdiv (2^min (b%32).toNat 32)=a/2^(b%32).toNat:=by
  rw[gY (by omega),gU _ (iJ (iM (by decide)))]
 have e2:(sw a).fdiv (2^min (b%32).toNat 32)=sw a/2^(b%32).toNat:=by
  rw[gY (by omega),gU _ (iJ (iM (by decide)))]
 have e3:min (b%32).toNat 32=(b%32).toNat:=gY (by omega);have hpl:AC prog 276 [iv 5] (iv 5):=by have:=Aw 5;simpa[CW]using this
 refine sZ func207 ntmps207 ?_;exact wx1 (qX3 (hpl) (Bp a b ha hb) (BQ (true))) trivial (kX2 @e0 @e0)
theorem U5(a b:Int)(ha:W32 a)(hb:W32 b):AC prog 207 [iv 19,uv a,uv b] (.tup [uv (Vp .u32 a b),.bool true]):=by
 have e0:Bg .u32 b 31=b%32:=AV b 5 32 (by omega) (by decide);have e1:a.fdiv (2^min (b%32).toNat 32)=a/2^(b%32).toNat:=by
  rw[gY (by omega),gU _ (iJ (iM (by decide)))]
 have e2:(sw a).fdiv (2^min (b%32).toNat 32)=sw a/2^(b%32).toNat:=by
  rw[gY (by omega),gU _ (iJ (iM (by decide)))]
 have e3:min (b%32).toNat 32=(b%32).toNat:=gY (by omega);have hpl:AC prog 276 [iv 19] (iv 5):=by have:=Aw 19;simpa[CW]using this
 refine sZ func207 ntmps207 ?_;exact wx1 (qX3 (hpl) (Bp a b ha hb) (BQ (true))) trivial (kX2 @e0 @e0)
theorem Xh(a b:Int)(ha:W32 a)(hb:W32 b):AC prog 207 [iv 6,uv a,uv b] (.tup [uv (uw (a*2^(b%32).toNat)),.bool true]):=by
 have e0:Bg .u32 b 31=b%32:=AV b 5 32 (by omega) (by decide);have e1:a.fdiv (2^min (b%32).toNat 32)=a/2^(b%32).toNat:=by
  rw[gY (by omega),gU _ (iJ (iM (by decide)))]
 have e2:(sw a).fdiv (2^min (b%32).toNat 32)=sw a/2^(b%32).toNat:=by
  rw[gY (by omega),gU _ (iJ (iM (by decide)))]
 have e3:min (b%32).toNat 32=(b%32).toNat:=gY (by omega);have hpl:AC prog 276 [iv 6] (iv 6):=by have:=Aw 6;simpa[CW]using this
 refine sZ func207 ntmps207 ?_;exact wx1 (qX3 (hpl) (Bp a b ha hb) (BQ (true))) trivial (kX3 @e0 @e0 @e3)
theorem U6(a b:Int)(ha:W32 a)(hb:W32 b):AC prog 207 [iv 20,uv a,uv b] (.tup [uv (uw (a*2^(b%32).toNat)),.bool true]):=by
 have e0:Bg .u32 b 31=b%32:=AV b 5 32 (by omega) (by decide);have e1:a.fdiv (2^min (b%32).toNat 32)=a/2^(b%32).toNat:=by
  rw[gY (by omega),gU _ (iJ (iM (by decide)))]
 have e2:(sw a).fdiv (2^min (b%32).toNat 32)=sw a/2^(b%32).toNat:=by
  rw[gY (by omega),gU _ (iJ (iM (by decide)))]
 have e3:min (b%32).toNat 32=(b%32).toNat:=gY (by omega);have hpl:AC prog 276 [iv 20] (iv 6):=by have:=Aw 20;simpa[CW]using this
 refine sZ func207 ntmps207 ?_;exact wx1 (qX3 (hpl) (Bp a b ha hb) (BQ (true))) trivial (kX3 @e0 @e0 @e3)
theorem Xi(a b:Int)(ha:W32 a)(hb:W32 b):AC prog 207 [iv 7,uv a,uv b] (.tup [uv (a/2^(b%32).toNat),.bool true]):=by
 have e0:Bg .u32 b 31=b%32:=AV b 5 32 (by omega) (by decide);have e1:a.fdiv (2^min (b%32).toNat 32)=a/2^(b%32).toNat:=by
  rw[gY (by omega),gU _ (iJ (iM (by decide)))]
 have e2:(sw a).fdiv (2^min (b%32).toNat 32)=sw a/2^(b%32).toNat:=by
  rw[gY (by omega),gU _ (iJ (iM (by decide)))]
 have e3:min (b%32).toNat 32=(b%32).toNat:=gY (by omega);have hpl:AC prog 276 [iv 7] (iv 7):=by have:=Aw 7;simpa[CW]using this
 refine sZ func207 ntmps207 ?_;exact wx1 (qX3 (hpl) (Bp a b ha hb) (BQ (true))) trivial (kX3 @e0 @e0 @e1)
theorem U7(a b:Int)(ha:W32 a)(hb:W32 b):AC prog 207 [iv 21,uv a,uv b] (.tup [uv (a/2^(b%32).toNat),.bool true]):=by
 have e0:Bg .u32 b 31=b%32:=AV b 5 32 (by omega) (by decide);have e1:a.fdiv (2^min (b%32).toNat 32)=a/2^(b%32).toNat:=by
  rw[gY (by omega),gU _ (iJ (iM (by decide)))]
 have e2:(sw a).fdiv (2^min (b%32).toNat 32)=sw a/2^(b%32).toNat:=by
  rw[gY (by omega),gU _ (iJ (iM (by decide)))]
 have e3:min (b%32).toNat 32=(b%32).toNat:=gY (by omega);have hpl:AC prog 276 [iv 21] (iv 7):=by have:=Aw 21;simpa[CW]using this
 refine sZ func207 ntmps207 ?_;exact wx1 (qX3 (hpl) (Bp a b ha hb) (BQ (true))) trivial (kX3 @e0 @e0 @e1)
theorem Xj(a b:Int)(ha:W32 a)(hb:W32 b):AC prog 207 [iv 8,uv a,uv b] (.tup [uv (uw (sw a/2^(b%32).toNat)),.bool true]):=by
 have e0:Bg .u32 b 31=b%32:=AV b 5 32 (by omega) (by decide);have e1:a.fdiv (2^min (b%32).toNat 32)=a/2^(b%32).toNat:=by
  rw[gY (by omega),gU _ (iJ (iM (by decide)))]
 have e2:(sw a).fdiv (2^min (b%32).toNat 32)=sw a/2^(b%32).toNat:=by
  rw[gY (by omega),gU _ (iJ (iM (by decide)))]
 have e3:min (b%32).toNat 32=(b%32).toNat:=gY (by omega);have hpl:AC prog 276 [iv 8] (iv 8):=by have:=Aw 8;simpa[CW]using this
 refine sZ func207 ntmps207 ?_;exact wx1 (qX3 (hpl) (Bp a b ha hb) (BQ (true))) trivial (kX3 @e0 @e0 @e2)
theorem U8(a b:Int)(ha:W32 a)(hb:W32 b):AC prog 207 [iv 22,uv a,uv b] (.tup [uv (uw (sw a/2^(b%32).toNat)),.bool true]):=by
 have e0:Bg .u32 b 31=b%32:=AV b 5 32 (by omega) (by decide);have e1:a.fdiv (2^min (b%32).toNat 32)=a/2^(b%32).toNat:=by
  rw[gY (by omega),gU _ (iJ (iM (by decide)))]
 have e2:(sw a).fdiv (2^min (b%32).toNat 32)=sw a/2^(b%32).toNat:=by
  rw[gY (by omega),gU _ (iJ (iM (by decide)))]
 have e3:min (b%32).toNat 32=(b%32).toNat:=gY (by omega);have hpl:AC prog 276 [iv 22] (iv 8):=by have:=Aw 22;simpa[CW]using this
 refine sZ func207 ntmps207 ?_;exact wx1 (qX3 (hpl) (Bp a b ha hb) (BQ (true))) trivial (kX3 @e0 @e0 @e2)
theorem Xk(a b:Int)(ha:W32 a)(hb:W32 b):AC prog 207 [iv 9,uv a,uv b] (.tup [uv (uw (a*b)),.bool true]):=by
 have e0:Bg .u32 b 31=b%32:=AV b 5 32 (by omega) (by decide);have e1:a.fdiv (2^min (b%32).toNat 32)=a/2^(b%32).toNat:=by
  rw[gY (by omega),gU _ (iJ (iM (by decide)))]
 have e2:(sw a).fdiv (2^min (b%32).toNat 32)=sw a/2^(b%32).toNat:=by
  rw[gY (by omega),gU _ (iJ (iM (by decide)))]
 have e3:min (b%32).toNat 32=(b%32).toNat:=gY (by omega);have hpl:AC prog 276 [iv 9] (iv 9):=by have:=Aw 9;simpa[CW]using this
 refine sZ func207 ntmps207 ?_;exact wx1 (qX3 (hpl) (Bp a b ha hb) (BQ (true))) trivial (kX2 @e0 @e0)
theorem UY(a b:Int)(ha:W32 a)(hb:W32 b):AC prog 207 [iv 10,uv a,uv b] (.tup [uv (Jq a b),.bool true]):=by
 have e0:Bg .u32 b 31=b%32:=AV b 5 32 (by omega) (by decide);have e1:a.fdiv (2^min (b%32).toNat 32)=a/2^(b%32).toNat:=by
  rw[gY (by omega),gU _ (iJ (iM (by decide)))]
 have e2:(sw a).fdiv (2^min (b%32).toNat 32)=sw a/2^(b%32).toNat:=by
  rw[gY (by omega),gU _ (iJ (iM (by decide)))]
 have e3:min (b%32).toNat 32=(b%32).toNat:=gY (by omega);have hpl:AC prog 276 [iv 10] (iv 10):=by have:=Aw 10;simpa[CW]using this
 refine sZ func207 ntmps207 ?_;exact wx1 (qX3 (hpl) (Bp a b ha hb) (BQ (true))) trivial (kX2 @e0 @e0)
theorem UZ(a b:Int)(ha:W32 a)(hb:W32 b):AC prog 207 [iv 11,uv a,uv b] (.tup [uv (Jr a b),.bool true]):=by
 have e0:Bg .u32 b 31=b%32:=AV b 5 32 (by omega) (by decide);have e1:a.fdiv (2^min (b%32).toNat 32)=a/2^(b%32).toNat:=by
  rw[gY (by omega),gU _ (iJ (iM (by decide)))]
 have e2:(sw a).fdiv (2^min (b%32).toNat 32)=sw a/2^(b%32).toNat:=by
  rw[gY (by omega),gU _ (iJ (iM (by decide)))]
 have e3:min (b%32).toNat 32=(b%32).toNat:=gY (by omega);have hpl:AC prog 276 [iv 11] (iv 11):=by have:=Aw 11;simpa[CW]using this
 refine sZ func207 ntmps207 ?_;exact wx1 (qX3 (hpl) (Bp a b ha hb) (BQ (true))) trivial (kX2 @e0 @e0)
theorem U0(a b:Int)(ha:W32 a)(hb:W32 b):AC prog 207 [iv 12,uv a,uv b] (.tup [uv (b2w (decide (sw a<sw b))),.bool true]):=by
 have e0:Bg .u32 b 31=b%32:=AV b 5 32 (by omega) (by decide);have e1:a.fdiv (2^min (b%32).toNat 32)=a/2^(b%32).toNat:=by
  rw[gY (by omega),gU _ (iJ (iM (by decide)))]
 have e2:(sw a).fdiv (2^min (b%32).toNat 32)=sw a/2^(b%32).toNat:=by
  rw[gY (by omega),gU _ (iJ (iM (by decide)))]
 have e3:min (b%32).toNat 32=(b%32).toNat:=gY (by omega);have hpl:AC prog 276 [iv 12] (iv 12):=by have:=Aw 12;simpa[CW]using this
 refine sZ func207 ntmps207 ?_;exact wx1 (qX3 (hpl) (Bp a b ha hb) (BQ (decide (sw a<sw b)))) trivial (kX2 @e0 @e0)
theorem U9(a b:Int)(ha:W32 a)(hb:W32 b):AC prog 207 [iv 23,uv a,uv b] (.tup [uv (b2w (decide (sw a<sw b))),.bool true]):=by
 have e0:Bg .u32 b 31=b%32:=AV b 5 32 (by omega) (by decide);have e1:a.fdiv (2^min (b%32).toNat 32)=a/2^(b%32).toNat:=by
  rw[gY (by omega),gU _ (iJ (iM (by decide)))]
 have e2:(sw a).fdiv (2^min (b%32).toNat 32)=sw a/2^(b%32).toNat:=by
  rw[gY (by omega),gU _ (iJ (iM (by decide)))]
 have e3:min (b%32).toNat 32=(b%32).toNat:=gY (by omega);have hpl:AC prog 276 [iv 23] (iv 12):=by have:=Aw 23;simpa[CW]using this
 refine sZ func207 ntmps207 ?_;exact wx1 (qX3 (hpl) (Bp a b ha hb) (BQ (decide (sw a<sw b)))) trivial (kX2 @e0 @e0)
theorem U1(a b:Int)(ha:W32 a)(hb:W32 b):AC prog 207 [iv 13,uv a,uv b] (.tup [uv (b2w (decide (a<b))),.bool true]):=by
 have e0:Bg .u32 b 31=b%32:=AV b 5 32 (by omega) (by decide);have e1:a.fdiv (2^min (b%32).toNat 32)=a/2^(b%32).toNat:=by
  rw[gY (by omega),gU _ (iJ (iM (by decide)))]
 have e2:(sw a).fdiv (2^min (b%32).toNat 32)=sw a/2^(b%32).toNat:=by
  rw[gY (by omega),gU _ (iJ (iM (by decide)))]
 have e3:min (b%32).toNat 32=(b%32).toNat:=gY (by omega);have hpl:AC prog 276 [iv 13] (iv 13):=by have:=Aw 13;simpa[CW]using this
 refine sZ func207 ntmps207 ?_;exact wx1 (qX3 (hpl) (Bp a b ha hb) (BQ (decide (a<b)))) trivial (kX2 @e0 @e0)
theorem Ld(op a b:Int)(ha:W32 a)(hb:W32 b)(h:(1<=op/\op<=13)\/(16<=op/\op<=23)):AC prog 207 [iv op,uv a,uv b] (.tup [uv ((SI op a b).getD 0),.bool true]):=by
 have hk:op=1\/op=16\/op=2\/op=3\/op=17\/op=4\/op=18\/op=5\/op=19\/op=6\/op=20\/op=7\/op=21\/op=8\/op=22\/op=9\/op=10\/op=11\/op=12\/op=23\/op=13:=by omega
 rcases hk with rfl|rfl|rfl|rfl|rfl|rfl|rfl|rfl|rfl|rfl|rfl|rfl|rfl|rfl|rfl|rfl|rfl|rfl|rfl|rfl|rfl
 ·exact X9 a b ha hb
 ·exact U2 a b ha hb
 ·exact Xb a b ha hb
 ·exact Xd a b ha hb
 ·exact U3 a b ha hb
 ·exact Xe a b ha hb
 ·exact U4 a b ha hb
 ·exact Xg a b ha hb
 ·exact U5 a b ha hb
 ·exact Xh a b ha hb
 ·exact U6 a b ha hb
 ·exact Xi a b ha hb
 ·exact U7 a b ha hb
 ·exact Xj a b ha hb
 ·exact U8 a b ha hb
 ·exact Xk a b ha hb
 ·exact UY a b ha hb
 ·exact UZ a b ha hb
 ·exact U0 a b ha hb
 ·exact U9 a b ha hb
 exact U1 a b ha hb
theorem Yc(n:Int):IntKind.i16.wrap n=(n+32768)%65536-32768:=by
 simp only[IntKind.wrap,IntKind.bits,IntKind.signed];have e1:(2:Int)^16=65536:=by decide
 have e2:(2:Int)^(16-1)=32768:=by decide
 simp only[e1,e2,Bool.true_and,decide_eq_true_eq];split<;>omega
theorem Fq(w:Int)(hw:W32 w):AC prog 157 [uv w] (aL w):=by
 have e1:w.fdiv 16777216=w/16777216%256:=by rw[Bi];have:=hw.1;have:=hw.2;omega
 have e2:Bg .u32 (w.fdiv 1048576) 15=w/1048576%16:=by
  rw[gU _ (by decide)];exact AV (w/1048576) 4 16 (by omega) (by decide)
 have e3:Bg .u32 (w.fdiv 65536) 15=w/65536%16:=by
  rw[gU _ (by decide)];exact AV (w/65536) 4 16 (by omega) (by decide)
 have e4:Bg .u32 w 65535=w%65536:=AV w 16 65536 (by omega) (by decide);have c1:IntKind.i64.wrap (w/16777216%256)=w/16777216%256:=AA;have c2:IntKind.i64.wrap (w/1048576%16)=w/1048576%16:=AA;have c3:IntKind.i64.wrap (w/65536%16)=w/65536%16:=AA;have c4:IntKind.i64.wrap (w%65536)=w%65536:=AA;have c5:IntKind.i32.wrap (w%65536)=w%65536:=by rw[IntKind.wrap_i32];omega
 have c6:IntKind.i16.wrap (w%65536)=IN (w%65536):=by rw[Yc];unfold IN;split<;>omega
 have c7:IntKind.i32.wrap (IN (w%65536))=IN (w%65536):=by rw[IntKind.wrap_i32];unfold IN;split<;>omega
 refine sY func157 ntmps157 (kX6 @e1 @e2 @e3 @c1 @c2 @c3) ?_;refine cX (JH (w/16777216%256)) ?_;intros;apply wr;by_cases e0:AK (w/16777216%256)=0
 ·have hv:validD (D1 w)=false:=by simp[validD,D1,e0]
  refine ED @e0 ?_;refine aw ?_;simp[hv,F7]
 refine BU @e0 ?_;intros;apply wr;by_cases e2:AK (w/16777216%256)=2
 ·have hd:D1 w=⟨w/16777216%256,w/1048576%16,w/65536%16,w%65536,0⟩:=by simp[D1,e2]
  refine DI @e2 (kX2 @e4 @c4) ?_;have hi:-2147483648<=((⟨w/16777216%256,w/1048576%16,w/65536%16,w%65536,0⟩:InstD)).imm/\((⟨w/16777216%256,w/1048576%16,w/65536%16,w%65536,0⟩:InstD)).imm<=2147483647:=by simp only[IN];omega
  refine cc (F2 (⟨w/16777216%256,w/1048576%16,w/65536%16,w%65536,0⟩:InstD) hi) ?_;intros;cases hv:validD (⟨w/16777216%256,w/1048576%16,w/65536%16,w%65536,0⟩:InstD)with
  | false =>
   refine au ?_;refine CV ?_;refine aw ?_;simp[hd,hv,F7]
  | true =>
   refine au ?_;refine C3 ?_;refine aw ?_;simp[hd,hv,F7]
 refine BU @e2 ?_;intros;apply wr;by_cases e3:AK (w/16777216%256)=3
 ·have hd:D1 w=⟨w/16777216%256,w/1048576%16,w/65536%16,0,IN (w%65536)⟩:=by simp[D1,e3]
  refine ED @e3 ?_;refine DI @e3 (kX3 @e4 @c6 @c7) ?_;have hi:-2147483648<=((⟨w/16777216%256,w/1048576%16,w/65536%16,0,IN (w%65536)⟩:InstD)).imm/\((⟨w/16777216%256,w/1048576%16,w/65536%16,0,IN (w%65536)⟩:InstD)).imm<=2147483647:=by simp only[IN];omega
  refine cc (F2 (⟨w/16777216%256,w/1048576%16,w/65536%16,0,IN (w%65536)⟩:InstD) hi) ?_;intros;cases hv:validD (⟨w/16777216%256,w/1048576%16,w/65536%16,0,IN (w%65536)⟩:InstD)with
  | false =>
   refine au ?_;refine CV ?_;refine aw ?_;simp[hd,hv,F7]
  | true =>
   refine au ?_;refine C3 ?_;refine aw ?_;simp[hd,hv,F7]
 refine BU @e3 ?_;intros;apply wr;by_cases e7:AK (w/16777216%256)=7
 ·have hd:D1 w=⟨w/16777216%256,w/1048576%16,w/65536%16,0,IN (w%65536)⟩:=by simp[D1,e7]
  refine DI @e7 (kX3 @e4 @c6 @c7) ?_;have hi:-2147483648<=((⟨w/16777216%256,w/1048576%16,w/65536%16,0,IN (w%65536)⟩:InstD)).imm/\((⟨w/16777216%256,w/1048576%16,w/65536%16,0,IN (w%65536)⟩:InstD)).imm<=2147483647:=by simp only[IN];omega
  refine cc (F2 (⟨w/16777216%256,w/1048576%16,w/65536%16,0,IN (w%65536)⟩:InstD) hi) ?_;intros;cases hv:validD (⟨w/16777216%256,w/1048576%16,w/65536%16,0,IN (w%65536)⟩:InstD)with
  | false =>
   refine au ?_;refine CV ?_;refine aw ?_;simp[hd,hv,F7]
  | true =>
   refine au ?_;refine C3 ?_;refine aw ?_;simp[hd,hv,F7]
 refine cF1 @e7 rfl ?_;have hd:D1 w=⟨w/16777216%256,w/1048576%16,w/65536%16,0,w%65536⟩:=by simp[D1,e2,e3,e7]
 refine au1 (kX2 @e4 @c5) ?_;have hi:-2147483648<=((⟨w/16777216%256,w/1048576%16,w/65536%16,0,w%65536⟩:InstD)).imm/\((⟨w/16777216%256,w/1048576%16,w/65536%16,0,w%65536⟩:InstD)).imm<=2147483647:=by simp only[IN];omega
 refine cc (F2 (⟨w/16777216%256,w/1048576%16,w/65536%16,0,w%65536⟩:InstD) hi) ?_;intros;cases hv:validD (⟨w/16777216%256,w/1048576%16,w/65536%16,0,w%65536⟩:InstD)with
 | false =>
  refine au ?_;refine CV ?_;refine aw ?_;simp[hd,hv,F7]
 | true =>
  refine au ?_;refine C3 ?_;refine aw ?_;simp[hd,hv,F7]
abbrev EH(l:List Int):Ob:=⟨25,1,false,false,ints .u32 l⟩
theorem YG{nx:Nat}{ob:List (Nat×Option Ob)}(j:Nat)(l:List Int)(a v:Int)(ha:W32 a)(hj:lookO ob j=some (EH l))(hi:(a/4).toNat<l.length):
  Bt prog 259 [.own j,uv a,iv 4,uv v] nx ob fun r nx' ob'=>r=.tup []/\nx'=nx/\ob'=(j,some (EH (Ca l a 4 v)))::ob:=by
 have e1:=N3 ha;have e3:=AN .u32 l;have e7:(0:Int)<=a/4:=by have:=ha.1;omega
 have e8:a/4<(l.length:Int):=by omega
 refine sIY func259 ntmps259 (kX2 @hj @e1) ?_;intros;apply wr;refine cT0 rfl ?_;have e2:=CN (k:=.u32) (F3 hi);have g2:∀h,(ints .u32 l)[(a/4).toNat]'h=[uv (wAt l (a/4))]:=fun h=>by rw[gR h]at e2;simpa using e2
 refine au1 (kX6 @hj @e1 @e3 @e2 @g2 @ints_set) ?_;refine ar ?_;simp[Ca,ints_set]
theorem QW{nx:Nat}{ob:List (Nat×Option Ob)}(j:Nat)(l:List Int)(a v:Int)(ha:W32 a)(hl:OkW l)(hj:lookO ob j=some (EH l))(hi:(a/4).toNat<l.length):
  Bt prog 259 [.own j,uv a,iv 1,uv v] nx ob fun r nx' ob'=>r=.tup []/\nx'=nx/\ob'=(j,some (EH (Ca l a 1 v)))::ob:=by
 have e1:=N3 ha;have e3:=AN .u32 l;have e4:=Ln ha.1;have e5:IntKind.u32.wrap (8*(a%4))=8*(a%4):=u32_in;have e7:(0:Int)<=a/4:=by have:=ha.1;omega
 have e8:a/4<(l.length:Int):=by omega
 have e9:min (8*(a%4)).toNat 32=(8*(a%4)).toNat:=by omega
 obtain⟨w,hw'⟩:∃w,w=wAt l (a/4):=⟨_,rfl⟩;have e2:=CN (k:=.u32) (F3 hi);rw[<- hw']at e2;have hw2:=hw'.symm;have hs:=setB w v (a%4) (by rw[hw'];exact PD hl _) (by omega);have ha4:a%4=0\/a%4=1\/a%4=2\/a%4=3:=by omega
 have f1:IntKind.u32.wrap (255*2^(8*(a%4)).toNat)=255*2^(8*(a%4)).toNat:=by
  rcases ha4 with h|h|h|h<;>rw[h]<;>decide
 have f2:IntKind.u32.wrap (v%256*2^(8*(a%4)).toNat)=v%256*2^(8*(a%4)).toNat:=by
  rcases ha4 with h|h|h|h<;>rw[h]<;>exact u32_in (by simp;omega) (by simp;omega)
 refine sIY func259 ntmps259 (kX4 @hj @e1 @e4 @e5) ?_;intros;apply wr;refine cF0 rfl ?_;have g2:∀h,(ints .u32 l)[(a/4).toNat]'h=[uv w]:=fun h=>by rw[gR h]at e2;simpa using e2
 refine au1 (kX13 @hj @e1 @e2 @e3 @e4 @e5 @e9 @f1 @f2 @hs @g2 @Cb @ints_set) ?_;intros;apply wr;simp[Ca,ints_set,hw2]
theorem walkC(w acc P F:Int)(ha:acc=1\/acc=2\/acc=3):(Bg .u32 w 1==0||acc==3&&Bg .u32 w 2==0||acc==1&&Bg .u32 w 4==0||decide (P<=F))=!decide (La w acc=true/\F<P):=by
 have e:decide (P<=F)=!decide (F<P):=by by_cases h:F<P<;>simp[h]<;>omega
 rw[e];unfold La;simp only[Bool.decide_and,Bool.decide_eq_true];generalize decide (F<P)=b;by_cases k1:Bg .u32 w 1=0<;>by_cases k2:Bg .u32 w 2=0<;>by_cases k4:Bg .u32 w 4=0<;>cases b<;>rcases ha with rfl|rfl|rfl<;>simp[k1,k2,k4]
def CZ(nx:Nat)(ob:List (Nat×Option Ob))(j:Nat)(l:List Int)(nx':Nat)(ob':List (Nat×Option Ob)):Prop :=
 nx<=nx'/\lookO ob' j=some (EH l)/\∀i,i<nx->i≠j->lookO ob' i=lookO ob i
theorem J8{nx:Nat}{ob:List (Nat×Option Ob)}(j:Nat)(l:List Int)(hj:lookO ob j=some (EH l)):
  Bt prog 143 [.own j] nx ob fun r nx' ob'=>r=iv (pagesD l)/\nx'=nx/\ob'=ob:=by
 have e3:=AN .u32 l;refine sIY func143 ntmps143 (kX2 @hj @e3) ?_;exact wx1 trivial trivial (kX3 @hj @e3 @pagesD.eq_1)
theorem Fu{nx:Nat}{ob:List (Nat×Option Ob)}(j:Nat)(l:List Int)(a s:Int)(hj:lookO ob j=some (EH l))(hs:s=1\/s=4)(ha:W32 a):
  Bt prog 201 [.own j,uv a,iv s] nx ob fun r nx' ob'=>r=.bool (AS l a s)/\nx'=nx/\ob'=ob:=by
 have hpg:=Ad l;have e1:IntKind.i64.wrap (128*pagesD l)=128*pagesD l:=AA;have e2:IntKind.u32.wrap (128*pagesD l)=128*pagesD l:=u32_in;have e5:=Ln ha.1;rcases hs with rfl|rfl
 ·have e6:AS l a 1=decide (a<128*pagesD l):=by
   have:(a+1<=pagesD l*128)=(a<128*pagesD l):=by apply propext;omega
   unfold AS;simp[this]
  refine sIX func201 ntmps201 ?_;refine EG (kX3 @e5 @D5 @IA) ?_;intros;apply wr;refine cO ?_;refine(J8 j l hj).mono fun r nx' ob' hp=>?_;simp only[BX];obtain⟨rfl,rfl,rfl⟩:=hp;simp[e1,e2];refine au ?_;refine ar ?_;simp[e6]
 by_cases h4:a%4=0
 ·have e6:AS l a 4=decide (a<128*pagesD l):=by
   unfold AS;have:(a+4<=pagesD l*128)=(a<128*pagesD l):=by apply propext;omega
   simp[h4,this]
  refine sIX func201 ntmps201 ?_;refine EG (kX4 @e5 @h4 @D5 @IA) ?_;intros;apply wr;refine cO ?_;refine(J8 j l hj).mono fun r nx' ob' hp=>?_;simp only[BX];obtain⟨rfl,rfl,rfl⟩:=hp;simp[e1,e2];refine au ?_;refine ar ?_;simp[e6]
 have e6:AS l a 4=false:=by
  unfold AS;simp[h4]
 have hb:(a%4==0)=false:=by simp[h4]
 refine sIX func201 ntmps201 ?_;refine EG (kX4 @e5 @hb @D5 @IA) ?_;refine ar ?_;simp[e6]
theorem QT{nx:Nat}{ob:List (Nat×Option Ob)}(j:Nat)(l:List Int)(a s:Int)(hj:lookO ob j=some (EH l))(hs:s=1\/s=4)(ha:W32 a):
  Bt prog 156 [.own j,uv a,iv s] nx ob fun r nx' ob'=>r=.tup [uv (if AS l a s=true then Bw l a s else 0),.bool (AS l a s)]/\nx'=nx/\ob'=ob:=by
 have hW:Bt prog 201 [.own j,uv a,iv s] nx ob fun r nx' ob'=>r=.bool (AS l a s)/\nx'=nx/\ob'=ob:=Fu j l a s hj hs ha;cases hw:AS l a s with
 | false =>
  rw[hw]at hW;refine sIX func156 ntmps156 ?_;intros;apply wr;refine cO ?_;refine(hW).mono fun r nx' ob' hp=>?_;simp only[BX];obtain⟨rfl,rfl,rfl⟩:=hp;simp;refine au ?_;refine CV ?_;refine ar ?_;simp
 | true =>
  rw[hw]at hW;have hi:=Bm hw ha.1;have e1:=N3 ha;obtain⟨w,hw'⟩:∃w,w=wAt l (a/4):=⟨_,rfl⟩;have e2:=CN (k:=.u32) (F3 hi);rw[<- hw']at e2;have g2:∀h,(ints .u32 l)[(a/4).toNat]'h=[uv w]:=fun h=>by rw[gR h]at e2;simpa using e2
  have hw2:=hw'.symm;have e3:=AN .u32 l;have e4:=Ln ha.1;have e5:IntKind.u32.wrap (8*(a%4))=8*(a%4):=u32_in;have e6:w.fdiv (2^min (8*(a%4)).toNat 32)=w/2^(8*(a%4)).toNat:=by
   rw[gY (by omega),gU _ (iJ (iM (by decide)))]
  have e7:(0:Int)<=a/4:=by have:=ha.1;omega
  have e8:a/4<(l.length:Int):=by omega
  have e9:w/2^(8*(a%4)).toNat%256=byteAt w (a%4):=rfl;rcases hs with rfl|rfl
  ·refine sIX func156 ntmps156 ?_;intros;apply wr;refine cO ?_;refine(hW).mono fun r nx' ob' hp=>?_;simp only[BX];obtain⟨rfl,rfl,rfl⟩:=hp;simp;refine au ?_;refine EG (kX5 @hj @e1 @e2 @e3 @g2) ?_;refine IZ (kX5 @e4 @e5 @e6 @e9 @Cb) ?_;refine ar ?_;simp[Bw,hw2]
  refine sIX func156 ntmps156 ?_;intros;apply wr;refine cO ?_;refine(hW).mono fun r nx' ob' hp=>?_;simp only[BX];obtain⟨rfl,rfl,rfl⟩:=hp;simp;refine au ?_;refine EG (kX5 @hj @e1 @e2 @e3 @g2) ?_;refine C3 ?_;refine ar ?_;simp[Bw,hw2]
def RPost(nx:Nat)(ob:List (Nat×Option Ob))(nx':Nat)(ob':List (Nat×Option Ob)):Prop :=
 nx<=nx'/\∀i,i<nx->lookO ob' i=lookO ob i
theorem QY{nx:Nat}{ob:List (Nat×Option Ob)}(j:Nat)(l:List Int)(root va acc:Int)(hr:W32 root)(hv:W32 va)(ha:acc=1\/acc=2\/acc=3)(hj:lookO ob j=some (EH l))(hjn:j<nx):
  Bt prog 270 [.own j,uv root,uv va,iv acc] nx ob fun r nx' ob'=>r=Cl l root va acc/\RPost nx ob nx' ob':=by
 have n1:¬j=nx:=by omega
 have n2:¬j=nx+1:=by omega
 have n3:¬j=nx+1+1:=by omega
 have n4:¬nx=nx+1+1:=by omega
 have n5:¬nx+1+1=nx:=by omega
 have hjj:lookO ob j=some (EH l):=hj;have hpg:=Ad l;have hc:AC prog 269 [iv acc] (iv (acc+3)):=by
  have:=NM acc;rcases ha with rfl|rfl|rfl<;>simpa using this
 have hk:AC prog 267 [iv acc] (.bool true):=by
  have:=NW acc;rcases ha with rfl|rfl|rfl<;>simpa using this
 have w0:IntKind.u32.wrap (pagesD l)=pagesD l:=u32_in;by_cases h1:va<4096
 ·by_cases h2:root<pagesD l
  ·have hi:=IT h2 hr.1 h1 hv.1;obtain⟨e,he⟩:∃e,e=root*128+va/128*4:=⟨_,rfl⟩;rw[<- he]at hi;have w1:IntKind.u32.wrap (va.tdiv 128)=va/128:=by rw[Int.tdiv_eq_ediv_of_nonneg hv.1];exact u32_in
   have w2:IntKind.u32.wrap (4*(va/128))=va/128*4:=by rw[u32_in];omega
   have w3:IntKind.u32.wrap (root*128)=root*128:=u32_in;have w4:IntKind.u32.wrap (root*128+va/128*4)=e:=by rw[he];exact u32_in
   have hx:=Bm hi (by omega);have x1:=N3 (a:=e) ⟨by omega,by omega⟩;have x2:=CN (k:=.u32) (F3 hx);have x3:=AN .u32 l;have x4:(0:Int)<=e/4:=by omega
   have x5:e/4<(l.length:Int):=by omega
   obtain⟨w,hw⟩:∃w,w=wAt l (e/4):=⟨_,rfl⟩;rw[<- hw]at x2;have x6:Bg .u32 (w.fdiv 256) 255=w/256%256:=by rw[Cb,IF]
   have w5:va.tmod 128=va%128:=Int.tmod_eq_emod_of_nonneg hv.1;have hE:Cl l root va acc=if La w acc=true/\w/256%256<pagesD l then .st [uv (w/256%256*128+va%128),uv e,iv 0]else .st [uv 0,uv 0,iv (acc+3)]:=by
    unfold Cl F4;rw[<- he,<- hw];by_cases q:La w acc=true/\w/256%256<pagesD l
    ·rw[if_pos ⟨h1,h2,q⟩,if_pos q]
    rw[if_neg (fun h=>q h.2.2),if_neg q]
   have hcond:(Bg .u32 w 1==0||acc==3&&Bg .u32 w 2==0||acc==1&&Bg .u32 w 4==0||decide (pagesD l<=w/256%256))=!decide (La w acc=true/\w/256%256<pagesD l):=walkC w acc _ _ ha;rw[hE];refine sIX func270 ntmps270 ?_;refine cX (hc) ?_;intros;apply wr;refine cO ?_;refine(J8 j l (by simp[lookO,n1,n2,n3,hj])).mono fun r nx' ob' hp=>?_;simp only[BX];obtain⟨rfl,rfl,rfl⟩:=hp;simp[w0];refine au ?_;refine cc1 (hk) @w0 ?_;have m1:¬4096<=va:=by omega
   have m2:¬pagesD l<=root:=by omega
   refine au1 (kX3 @w0 @m1 @m2) ?_;refine EP (kX2 @m1 @m2) (kX14 @w1 @w2 @w3 @w4 @x1 @x2 @x3 @x6 @hj @n1 @n2 @n3 @n4 @n5) ?_;intros;apply wr;refine AB rfl (fun hq=>?_) (fun hq=>?_)
   ·rw[hcond]at hq;simp only[i7,decide_eq_false_iff_not]at hq;rw[if_neg hq];refine au1 (kX2 @n4 @n5) ?_;intros;apply wr;refine ar ?_;simp[n4,n5];refine⟨by omega,fun i hi=>?_⟩;have r1:¬i=nx:=by omega
    have r2:¬i=nx+1+1:=by omega
    simp[lookO,r1,r2]
   rw[hcond]at hq;simp only[Bool.not_eq_false',decide_eq_true_eq]at hq;have w6:IntKind.u32.wrap (w/256%256*128)=w/256%256*128:=u32_in (by omega) (by have:=hq.2;omega);have w7:IntKind.u32.wrap (w/256%256*128+va%128)=w/256%256*128+va%128:=u32_in (by omega) (by have:=hq.2;omega);rw[if_pos hq];refine au1 (kX5 @w5 @w6 @w7 @n4 @n5) ?_;intros;apply wr;refine ar ?_;simp[n4,n5,hq.1,hq.2];refine⟨by omega,fun i hi=>?_⟩;have r1:¬i=nx:=by omega
   have r2:¬i=nx+1+1:=by omega
   simp[lookO,r1,r2]
  have hV:Cl l root va acc=.st [uv 0,uv 0,iv (acc+3)]:=by
   unfold Cl F4;rw[if_neg (fun q=>h2 q.2.1)]
  rw[hV];have m1:¬4096<=va:=by omega
  have m2:pagesD l<=root:=by omega
  refine sIX func270 ntmps270 ?_;refine cX (hc) ?_;intros;apply wr;refine cO ?_;refine(J8 j l (by simp[lookO,n1,n2,n3,hj])).mono fun r nx' ob' hp=>?_;simp only[BX];obtain⟨rfl,rfl,rfl⟩:=hp;simp[w0];refine au ?_;refine cZ (hk) @w0 (kX3 @w0 @m1 @m2) ?_;refine DI (kX2 @m1 @m2) (kX2 @n4 @n5) ?_;intros;apply wr;refine ar ?_;simp[n4,n5];refine⟨by omega,fun i hi=>?_⟩;have r1:¬i=nx:=by omega
  have r2:¬i=nx+1+1:=by omega
  simp[lookO,r1,r2]
 have hV:Cl l root va acc=.st [uv 0,uv 0,iv (acc+3)]:=by
  unfold Cl F4;rw[if_neg (fun q=>h1 q.1)]
 rw[hV];have h1':4096<=va:=by omega
 refine sIX func270 ntmps270 ?_;refine cX (hc) ?_;intros;apply wr;refine cO ?_;refine(J8 j l (by simp[lookO,n1,n2,n3,hj])).mono fun r nx' ob' hp=>?_;simp only[BX];obtain⟨rfl,rfl,rfl⟩:=hp;simp[w0];refine au ?_;refine cZ (hk) @w0 (kX2 @w0 @h1') ?_;refine DI @h1' (kX2 @n4 @n5) ?_;intros;apply wr;refine ar ?_;simp[n4,n5];refine⟨by omega,fun i hi=>?_⟩;have r1:¬i=nx:=by omega
 have r2:¬i=nx+1+1:=by omega
 simp[lookO,r1,r2]
theorem QU{nx:Nat}{ob:List (Nat×Option Ob)}(j:Nat)(l:List Int)(e acc:Int)(he:W32 e)(hj:lookO ob j=some (EH l))(hw:AS l e 4=true):
  Bt prog 271 [.own j,uv e,iv acc] nx ob fun r nx' ob'=>r=.tup []/\CZ nx ob j (EI l e acc) nx' ob':=by
 have hi:=Bm hw he.1;have e1:=N3 he;have e3:=AN .u32 l;have hW:=Fu (nx:=nx) (ob:=ob) j l e 4 hj (.inr rfl) he;rw[hw]at hW;have e2:=CN (k:=.u32) (F3 hi);have g2:∀h,(ints .u32 l)[(e/4).toNat]'h=[uv (wAt l (e/4))]:=fun h=>by rw[gR h]at e2;simpa using e2
 have e7:(0:Int)<=e/4:=by have:=he.1;omega
 have e8:e/4<(l.length:Int):=by omega
 have s1:∀x,(ints .u32 l).set (e/4).toNat [uv x]=ints .u32 (l.set (e/4).toNat x):=fun x=>ints_set .u32 l _ x;generalize hq:wAt l (e/4)=w at e2 g2;by_cases ha:acc=3
 ·subst ha;have f1:∀x,(ints .u32 (l.set (e/4).toNat x))[(e/4).toNat]? =some [uv x]:=fun x=>CN (by rw[List.getElem?_set_self hi]);have f2:∀x h,(ints .u32 (l.set (e/4).toNat x))[(e/4).toNat]'h=[uv x]:=fun x h=>by have:=f1 x;rw[gR h]at this;simpa using this
  have f3:∀x,(ints .u32 (l.set (e/4).toNat x)).length=l.length:=fun x=>by rw[AN,List.length_set]
  have f4:∀x y,(ints .u32 (l.set (e/4).toNat x)).set (e/4).toNat [uv y]=ints .u32 (l.set (e/4).toNat y):=fun x y=>by rw[ints_set,List.set_set]
  refine sIX func271 ntmps271 ?_;intros;apply wr;refine cO ?_;refine(hW).mono fun r nx' ob' hp=>?_;simp only[BX];obtain⟨rfl,rfl,rfl⟩:=hp;simp;refine au ?_;refine EG (kX6 @hj @e1 @e2 @e3 @g2 @s1) ?_;refine IZ (kX5 @e1 @f1 @f2 @f3 @f4) ?_;intros;apply wr;simp[EI,Km,hq,s1,f4];intro i h1 h2;simp[h2]
 refine sIX func271 ntmps271 ?_;intros;apply wr;refine cO ?_;refine(hW).mono fun r nx' ob' hp=>?_;simp only[BX];obtain⟨rfl,rfl,rfl⟩:=hp;simp;refine au ?_;refine EG (kX6 @hj @e1 @e2 @e3 @g2 @s1) ?_;refine BU @ha ?_;intros;apply wr;simp[EI,Km,hq,ha,s1];intro i h1 h2 h3;exact absurd h3 h2
theorem Nb{l:List Int}{root va acc a e:Int}(hr:W32 root)(hv:W32 va)(h:F4 l root va acc=some (a,e)):AS l e 4=true/\W32 e/\W32 a:=by
 unfold F4 at h;split at h
 ·rename_i hq;have hpg:=Ad l;simp only[gQ,Prod.mk.injEq]at h;obtain⟨rfl,rfl⟩:=h;obtain⟨h1,h2,h3,h4⟩:=hq;refine⟨IT h2 hr.1 h1 hv.1,?_,?_⟩
  ·have:=hr.1;have:=hv.1;omega
  generalize wAt l ((root*128+va/128*4)/4)=w at h4 ⊢;have:=hv.1;omega
 cases h
theorem EZ{nx:Nat}{ob:List (Nat×Option Ob)}(j:Nat)(c:CpuD)(l:List Int)(va size acc:Int)(hC:OkC c)(hv:W32 va)(hs:size=1\/size=4)(ha:acc=1\/acc=2\/acc=3)(hj:lookO ob j=some (EH l))(hjn:j<nx):
  Bt prog 202 [.st c.row,.own j,uv va,iv size,iv acc] nx ob fun r nx' ob'=>r=.tup [uv (AG c l va size acc).1,iv (AG c l va size acc).2.2]/\CZ nx ob j (AG c l va size acc).2.1 nx' ob':=by
 have n1:¬j=nx:=by omega
 have n2:¬nx=j:=by omega
 have hc:AC prog 269 [iv acc] (iv (acc+3)):=by
  have:=NM acc;rcases ha with rfl|rfl|rfl<;>simpa using this
 have hk:AC prog 267 [iv acc] (.bool true):=by
  have:=NW acc;rcases ha with rfl|rfl|rfl<;>simpa using this
 have hpa:=Uw c hC;have e4:=Ln hv.1;have e1:va%1=0:=by omega
 by_cases hm:va%size=0
 ·cases hp0:FU c with
  | false =>
   rw[hp0]at hpa;rcases hs with rfl|rfl
   ·cases hwi:AS l va 1 with
    | true =>
     have hE:AG c l va 1 acc=(va,l,0):=by unfold AG;rw[nG,if_neg (by simp[hp0]),if_pos hwi]
     rw[hE];refine sIX func202 ntmps202 ?_;refine cX (hk) ?_;refine EG (kX3 @D5 @e4 @hm) ?_;refine C3 ?_;refine cX (hpa) ?_;refine CV ?_;intros;apply wr;refine cO ?_;refine(Fu j l va 1 (by simp[lookO,n1,hj]) (by omega) hv).mono fun r nx' ob' hp=>?_;simp only[BX];obtain⟨rfl,rfl,rfl⟩:=hp;simp[hwi];refine au ?_;refine C3 ?_;intros;apply wr;refine ar ?_;simp[CZ,lookO,n1,hj];refine⟨by omega,fun i h1 h2=>?_⟩;first|(intro h3;omega)|(have r1:¬i=nx:=by omega;simp[r1])
    | false =>
     have hE:AG c l va 1 acc=(0,l,acc+3):=by unfold AG;rw[nG,if_neg (by simp[hp0]),if_neg (by simp[hwi])]
     rw[hE];refine sIX func202 ntmps202 ?_;refine cX (hk) ?_;refine EG (kX3 @D5 @e4 @hm) ?_;refine C3 ?_;refine cX (hpa) ?_;refine CV ?_;intros;apply wr;refine cO ?_;refine(Fu j l va 1 (by simp[lookO,n1,hj]) (by omega) hv).mono fun r nx' ob' hp=>?_;simp only[BX];obtain⟨rfl,rfl,rfl⟩:=hp;simp[hwi];refine au ?_;refine CV ?_;refine cX (hc) ?_;intros;apply wr;refine ar ?_;simp[CZ,lookO,n1,hj];refine⟨by omega,fun i h1 h2=>?_⟩;first|(intro h3;omega)|(have r1:¬i=nx:=by omega;simp[r1])
   cases hwi:AS l va 4 with
   | true =>
    have hE:AG c l va 4 acc=(va,l,0):=by unfold AG;rw[nG,if_neg (by simp[hp0]),if_pos hwi]
    rw[hE];refine sIX func202 ntmps202 ?_;refine cX (hk) ?_;refine EG (kX3 @D5 @e4 @hm) ?_;refine BU @hm ?_;refine cX (hpa) ?_;refine CV ?_;intros;apply wr;refine cO ?_;refine(Fu j l va 4 (by simp[lookO,n1,hj]) (by omega) hv).mono fun r nx' ob' hp=>?_;simp only[BX];obtain⟨rfl,rfl,rfl⟩:=hp;simp[hwi];refine au ?_;refine C3 ?_;intros;apply wr;refine ar ?_;simp[CZ,lookO,n1,hj];refine⟨by omega,fun i h1 h2=>?_⟩;first|(intro h3;omega)|(have r1:¬i=nx:=by omega;simp[r1])
   | false =>
    have hE:AG c l va 4 acc=(0,l,acc+3):=by unfold AG;rw[nG,if_neg (by simp[hp0]),if_neg (by simp[hwi])]
    rw[hE];refine sIX func202 ntmps202 ?_;refine cX (hk) ?_;refine EG (kX3 @D5 @e4 @hm) ?_;refine BU @hm ?_;refine cX (hpa) ?_;refine CV ?_;intros;apply wr;refine cO ?_;refine(Fu j l va 4 (by simp[lookO,n1,hj]) (by omega) hv).mono fun r nx' ob' hp=>?_;simp only[BX];obtain⟨rfl,rfl,rfl⟩:=hp;simp[hwi];refine au ?_;refine CV ?_;refine cX (hc) ?_;intros;apply wr;refine ar ?_;simp[CZ,lookO,n1,hj];refine⟨by omega,fun i h1 h2=>?_⟩;first|(intro h3;omega)|(have r1:¬i=nx:=by omega;simp[r1])
  | true =>
   rw[hp0]at hpa;rcases hs with rfl|rfl
   ·cases hwk:F4 l (c.csr 6) va acc with
    | none =>
     have hE:AG c l va 1 acc=(0,l,acc+3):=by unfold AG;rw[nG,if_pos hp0,hwk]
     have hV:Cl l (c.csr 6) va acc=.st [uv 0,uv 0,iv (acc+3)]:=by unfold Cl;rw[hwk]
     have hne:¬acc+3=0:=by omega
     rw[hE];refine sIX func202 ntmps202 ?_;refine cX (hk) ?_;refine EG (kX3 @D5 @e4 @hm) ?_;refine C3 ?_;refine cX (hpa) ?_;refine C3 ?_;intros;apply wr;refine cO ?_;refine(QY j l (c.csr 6) va acc (hC.csr 6) hv ha (by simp[lookO,n1,hj]) (by omega)).mono fun r nx' ob' hp=>?_;simp only[BX];obtain⟨rfl,g1,g2⟩:=hp;have c1:=g2 nx (by omega);have c2:=g2 j (by omega);simp[lookO]at c1;simp[lookO,n1,hj]at c2;have m1:¬j=nx':=by omega
     have m2:¬nx=nx':=by omega
     have m3:¬nx'=nx:=by omega
     have m4:¬nx'=j:=by omega
     simp[hV];refine au ?_;refine ED @hne ?_;intros;apply wr;refine AD 4 [0,1,0,7] [(3,([[],[0],[]],[])),(1,([],[]))] ?_;refine af ?_;refine af ?_;intros;apply wr;refine ar ?_;simp[CZ];exact⟨by omega,by simp[lookO,m1,c2],fun i h1 h2=>by
      have r1:¬i=nx':=by omega
      have r2:¬i=nx:=by omega
      simp[lookO,r1,g2 i (by omega),r2]⟩
    | some p =>
     obtain⟨a,e⟩:=p;have hE:AG c l va 1 acc=(a,EI l e acc,0):=by unfold AG;rw[nG,if_pos hp0,hwk]
     have hV:Cl l (c.csr 6) va acc=.st [uv a,uv e,iv 0]:=by unfold Cl;rw[hwk]
     obtain⟨q1,q2,q3⟩:=Nb (hC.csr 6) hv hwk;rw[hE];refine sIX func202 ntmps202 ?_;refine cXf (hk) ?_;refine LI (kX3 @D5 @e4 @hm) ?_;refine BN ?_;refine cXf (hpa) ?_;refine BN ?_;intros;apply wr;refine cO ?_;refine(QY j l (c.csr 6) va acc (hC.csr 6) hv ha (by simp[lookO,n1,hj]) (by omega)).mono fun r nx' ob' hp=>?_;simp only[BX];obtain⟨rfl,g1,g2⟩:=hp;have c1:=g2 nx (by omega);have c2:=g2 j (by omega);simp[lookO]at c1;simp[lookO,n1,hj]at c2;have m1:¬j=nx':=by omega
     have m2:¬nx=nx':=by omega
     have m3:¬nx'=nx:=by omega
     have m4:¬nx'=j:=by omega
     simp[hV];refine af ?_;refine BN ?_;intros;apply wr;obtain⟨na,rfl⟩:∃na,na=nx':=⟨_,rfl⟩;obtain⟨oa,rfl⟩:∃oa,oa=ob':=⟨_,rfl⟩;refine cO ?_;refine(QU j l e acc q2 (by simp[lookO,m1,c2]) q1).mono fun r nx' ob' hp=>?_;simp only[BX];obtain⟨rfl,k1,k2,k3⟩:=hp;have c3:=k3 na (by omega) (fun h=>m4 h);simp[lookO]at c3;simp[c3];refine af1 @c3 ?_;intros;apply wr;refine ar ?_;simp[CZ];exact⟨by omega,k2,fun i h1 h2=>by
      have r1:¬i=na:=by omega
      have r2:¬i=nx:=by omega
      rw[k3 i (by omega) h2];simp[lookO,r1,g2 i (by omega),r2]⟩
   cases hwk:F4 l (c.csr 6) va acc with
   | none =>
    have hE:AG c l va 4 acc=(0,l,acc+3):=by unfold AG;rw[nG,if_pos hp0,hwk]
    have hV:Cl l (c.csr 6) va acc=.st [uv 0,uv 0,iv (acc+3)]:=by unfold Cl;rw[hwk]
    have hne:¬acc+3=0:=by omega
    rw[hE];refine sIX func202 ntmps202 ?_;refine cXf (hk) ?_;refine LI (kX3 @D5 @e4 @hm) ?_;refine Ac @hm ?_;refine cXf (hpa) ?_;refine BN ?_;intros;apply wr;refine cO ?_;refine(QY j l (c.csr 6) va acc (hC.csr 6) hv ha (by simp[lookO,n1,hj]) (by omega)).mono fun r nx' ob' hp=>?_;simp only[BX];obtain⟨rfl,g1,g2⟩:=hp;have c1:=g2 nx (by omega);have c2:=g2 j (by omega);simp[lookO]at c1;simp[lookO,n1,hj]at c2;have m1:¬j=nx':=by omega
    have m2:¬nx=nx':=by omega
    have m3:¬nx'=nx:=by omega
    have m4:¬nx'=j:=by omega
    simp[hV];refine af ?_;refine Ei @hne ?_;intros;apply wr;refine AD 4 [0,1,0,7] [(3,([[],[0],[]],[])),(1,([],[]))] ?_;refine af ?_;refine af ?_;intros;apply wr;refine ar ?_;simp[CZ];exact⟨by omega,by simp[lookO,m1,c2],fun i h1 h2=>by
     have r1:¬i=nx':=by omega
     have r2:¬i=nx:=by omega
     simp[lookO,r1,g2 i (by omega),r2]⟩
   | some p =>
    obtain⟨a,e⟩:=p;have hE:AG c l va 4 acc=(a,EI l e acc,0):=by unfold AG;rw[nG,if_pos hp0,hwk]
    have hV:Cl l (c.csr 6) va acc=.st [uv a,uv e,iv 0]:=by unfold Cl;rw[hwk]
    obtain⟨q1,q2,q3⟩:=Nb (hC.csr 6) hv hwk;rw[hE];refine sIX func202 ntmps202 ?_;refine cXf (hk) ?_;refine LI (kX3 @D5 @e4 @hm) ?_;refine Ac @hm ?_;refine cXf (hpa) ?_;refine BN ?_;intros;apply wr;refine cO ?_;refine(QY j l (c.csr 6) va acc (hC.csr 6) hv ha (by simp[lookO,n1,hj]) (by omega)).mono fun r nx' ob' hp=>?_;simp only[BX];obtain⟨rfl,g1,g2⟩:=hp;have c1:=g2 nx (by omega);have c2:=g2 j (by omega);simp[lookO]at c1;simp[lookO,n1,hj]at c2;have m1:¬j=nx':=by omega
    have m2:¬nx=nx':=by omega
    have m3:¬nx'=nx:=by omega
    have m4:¬nx'=j:=by omega
    simp[hV];refine af ?_;refine BN ?_;intros;apply wr;obtain⟨na,rfl⟩:∃na,na=nx':=⟨_,rfl⟩;obtain⟨oa,rfl⟩:∃oa,oa=ob':=⟨_,rfl⟩;refine cO ?_;refine(QU j l e acc q2 (by simp[lookO,m1,c2]) q1).mono fun r nx' ob' hp=>?_;simp only[BX];obtain⟨rfl,k1,k2,k3⟩:=hp;have c3:=k3 na (by omega) (fun h=>m4 h);simp[lookO]at c3;simp[c3];refine af1 @c3 ?_;intros;apply wr;refine ar ?_;simp[CZ];exact⟨by omega,k2,fun i h1 h2=>by
     have r1:¬i=na:=by omega
     have r2:¬i=nx:=by omega
     rw[k3 i (by omega) h2];simp[lookO,r1,g2 i (by omega),r2]⟩
 have hE:AG c l va size acc=(0,l,3):=by unfold AG;rw[if_pos hm]
 have h4:size=4:=by rcases hs with rfl|rfl<;>omega
 subst h4;rw[hE];refine sIX func202 ntmps202 ?_;refine cXf (hk) ?_;refine LI (kX2 @D5 @e4) ?_;refine Ei @hm ?_;intros;apply wr;refine ar ?_;simp[CZ,lookO,n1,hj];refine⟨by omega,fun i h1 h2=>?_⟩;first|(intro h3;omega)|(have r1:¬i=nx:=by omega;simp[r1])
theorem Dh{C D E G:Prop}(c:C)(d:D)(e:E)(t:C->D->E->G:=by intro c d e;(refine af1 e ?_;intros;apply wr);repeat' ((first|(refine AB rfl (fun h=>?_) (fun h=>?_)<;>(first|(simp[e]at h;done)|(simp[e]at h)|skip)<;>(first|(exfalso;omega)|skip))|((first|refine .inl ⟨1,_,d.1,?_⟩|refine⟨1,_,d.1,?_⟩);simp[C0,Cd,noX,Cx,C9,e];first|refine And.intro AQ ?_|skip)|((first|refine .inl ⟨1,_,d.2.1,?_⟩|refine⟨1,_,d.2.1,?_⟩);simp[C0,Cd,noX,Cx,C9,e];first|refine And.intro AQ ?_|skip)|refine cc1 c.1 e ?_|refine cc1 c.2.1 e ?_|refine cc1 c.2.2.1 e ?_|refine cc1 c.2.2.2.1 e ?_|refine cc1 c.2.2.2.2.1 e ?_|refine cc1 c.2.2.2.2.2.1 e ?_|(refine AD (rid:=4) 5 [0,1,0,3,15] [(4,([[],[0],[],[0,1]],[(2,1),(2,3)])),(1,([],[]))] ?_)|(refine AD (rid:=6) 5 [0,1,0,3,15] [(4,([[],[0],[],[0,1]],[(2,1),(2,3)])),(1,([],[]))] ?_)|(refine AD (rid:=8) 10 [0,0,2,0,8,0,56,120,255,511] [(8,([[],[],[1],[],[3],[],[3,4,5],[3,4,5,6]],[])),(1,([],[])),(1,([],[]))] ?_)|(refine AD (rid:=10) 11 [0,0,2,6,0,16,0,112,240,511,1023] [(9,([[],[],[1],[1,2],[],[4],[],[4,5,6],[4,5,6,7]],[])),(1,([],[])),(1,([],[]))] ?_)|(refine AD (rid:=14) 10 [0,1,3,0,8,0,56,120,255,511] [(8,([[],[0],[0,1],[],[3],[],[3,4,5],[3,4,5,6]],[])),(1,([],[])),(1,([],[]))] ?_)|(refine AD (rid:=22) 4 [0,0,1,7] [(3,([[],[],[0]],[(1,2)])),(1,([],[]))] ?_)|exact rt1 e|fail)<;>(refine af1 e ?_;intros;apply wr))):G:=t c d e
theorem Ig{C D E G:Prop}(c:C)(d:D)(e:E)(t:C->D->E->G:=by intro c d e;(refine af1 e ?_;intros;apply wr);repeat' ((first|(refine AB rfl (fun h=>?_) (fun h=>?_)<;>(first|(simp[e]at h;done)|(simp[e]at h)|skip)<;>(first|(exfalso;omega)|skip))|((first|refine .inl ⟨1,_,d.1,?_⟩|refine⟨1,_,d.1,?_⟩);simp[C0,Cd,noX,Cx,C9,e];first|refine And.intro AQ ?_|skip)|((first|refine .inl ⟨1,_,d.2.1,?_⟩|refine⟨1,_,d.2.1,?_⟩);simp[C0,Cd,noX,Cx,C9,e];first|refine And.intro AQ ?_|skip)|refine cc1 c.1 e ?_|refine cc1 c.2.1 e ?_|refine cc1 c.2.2.1 e ?_|refine cc1 c.2.2.2.1 e ?_|refine cc1 c.2.2.2.2.1 e ?_|refine cc1 c.2.2.2.2.2.1 e ?_|(refine AD (rid:=11) 10 [0,1,0,7,15,0,32,96,255,511] [(8,([[],[0],[],[0,1,2],[0,1,2,3],[],[5],[5,6]],[])),(1,([],[])),(1,([],[]))] ?_)|(refine AD (rid:=3) 13 [0,1,0,4,0,28,60,0,128,0,896,1920,4095] [(12,([[],[0],[],[2],[],[2,3,4],[2,3,4,5],[],[7],[],[7,8,9],[7,8,9,10]],[])),(1,([],[]))] ?_)|exact rt1 e|fail)<;>(refine af1 e ?_;intros;apply wr))):G:=t c d e
abbrev Jo(c:CpuD)(i:InstD):Prop:=AC prog 204 [.st c.row,.st i.row] (.tup [.st (AE c i).1.row,.st (AE c i).2.row])
abbrev Vu(c:CpuD)(i:InstD):Prop:=AC prog 205 [.st c.row,.st i.row] (.st (AE c i).1.row)
theorem eL(c:CpuD)(i:InstD)(hc:OkC c)(hi:OkI i)(hop:i.op=56):Jo c i:=by
 obtain⟨a0,a1,b0,b1,c0,c1⟩:=hi;have g:=AP c b0 b1;have ga:=AP c a0 a1;have hE:AE c i=(BP c 7 0,BB):=by unfold AE;simp[hop]
 unfold Jo;rw[hE];refine sZ func204 ntmps204 ?_;exact Dh (qX1 (CO c 7 0 hc)) trivial (kX6 @g @ga @hop @An @CpuD.setP.eq_1 @BB.eq_1)
theorem eM(c:CpuD)(i:InstD)(hc:OkC c)(hi:OkI i)(hop:i.op=57):Jo c i:=by
 obtain⟨a0,a1,b0,b1,c0,c1⟩:=hi;have g:=AP c b0 b1;have ga:=AP c a0 a1;have hE:AE c i=(Om c,BB):=by unfold AE;simp[hop]
 unfold Jo;rw[hE];refine sZ func204 ntmps204 ?_;exact Dh (qX1 (Rv c hc)) trivial (kX6 @g @ga @hop @An @CpuD.setP.eq_1 @BB.eq_1)
theorem eN(c:CpuD)(i:InstD)(hc:OkC c)(hi:OkI i)(hop:i.op=58)(k0:0<=i.imm)(k1:i.imm<=7):Jo c i:=by
 obtain⟨a0,a1,b0,b1,c0,c1⟩:=hi;have g:=AP c b0 b1;have ga:=AP c a0 a1;have hE:AE c i=((c.setR i.a (c.csr i.imm.toNat)).setP (uw (c.pc+4)),BB):=by unfold AE;simp[hop]
 unfold Jo;rw[hE];refine sZ func204 ntmps204 ?_;exact Dh (qX1 (DF c i.a (c.csr i.imm.toNat) a0 a1)) trivial (kX7 @g @ga @hop @An @CpuD.setP.eq_1 @BB.eq_1 (Sw c k0 k1))
theorem eP(c:CpuD)(i:InstD)(hc:OkC c)(hi:OkI i)(hop:i.op=59)(k0:0<=i.imm)(k1:i.imm<=7):Jo c i:=by
 obtain⟨a0,a1,b0,b1,c0,c1⟩:=hi;have g:=AP c b0 b1;have ga:=AP c a0 a1;have hE:AE c i=((Bs c i.imm (c.x i.a.toNat)).setP (uw (c.pc+4)),BB):=by unfold AE;simp[hop]
 unfold Jo;rw[hE];refine sZ func204 ntmps204 ?_;exact Dh (qX1 (VJ c i.imm (c.x i.a.toNat) k0 k1)) trivial (kX8 @g @ga @hop @An @CpuD.setP.eq_1 @BB.eq_1 @Nh (HY k0 k1))
theorem eQ(c:CpuD)(i:InstD)(hc:OkC c)(hi:OkI i)(hop:i.op=60)(k0:0<=i.imm)(k1:i.imm<=11):Jo c i:=by
 obtain⟨a0,a1,b0,b1,c0,c1⟩:=hi;have g:=AP c b0 b1;have ga:=AP c a0 a1;have hE:AE c i=(c.setP (uw (c.pc+4)),⟨1,i.imm,i.a,0⟩):=by unfold AE;simp[hop]
 unfold Jo;rw[hE];refine sZ func204 ntmps204 ?_;exact Dh trivial trivial (kX7 @g @ga @hop @An @CpuD.setP.eq_1 @BB.eq_1 (HY k0 k1))
theorem eR(c:CpuD)(i:InstD)(hc:OkC c)(hi:OkI i)(hop:i.op=61)(k0:0<=i.imm)(k1:i.imm<=11):Jo c i:=by
 obtain⟨a0,a1,b0,b1,c0,c1⟩:=hi;have g:=AP c b0 b1;have ga:=AP c a0 a1;have hE:AE c i=(c.setP (uw (c.pc+4)),⟨2,i.imm,0,c.x i.a.toNat⟩):=by unfold AE;simp[hop]
 unfold Jo;rw[hE];refine sZ func204 ntmps204 ?_;exact Dh trivial trivial (kX7 @g @ga @hop @An @CpuD.setP.eq_1 @BB.eq_1 (HY k0 k1))
theorem eS(c:CpuD)(i:InstD)(hc:OkC c)(hi:OkI i)(hop:i.op=62):Jo c i:=by
 obtain⟨a0,a1,b0,b1,c0,c1⟩:=hi;have g:=AP c b0 b1;have ga:=AP c a0 a1;have hE:AE c i=(c.setP (uw (c.pc+4)),⟨3,0,0,0⟩):=by unfold AE;simp[hop]
 unfold Jo;rw[hE];refine sZ func204 ntmps204 ?_;exact Dh trivial trivial (kX6 @g @ga @hop @An @CpuD.setP.eq_1 @BB.eq_1)
theorem eU(c:CpuD)(i:InstD)(hc:OkC c)(hi:OkI i)(hop:i.op=63):Jo c i:=by
 obtain⟨a0,a1,b0,b1,c0,c1⟩:=hi;have g:=AP c b0 b1;have ga:=AP c a0 a1;have hE:AE c i=(c.setP (uw (c.pc+4)),⟨5,0,0,0⟩):=by unfold AE;simp[hop]
 unfold Jo;rw[hE];refine sZ func204 ntmps204 ?_;exact Dh trivial trivial (kX6 @g @ga @hop @An @CpuD.setP.eq_1 @BB.eq_1)
theorem eW(c:CpuD)(i:InstD)(hc:OkC c)(hi:OkI i)(hop:i.op=64):Jo c i:=by
 obtain⟨a0,a1,b0,b1,c0,c1⟩:=hi;have g:=AP c b0 b1;have ga:=AP c a0 a1;have hE:AE c i=(c.setP (uw (c.pc+4)),⟨4,0,0,0⟩):=by unfold AE;simp[hop]
 unfold Jo;rw[hE];refine sZ func204 ntmps204 ?_;exact Dh trivial trivial (kX6 @g @ga @hop @An @CpuD.setP.eq_1 @BB.eq_1)
theorem eJ(c:CpuD)(i:InstD)(hc:OkC c)(hi:OkI i)(hop:i.op=48):Vu c i:=by
 obtain⟨a0,a1,b0,b1,c0,c1⟩:=hi;have g:=AP c b0 b1;have ga:=AP c a0 a1;have hE:AE c i=((c.setR i.a (uw (c.pc+4))).setP (uw (c.pc+uw (4*uw i.imm))),BB):=by unfold AE;simp[hop]
 unfold Vu;rw[hE];refine sZ func205 ntmps205 ?_;exact Ig (qX1 (DF c i.a (uw (c.pc+4)) a0 a1)) trivial (kX6 @g @ga @hop @An @CpuD.setP.eq_1 @BB.eq_1)
theorem eK(c:CpuD)(i:InstD)(hc:OkC c)(hi:OkI i)(hop:i.op=49):Vu c i:=by
 obtain⟨a0,a1,b0,b1,c0,c1⟩:=hi;have g:=AP c b0 b1;have ga:=AP c a0 a1;have hE:AE c i=((c.setR i.a (uw (c.pc+4))).setP (uw (c.x i.b.toNat+uw i.imm)),BB):=by unfold AE;simp[hop]
 unfold Vu;rw[hE];refine sZ func205 ntmps205 ?_;exact Ig (qX1 (DF c i.a (uw (c.pc+4)) a0 a1)) trivial (kX6 @g @ga @hop @An @CpuD.setP.eq_1 @BB.eq_1)
theorem rxB_ok(c:CpuD)(i:InstD)(hc:OkC c)(hi:OkI i)(hh:i.op=40\/i.op=41\/i.op=42\/i.op=43\/i.op=44\/i.op=45):Vu c i:=by
 obtain⟨a0,a1,b0,b1,c0,c1⟩:=hi;have g:=AP c b0 b1;have ga:=AP c a0 a1;have hE:AE c i=(c.setP (if HE i.op (c.x i.a.toNat) (c.x i.b.toNat)=true then uw (c.pc+uw (4*uw i.imm))else uw (c.pc+4)),BB):=by unfold AE;rw[nG,nH]
 have ht:=Uz i.op (c.x i.a.toNat) (c.x i.b.toNat);have d1:¬i.op=48:=by omega
 have d2:¬i.op=49:=by omega
 unfold Vu;rw[hE];generalize HE i.op (c.x i.a.toNat) (c.x i.b.toNat)=t at *;cases t
 ·refine sZ func205 ntmps205 ?_;exact Ig (qX1 (ht)) trivial (kX6 @g @ga @d1 @d2 @CpuD.setP.eq_1 @BB.eq_1)
 refine sZ func205 ntmps205 ?_;exact Ig (qX1 (ht)) trivial (kX6 @g @ga @d1 @d2 @CpuD.setP.eq_1 @BB.eq_1)
@[simp] theorem nn1(n:Nat):(n=n+1)=False:=by simp
@[simp] theorem nn2(n:Nat):(n+1=n)=False:=by simp
@[simp] theorem nn3(n:Nat):(n=n+1+1)=False:=by apply eq_false;omega
@[simp] theorem nn4(n:Nat):(n+1+1=n)=False:=by apply eq_false;omega
@[simp] theorem nn5(n:Nat):(n=n+1+1+1)=False:=by apply eq_false;omega
@[simp] theorem nn6(n:Nat):(n+1+1+1=n)=False:=by apply eq_false;omega
theorem YH{nx:Nat}{ob:List (Nat×Option Ob)}(j:Nat)(c:CpuD)(l:List Int)(i:InstD)(hc:OkC c)(hl:OkW l)(hi:OkI i)(hop:i.op=35)(hj:lookO ob j=some (EH l))(hjn:j<nx):
  Bt prog 206 [.st c.row,.own j,.st i.row] nx ob fun r nx' ob'=>r=.st (AX c l i).1.row/\CZ nx ob j (AX c l i).2 nx' ob':=by
 obtain⟨a0,a1,b0,b1,c0,c1⟩:=hi;have g:=AP c b0 b1;have ga:=AP c a0 a1;obtain⟨va,hva⟩:∃va,va=uw (c.x i.b.toNat+uw i.imm):=⟨_,rfl⟩;have hv:W32 va:=by rw[hva];exact E6 _
 have va':IntKind.u32.wrap (c.x i.b.toNat+IntKind.u32.wrap i.imm)=va:=hva.symm;have n1:¬j=nx:=by omega
 have n2:¬j=nx+1:=by omega
 have n3:¬j=nx+1+1:=by omega
 have o1:¬nx=j:=by omega
 have o2:¬nx+1=j:=by omega
 have o3:¬nx+1+1=j:=by omega
 obtain⟨R,hR⟩:∃R,R=AG c l va 4 3:=⟨_,rfl⟩;have hin:=C5 (c:=c) (l:=l) (va:=va) (s:=4) (acc:=3) (by omega) (by decide) hc hv;have hn:=BO c l va 4 3;have hw:=CG (c:=c) (va:=va) (s:=4) (acc:=3) hl;have hE:AX c l i=(if R.2.2≠0 then(BP c R.2.2 va,R.2.1)else(c.setP (uw (c.pc+4)),Ca R.2.1 R.1 4 (c.x i.a.toNat))):=by
  rw[hR,hva];simp only[AX,AY,hop];rfl
 have hr:∀{nx:Nat}{ob:List (Nat×Option Ob)},lookO ob j=some (EH l)->j<nx->Bt prog 202 [.st c.row,.own j,uv va,iv 4,iv 3] nx ob fun r nx' ob'=>r=.tup [uv R.1,iv R.2.2]/\CZ nx ob j R.2.1 nx' ob':=fun h1 h2=>by
  rw[hR];exact EZ j c l va 4 3 hc hv (by omega) (by omega) h1 h2
 rw[<- hR]at hin hn hw;obtain⟨a,m,k⟩:=R;simp only at hin hn hw hr hE;refine sIY func206 ntmps206 (kX2 @g @hop) ?_;intros;apply wr;refine AD 10 [0,1,0,7,15,0,32,96,255,511] [(8,([[],[0],[],[0,1,2],[0,1,2,3],[],[5],[5,6]],[])),(1,([],[])),(1,([],[]))] ?_;refine af1 (kX3 @g @hop @va') ?_;refine af1 (kX3 @g @hop @va') ?_;refine Cg @hop @hop ?_;refine Cg @hop @hop ?_;intros;apply wr;refine cO ?_;refine(hr (by simp[lookO,n1,n2,n3,hj]) (by omega)).mono fun r nx' ob' hp=>?_;simp only[BX];obtain⟨rfl,g1,g2,g3⟩:=hp;have y1:=g3 nx (by omega) (by omega);have y2:=g3 (nx+1) (by omega) (by omega);have y3:=g3 (nx+1+1) (by omega) (by omega);simp[lookO]at y1 y2 y3;simp;refine af ?_;intros;apply wr;by_cases hk:k=0
 ·obtain⟨i1,i2⟩:=hin hk;have hx:=Bm i1 i2.1;rw[<- hn]at hx;have i3:AS m a 4=true:=by rw[BW hn];exact i1
  refine Ac @hk ?_;refine Tb (kX4 @y1 @y2 @ga @hop) ?_;intros;apply wr;have e1:AX c l i=(c.setP (uw (c.pc+4)),Ca m a 4 (c.x i.a.toNat)):=by rw[hE,if_neg (by simp[hk])]
  refine cO ?_;refine(YG j m a (c.x i.a.toNat) i2 g2 hx).mono fun r nx' ob' hp=>?_;simp only[BX];obtain⟨rfl,rfl,rfl⟩:=hp;simp;refine af1 (kX6 @y1 @y2 @y3 @o1 @o2 @o3) ?_;intros;apply wr;refine ar ?_;simp[CpuD.setP,e1];refine⟨by omega,by simp[lookO,n1,n2,n3,g2],fun i h1 h2=>?_⟩;have r1:¬i=nx:=by omega
  have r2:¬i=nx+1:=by omega
  have r3:¬i=nx+1+1:=by omega
  have e:=g3 i (by omega) h2;simp[lookO,r1,r2,r3]at e;simp[lookO,r1,r2,r3,h2,e]
 have e1:AX c l i=(BP c k va,m):=by rw[hE,if_pos hk]
 refine Cg @hk @y1 ?_;refine cZf (CO c k va hc) @y3 @y3 ?_;intros;apply wr;refine ar ?_;simp[e1];refine⟨by omega,by simp[lookO,n1,n2,n3,g2],fun i h1 h2=>?_⟩;have r1:¬i=nx:=by omega
 have r2:¬i=nx+1:=by omega
 have r3:¬i=nx+1+1:=by omega
 have e:=g3 i (by omega) h2;simp[lookO,r1,r2,r3]at e;simp[lookO,r1,r2,r3,h2,e]
theorem YI{nx:Nat}{ob:List (Nat×Option Ob)}(j:Nat)(c:CpuD)(l:List Int)(i:InstD)(hc:OkC c)(hl:OkW l)(hi:OkI i)(hop:i.op=36)(hj:lookO ob j=some (EH l))(hjn:j<nx):
  Bt prog 206 [.st c.row,.own j,.st i.row] nx ob fun r nx' ob'=>r=.st (AX c l i).1.row/\CZ nx ob j (AX c l i).2 nx' ob':=by
 obtain⟨a0,a1,b0,b1,c0,c1⟩:=hi;have g:=AP c b0 b1;have ga:=AP c a0 a1;obtain⟨va,hva⟩:∃va,va=uw (c.x i.b.toNat+uw i.imm):=⟨_,rfl⟩;have hv:W32 va:=by rw[hva];exact E6 _
 have va':IntKind.u32.wrap (c.x i.b.toNat+IntKind.u32.wrap i.imm)=va:=hva.symm;have n1:¬j=nx:=by omega
 have n2:¬j=nx+1:=by omega
 have n3:¬j=nx+1+1:=by omega
 have o1:¬nx=j:=by omega
 have o2:¬nx+1=j:=by omega
 have o3:¬nx+1+1=j:=by omega
 obtain⟨R,hR⟩:∃R,R=AG c l va 1 3:=⟨_,rfl⟩;have hin:=C5 (c:=c) (l:=l) (va:=va) (s:=1) (acc:=3) (by omega) (by decide) hc hv;have hn:=BO c l va 1 3;have hw:=CG (c:=c) (va:=va) (s:=1) (acc:=3) hl;have hE:AX c l i=(if R.2.2≠0 then(BP c R.2.2 va,R.2.1)else(c.setP (uw (c.pc+4)),Ca R.2.1 R.1 1 (c.x i.a.toNat))):=by
  rw[hR,hva];simp only[AX,AY,hop];rfl
 have hr:∀{nx:Nat}{ob:List (Nat×Option Ob)},lookO ob j=some (EH l)->j<nx->Bt prog 202 [.st c.row,.own j,uv va,iv 1,iv 3] nx ob fun r nx' ob'=>r=.tup [uv R.1,iv R.2.2]/\CZ nx ob j R.2.1 nx' ob':=fun h1 h2=>by
  rw[hR];exact EZ j c l va 1 3 hc hv (by omega) (by omega) h1 h2
 rw[<- hR]at hin hn hw;obtain⟨a,m,k⟩:=R;simp only at hin hn hw hr hE;refine sIY func206 ntmps206 (kX2 @g @hop) ?_;intros;apply wr;refine AD 10 [0,1,0,7,15,0,32,96,255,511] [(8,([[],[0],[],[0,1,2],[0,1,2,3],[],[5],[5,6]],[])),(1,([],[])),(1,([],[]))] ?_;refine af1 (kX3 @g @hop @va') ?_;refine af1 (kX3 @g @hop @va') ?_;refine Cw @hop @hop ?_;refine Cg @hop @hop ?_;intros;apply wr;refine cO ?_;refine(hr (by simp[lookO,n1,n2,n3,hj]) (by omega)).mono fun r nx' ob' hp=>?_;simp only[BX];obtain⟨rfl,g1,g2,g3⟩:=hp;have y1:=g3 nx (by omega) (by omega);have y2:=g3 (nx+1) (by omega) (by omega);have y3:=g3 (nx+1+1) (by omega) (by omega);simp[lookO]at y1 y2 y3;simp;refine af ?_;intros;apply wr;by_cases hk:k=0
 ·obtain⟨i1,i2⟩:=hin hk;have hx:=Bm i1 i2.1;rw[<- hn]at hx;have i3:AS m a 1=true:=by rw[BW hn];exact i1
  refine Ac @hk ?_;refine Tb (kX4 @y1 @y2 @ga @hop) ?_;intros;apply wr;have e1:AX c l i=(c.setP (uw (c.pc+4)),Ca m a 1 (c.x i.a.toNat)):=by rw[hE,if_neg (by simp[hk])]
  refine cO ?_;refine(QW j m a (c.x i.a.toNat) i2 hw g2 hx).mono fun r nx' ob' hp=>?_;simp only[BX];obtain⟨rfl,rfl,rfl⟩:=hp;simp;refine af1 (kX6 @y1 @y2 @y3 @o1 @o2 @o3) ?_;intros;apply wr;refine ar ?_;simp[CpuD.setP,e1];refine⟨by omega,by simp[lookO,n1,n2,n3,g2],fun i h1 h2=>?_⟩;have r1:¬i=nx:=by omega
  have r2:¬i=nx+1:=by omega
  have r3:¬i=nx+1+1:=by omega
  have e:=g3 i (by omega) h2;simp[lookO,r1,r2,r3]at e;simp[lookO,r1,r2,r3,h2,e]
 have e1:AX c l i=(BP c k va,m):=by rw[hE,if_pos hk]
 refine Cg @hk @y1 ?_;refine cZf (CO c k va hc) @y3 @y3 ?_;intros;apply wr;refine ar ?_;simp[e1];refine⟨by omega,by simp[lookO,n1,n2,n3,g2],fun i h1 h2=>?_⟩;have r1:¬i=nx:=by omega
 have r2:¬i=nx+1:=by omega
 have r3:¬i=nx+1+1:=by omega
 have e:=g3 i (by omega) h2;simp[lookO,r1,r2,r3]at e;simp[lookO,r1,r2,r3,h2,e]
theorem Xz{nx:Nat}{ob:List (Nat×Option Ob)}(j:Nat)(c:CpuD)(l:List Int)(i:InstD)(hc:OkC c)(hl:OkW l)(hi:OkI i)(hop:i.op=32)(hj:lookO ob j=some (EH l))(hjn:j<nx):
  Bt prog 206 [.st c.row,.own j,.st i.row] nx ob fun r nx' ob'=>r=.st (Af c l i).1.row/\CZ nx ob j (Af c l i).2 nx' ob':=by
 obtain⟨a0,a1,b0,b1,c0,c1⟩:=hi;have g:=AP c b0 b1;have ga:=AP c a0 a1;obtain⟨va,hva⟩:∃va,va=uw (c.x i.b.toNat+uw i.imm):=⟨_,rfl⟩;have hv:W32 va:=by rw[hva];exact E6 _
 have va':IntKind.u32.wrap (c.x i.b.toNat+IntKind.u32.wrap i.imm)=va:=hva.symm;have n1:¬j=nx:=by omega
 have n2:¬j=nx+1:=by omega
 have n3:¬j=nx+1+1:=by omega
 have o1:¬nx=j:=by omega
 have o2:¬nx+1=j:=by omega
 have o3:¬nx+1+1=j:=by omega
 obtain⟨R,hR⟩:∃R,R=AG c l va 4 2:=⟨_,rfl⟩;have hin:=C5 (c:=c) (l:=l) (va:=va) (s:=4) (acc:=2) (by omega) (by decide) hc hv;have hn:=BO c l va 4 2;have hw:=CG (c:=c) (va:=va) (s:=4) (acc:=2) hl;have hE:Af c l i=(if R.2.2≠0 then(BP c R.2.2 va,R.2.1)else(((c.setR i.a (Bw R.2.1 R.1 4)).setP (uw (c.pc+4))),R.2.1)):=by
  rw[hR,hva];simp only[Af,AY,hop];rfl
 have hr:∀{nx:Nat}{ob:List (Nat×Option Ob)},lookO ob j=some (EH l)->j<nx->Bt prog 202 [.st c.row,.own j,uv va,iv 4,iv 2] nx ob fun r nx' ob'=>r=.tup [uv R.1,iv R.2.2]/\CZ nx ob j R.2.1 nx' ob':=fun h1 h2=>by
  rw[hR];exact EZ j c l va 4 2 hc hv (by omega) (by omega) h1 h2
 rw[<- hR]at hin hn hw;obtain⟨a,m,k⟩:=R;simp only at hin hn hw hr hE;refine sIY func206 ntmps206 (kX2 @g @hop) ?_;intros;apply wr;refine AD 10 [0,1,0,7,15,0,32,96,255,511] [(8,([[],[0],[],[0,1,2],[0,1,2,3],[],[5],[5,6]],[])),(1,([],[])),(1,([],[]))] ?_;refine af1 (kX3 @g @hop @va') ?_;refine af1 (kX3 @g @hop @va') ?_;refine Cg @hop @hop ?_;refine Cw @hop @hop ?_;intros;apply wr;refine cO ?_;refine(hr (by simp[lookO,n1,n2,n3,hj]) (by omega)).mono fun r nx' ob' hp=>?_;simp only[BX];obtain⟨rfl,g1,g2,g3⟩:=hp;have y1:=g3 nx (by omega) (by omega);have y2:=g3 (nx+1) (by omega) (by omega);have y3:=g3 (nx+1+1) (by omega) (by omega);simp[lookO]at y1 y2 y3;simp;refine af ?_;intros;apply wr;by_cases hk:k=0
 ·obtain⟨i1,i2⟩:=hin hk;have hx:=Bm i1 i2.1;rw[<- hn]at hx;have i3:AS m a 4=true:=by rw[BW hn];exact i1
  refine Ac @hk ?_;refine LI (kX4 @y1 @y2 @ga @hop) ?_;intros;apply wr;have e1:Af c l i=((c.setR i.a (Bw m a 4)).setP (uw (c.pc+4)),m):=by rw[hE,if_neg (by simp[hk])]
  refine cO ?_;refine(QT j m a 4 g2 (by omega) i2).mono fun r nx' ob' hp=>?_;simp only[BX];obtain⟨rfl,rfl,rfl⟩:=hp;simp[i3];refine af1 (kX6 @y1 @y2 @y3 @o1 @o2 @o3) ?_;refine Cw @hop (kX4 @y1 @y2 @y3 @hop) ?_;refine cZf (DF c i.a (Bw m a 4) a0 a1) (kX3 @y1 @y2 @y3) (kX3 @y1 @y2 @y3) ?_;intros;apply wr;refine ar ?_;simp[CpuD.setP,e1,An];refine⟨by omega,by simp[lookO,n1,n2,n3,g2],fun i h1 h2=>?_⟩;have r1:¬i=nx:=by omega
  have r2:¬i=nx+1:=by omega
  have r3:¬i=nx+1+1:=by omega
  have e:=g3 i (by omega) h2;simp[lookO,r1,r2,r3]at e;simp[lookO,r1,r2,r3,h2,e]
 have e1:Af c l i=(BP c k va,m):=by rw[hE,if_pos hk]
 refine Cg @hk @y1 ?_;refine cZf (CO c k va hc) @y3 @y3 ?_;intros;apply wr;refine ar ?_;simp[e1];refine⟨by omega,by simp[lookO,n1,n2,n3,g2],fun i h1 h2=>?_⟩;have r1:¬i=nx:=by omega
 have r2:¬i=nx+1:=by omega
 have r3:¬i=nx+1+1:=by omega
 have e:=g3 i (by omega) h2;simp[lookO,r1,r2,r3]at e;simp[lookO,r1,r2,r3,h2,e]
theorem YB{nx:Nat}{ob:List (Nat×Option Ob)}(j:Nat)(c:CpuD)(l:List Int)(i:InstD)(hc:OkC c)(hl:OkW l)(hi:OkI i)(hop:i.op=34)(hj:lookO ob j=some (EH l))(hjn:j<nx):
  Bt prog 206 [.st c.row,.own j,.st i.row] nx ob fun r nx' ob'=>r=.st (Af c l i).1.row/\CZ nx ob j (Af c l i).2 nx' ob':=by
 obtain⟨a0,a1,b0,b1,c0,c1⟩:=hi;have g:=AP c b0 b1;have ga:=AP c a0 a1;obtain⟨va,hva⟩:∃va,va=uw (c.x i.b.toNat+uw i.imm):=⟨_,rfl⟩;have hv:W32 va:=by rw[hva];exact E6 _
 have va':IntKind.u32.wrap (c.x i.b.toNat+IntKind.u32.wrap i.imm)=va:=hva.symm;have n1:¬j=nx:=by omega
 have n2:¬j=nx+1:=by omega
 have n3:¬j=nx+1+1:=by omega
 have o1:¬nx=j:=by omega
 have o2:¬nx+1=j:=by omega
 have o3:¬nx+1+1=j:=by omega
 obtain⟨R,hR⟩:∃R,R=AG c l va 1 2:=⟨_,rfl⟩;have hin:=C5 (c:=c) (l:=l) (va:=va) (s:=1) (acc:=2) (by omega) (by decide) hc hv;have hn:=BO c l va 1 2;have hw:=CG (c:=c) (va:=va) (s:=1) (acc:=2) hl;have hE:Af c l i=(if R.2.2≠0 then(BP c R.2.2 va,R.2.1)else(((c.setR i.a (Bw R.2.1 R.1 1)).setP (uw (c.pc+4))),R.2.1)):=by
  rw[hR,hva];simp only[Af,AY,hop];rfl
 have hr:∀{nx:Nat}{ob:List (Nat×Option Ob)},lookO ob j=some (EH l)->j<nx->Bt prog 202 [.st c.row,.own j,uv va,iv 1,iv 2] nx ob fun r nx' ob'=>r=.tup [uv R.1,iv R.2.2]/\CZ nx ob j R.2.1 nx' ob':=fun h1 h2=>by
  rw[hR];exact EZ j c l va 1 2 hc hv (by omega) (by omega) h1 h2
 rw[<- hR]at hin hn hw;obtain⟨a,m,k⟩:=R;simp only at hin hn hw hr hE;refine sIY func206 ntmps206 (kX2 @g @hop) ?_;intros;apply wr;refine AD 10 [0,1,0,7,15,0,32,96,255,511] [(8,([[],[0],[],[0,1,2],[0,1,2,3],[],[5],[5,6]],[])),(1,([],[])),(1,([],[]))] ?_;refine af1 (kX3 @g @hop @va') ?_;refine af1 (kX3 @g @hop @va') ?_;refine Cw @hop @hop ?_;refine Cw @hop @hop ?_;intros;apply wr;refine cO ?_;refine(hr (by simp[lookO,n1,n2,n3,hj]) (by omega)).mono fun r nx' ob' hp=>?_;simp only[BX];obtain⟨rfl,g1,g2,g3⟩:=hp;have y1:=g3 nx (by omega) (by omega);have y2:=g3 (nx+1) (by omega) (by omega);have y3:=g3 (nx+1+1) (by omega) (by omega);simp[lookO]at y1 y2 y3;simp;refine af ?_;intros;apply wr;by_cases hk:k=0
 ·obtain⟨i1,i2⟩:=hin hk;have hx:=Bm i1 i2.1;rw[<- hn]at hx;have i3:AS m a 1=true:=by rw[BW hn];exact i1
  refine Ac @hk ?_;refine LI (kX4 @y1 @y2 @ga @hop) ?_;intros;apply wr;have e1:Af c l i=((c.setR i.a (Bw m a 1)).setP (uw (c.pc+4)),m):=by rw[hE,if_neg (by simp[hk])]
  refine cO ?_;refine(QT j m a 1 g2 (by omega) i2).mono fun r nx' ob' hp=>?_;simp only[BX];obtain⟨rfl,rfl,rfl⟩:=hp;simp[i3];refine af1 (kX6 @y1 @y2 @y3 @o1 @o2 @o3) ?_;refine Cw @hop (kX4 @y1 @y2 @y3 @hop) ?_;refine cZf (DF c i.a (Bw m a 1) a0 a1) (kX3 @y1 @y2 @y3) (kX3 @y1 @y2 @y3) ?_;intros;apply wr;refine ar ?_;simp[CpuD.setP,e1,An];refine⟨by omega,by simp[lookO,n1,n2,n3,g2],fun i h1 h2=>?_⟩;have r1:¬i=nx:=by omega
  have r2:¬i=nx+1:=by omega
  have r3:¬i=nx+1+1:=by omega
  have e:=g3 i (by omega) h2;simp[lookO,r1,r2,r3]at e;simp[lookO,r1,r2,r3,h2,e]
 have e1:Af c l i=(BP c k va,m):=by rw[hE,if_pos hk]
 refine Cg @hk @y1 ?_;refine cZf (CO c k va hc) @y3 @y3 ?_;intros;apply wr;refine ar ?_;simp[e1];refine⟨by omega,by simp[lookO,n1,n2,n3,g2],fun i h1 h2=>?_⟩;have r1:¬i=nx:=by omega
 have r2:¬i=nx+1:=by omega
 have r3:¬i=nx+1+1:=by omega
 have e:=g3 i (by omega) h2;simp[lookO,r1,r2,r3]at e;simp[lookO,r1,r2,r3,h2,e]
theorem YA{nx:Nat}{ob:List (Nat×Option Ob)}(j:Nat)(c:CpuD)(l:List Int)(i:InstD)(hc:OkC c)(hl:OkW l)(hi:OkI i)(hop:i.op=33)(hj:lookO ob j=some (EH l))(hjn:j<nx):
  Bt prog 206 [.st c.row,.own j,.st i.row] nx ob fun r nx' ob'=>r=.st (Af c l i).1.row/\CZ nx ob j (Af c l i).2 nx' ob':=by
 obtain⟨a0,a1,b0,b1,c0,c1⟩:=hi;have g:=AP c b0 b1;have ga:=AP c a0 a1;obtain⟨va,hva⟩:∃va,va=uw (c.x i.b.toNat+uw i.imm):=⟨_,rfl⟩;have hv:W32 va:=by rw[hva];exact E6 _
 have va':IntKind.u32.wrap (c.x i.b.toNat+IntKind.u32.wrap i.imm)=va:=hva.symm;have n1:¬j=nx:=by omega
 have n2:¬j=nx+1:=by omega
 have n3:¬j=nx+1+1:=by omega
 have o1:¬nx=j:=by omega
 have o2:¬nx+1=j:=by omega
 have o3:¬nx+1+1=j:=by omega
 obtain⟨R,hR⟩:∃R,R=AG c l va 1 2:=⟨_,rfl⟩;have hin:=C5 (c:=c) (l:=l) (va:=va) (s:=1) (acc:=2) (by omega) (by decide) hc hv;have hn:=BO c l va 1 2;have hw:=CG (c:=c) (va:=va) (s:=1) (acc:=2) hl;have hE:Af c l i=(if R.2.2≠0 then(BP c R.2.2 va,R.2.1)else(((c.setR i.a (GH (Bw R.2.1 R.1 1))).setP (uw (c.pc+4))),R.2.1)):=by
  rw[hR,hva];simp only[Af,AY,hop];rfl
 have hr:∀{nx:Nat}{ob:List (Nat×Option Ob)},lookO ob j=some (EH l)->j<nx->Bt prog 202 [.st c.row,.own j,uv va,iv 1,iv 2] nx ob fun r nx' ob'=>r=.tup [uv R.1,iv R.2.2]/\CZ nx ob j R.2.1 nx' ob':=fun h1 h2=>by
  rw[hR];exact EZ j c l va 1 2 hc hv (by omega) (by omega) h1 h2
 rw[<- hR]at hin hn hw;obtain⟨a,m,k⟩:=R;simp only at hin hn hw hr hE;refine sIY func206 ntmps206 (kX2 @g @hop) ?_;intros;apply wr;refine AD 10 [0,1,0,7,15,0,32,96,255,511] [(8,([[],[0],[],[0,1,2],[0,1,2,3],[],[5],[5,6]],[])),(1,([],[])),(1,([],[]))] ?_;refine af1 (kX3 @g @hop @va') ?_;refine af1 (kX3 @g @hop @va') ?_;refine Cw @hop @hop ?_;refine Cw @hop @hop ?_;intros;apply wr;refine cO ?_;refine(hr (by simp[lookO,n1,n2,n3,hj]) (by omega)).mono fun r nx' ob' hp=>?_;simp only[BX];obtain⟨rfl,g1,g2,g3⟩:=hp;have y1:=g3 nx (by omega) (by omega);have y2:=g3 (nx+1) (by omega) (by omega);have y3:=g3 (nx+1+1) (by omega) (by omega);simp[lookO]at y1 y2 y3;simp;refine af ?_;intros;apply wr;by_cases hk:k=0
 ·obtain⟨i1,i2⟩:=hin hk;have hx:=Bm i1 i2.1;rw[<- hn]at hx;have i3:AS m a 1=true:=by rw[BW hn];exact i1
  refine Ac @hk ?_;refine LI (kX4 @y1 @y2 @ga @hop) ?_;intros;apply wr;have e1:Af c l i=((c.setR i.a (GH (Bw m a 1))).setP (uw (c.pc+4)),m):=by rw[hE,if_neg (by simp[hk])]
  refine cO ?_;refine(QT j m a 1 g2 (by omega) i2).mono fun r nx' ob' hp=>?_;simp only[BX];obtain⟨rfl,rfl,rfl⟩:=hp;simp[i3];refine af1 (kX6 @y1 @y2 @y3 @o1 @o2 @o3) ?_;refine Ei @hop ?_;refine cYf (Xv (Bw m a 1) (Fa _ _).1 (Fa _ _).2) (kX4 @y1 @y2 @y3 @hop) ?_;refine cZf (DF c i.a (GH (Bw m a 1)) a0 a1) (kX3 @y1 @y2 @y3) (kX3 @y1 @y2 @y3) ?_;intros;apply wr;refine ar ?_;simp[CpuD.setP,e1,An];refine⟨by omega,by simp[lookO,n1,n2,n3,g2],fun i h1 h2=>?_⟩;have r1:¬i=nx:=by omega
  have r2:¬i=nx+1:=by omega
  have r3:¬i=nx+1+1:=by omega
  have e:=g3 i (by omega) h2;simp[lookO,r1,r2,r3]at e;simp[lookO,r1,r2,r3,h2,e]
 have e1:Af c l i=(BP c k va,m):=by rw[hE,if_pos hk]
 refine Cg @hk @y1 ?_;refine cZf (CO c k va hc) @y3 @y3 ?_;intros;apply wr;refine ar ?_;simp[e1];refine⟨by omega,by simp[lookO,n1,n2,n3,g2],fun i h1 h2=>?_⟩;have r1:¬i=nx:=by omega
 have r2:¬i=nx+1:=by omega
 have r3:¬i=nx+1+1:=by omega
 have e:=g3 i (by omega) h2;simp[lookO,r1,r2,r3]at e;simp[lookO,r1,r2,r3,h2,e]
theorem Z9(c:CpuD)(i:InstD)(hc:OkC c)(hv:validD i=true)(h56:56<=i.op):Jo c i:=by
 have hi:=CJ hv;have hm:=N9 hv;rcases El (DG hv)with h|h|h|h|h|h|h|h|h|h|h|h|h|h|h
 ·omega
 ·omega
 ·omega
 ·omega
 ·omega
 ·omega
 ·exact eL c i hc hi h
 ·exact eM c i hc hi h
 ·rw[h]at hm;exact eN c i hc hi h (by have:=hm.1;simp[By,AK]at this;omega) (by have:=hm.2;simp[Al,AK]at this;omega)
 ·rw[h]at hm;exact eP c i hc hi h (by have:=hm.1;simp[By,AK]at this;omega) (by have:=hm.2;simp[Al,AK]at this;omega)
 ·rw[h]at hm;exact eQ c i hc hi h (by have:=hm.1;simp[By,AK]at this;omega) (by have:=hm.2;simp[Al,AK]at this;omega)
 ·rw[h]at hm;exact eR c i hc hi h (by have:=hm.1;simp[By,AK]at this;omega) (by have:=hm.2;simp[Al,AK]at this;omega)
 ·exact eS c i hc hi h
 ·exact eU c i hc hi h
 exact eW c i hc hi h
theorem ZH(c:CpuD)(i:InstD)(hc:OkC c)(hv:validD i=true)(h0:40<=i.op)(h1:i.op<56):Vu c i:=by
 have hi:=CJ hv;rcases El (DG hv)with h|h|h|h|h|h|h|h|h|h|h|h|h|h|h
 ·omega
 ·omega
 ·omega
 ·exact rxB_ok c i hc hi h
 ·exact eJ c i hc hi h
 ·exact eK c i hc hi h
 all_goals omega
theorem ZC(c:CpuD)(i:InstD)(h:i.op<56):(AE c i).2=BB:=by
 unfold AE;by_cases e1:i.op=24
 ·rw[if_pos e1]
 rw[if_neg e1];by_cases e2:40<=i.op/\i.op<=45
 ·rw[if_pos e2]
 rw[if_neg e2];by_cases e3:i.op=48
 ·rw[if_pos e3]
 rw[if_neg e3];by_cases e4:i.op=49
 ·rw[if_pos e4]
 rw[if_neg e4]
 iterate 9 rw[nG]
noncomputable def OV(c:CpuD)(l:List Int)(i:InstD):CpuD×List Int:=if i.op<=34 then Af c l i else AX c l i
theorem Za{nx:Nat}{ob:List (Nat×Option Ob)}(j:Nat)(c:CpuD)(l:List Int)(i:InstD)(hc:OkC c)(hl:OkW l)(hv:validD i=true)(h0:32<=i.op)(h1:i.op<40)(hj:lookO ob j=some (EH l))(hjn:j<nx):
  Bt prog 206 [.st c.row,.own j,.st i.row] nx ob fun r nx' ob'=>r=.st (OV c l i).1.row/\CZ nx ob j (OV c l i).2 nx' ob':=by
 have hi:=CJ hv;have h36:i.op<=36:=by rcases El (DG hv)with h|h|h|h|h|h|h|h|h|h|h|h|h|h|h<;>omega
 have hc5:i.op=32\/i.op=33\/i.op=34\/i.op=35\/i.op=36:=by omega
 unfold OV;rcases hc5 with h|h|h|h|h
 ·rw[nH];exact Xz j c l i hc hl hi h hj hjn
 ·rw[nH];exact YA j c l i hc hl hi h hj hjn
 ·rw[nH];exact YB j c l i hc hl hi h hj hjn
 ·rw[nG];exact YH j c l i hc hl hi h hj hjn
 rw[nG];exact YI j c l i hc hl hi h hj hjn
theorem op_56{i:InstD}(hv:validD i=true):i.op<32->i.op=24\/(1<=i.op/\i.op<=13)\/(16<=i.op/\i.op<=23):=fun h=>by
 rcases El (DG hv)with h|h|h|h|h|h|h|h|h|h|h|h|h|h|h<;>omega
theorem rdo_ok{nx:Nat}{ob:List (Nat×Option Ob)}(j:Nat)(c:CpuD)(l:List Int)(hc:OkC c)(hl:OkW l)(hj:lookO ob j=some (EH l))(hjn:j<nx):
  Bt prog 158 [.st c.row,.own j] nx ob fun r nx' ob'=>r=.tup [.st (Az c l).1.row,.st (Az c l).2.2.row]/\CZ nx ob j (Az c l).2.1 nx' ob':=by
 have n1:¬j=nx:=by omega
 have n2:¬j=nx+1:=by omega
 have n3:¬j=nx+1+1:=by omega
 have o1:¬nx=j:=by omega
 have o2:¬nx+1=j:=by omega
 have o3:¬nx+1+1=j:=by omega
 obtain⟨R,hR⟩:∃R,R=AG c l c.pc 4 1:=⟨_,rfl⟩;have hin:=C5 (c:=c) (l:=l) (va:=c.pc) (s:=4) (acc:=1) (by omega) (by decide) hc hc.pc;have hn:=BO c l c.pc 4 1;have hw:=CG (c:=c) (va:=c.pc) (s:=4) (acc:=1) hl;have hE:Az c l=(if R.2.2≠0 then(BP c R.2.2 c.pc,R.2.1,BB)else CY c R.2.1 (wAt R.2.1 (R.1/4))):=by rw[hR];rfl
 have hr:∀{nx:Nat}{ob:List (Nat×Option Ob)},lookO ob j=some (EH l)->j<nx->Bt prog 202 [.st c.row,.own j,uv c.pc,iv 4,iv 1] nx ob fun r nx' ob'=>r=.tup [uv R.1,iv R.2.2]/\CZ nx ob j R.2.1 nx' ob':=fun h1 h2=>by
  rw[hR];exact EZ j c l c.pc 4 1 hc hc.pc (by omega) (by omega) h1 h2
 rw[<- hR]at hin hn hw;obtain⟨a,m,k⟩:=R;simp only at hin hn hw hr hE;refine sIX func158 ntmps158 ?_;intros;apply wr;refine cO ?_;refine(hr (by simp[lookO,n1,n2,n3,hj]) (by omega)).mono fun r nx' ob' hp=>?_;simp only[BX];obtain⟨rfl,g1,g2,g3⟩:=hp;have y1:=g3 nx (by omega) (by omega);have y2:=g3 (nx+1) (by omega) (by omega);have y3:=g3 (nx+1+1) (by omega) (by omega);simp[lookO]at y1 y2 y3;simp;refine au ?_;intros;apply wr;by_cases hk:k=0
 ·obtain⟨i1,i2⟩:=hin hk;have hx:=Bm i1 i2.1;rw[<- hn]at hx;have i3:AS m a 4=true:=by rw[BW hn];exact i1
  have hE1:Az c l=CY c m (wAt m (a/4)):=by rw[hE,if_neg (by simp[hk])]
  have hld:Bw m a 4=wAt m (a/4):=by simp[Bw]
  have hww:W32 (wAt m (a/4)):=PD hw _;generalize wAt m (a/4)=w at hE1 hld hww;refine BU @hk ?_;intros;apply wr;refine cO ?_;refine(QT j m a 4 g2 (by omega) i2).mono fun r nx' ob' hp=>?_;simp only[BX];obtain⟨rfl,rfl,rfl⟩:=hp;simp[i3,hld];refine au ?_;intros;apply wr;have p1:¬nx=nx'+6:=by omega
  have p2:¬nx=nx'+5:=by omega
  have p3:¬nx=nx'+4:=by omega
  have p4:¬j=nx'+6:=by omega
  have q1:¬nx'+6=nx:=by omega
  have q2:¬nx'+5=nx:=by omega
  have q3:¬nx'+4=nx:=by omega
  have q4:¬nx'+6=j:=by omega
  cases hv:validD (D1 w)with
  | false =>
   have e1:Az c l=(BP c 1 w,m,BB):=by rw[hE1];unfold CY;rw[if_pos hv]
   have hd:=Fq w hww;unfold aL at hd;rw[hv,if_neg (by simp)]at hd;refine cX (hd) ?_;refine IZ (SL @y1 @y2 @y3 @p1 @p2 @p3 @p4 @q1 @q2 @q3 @q4) ?_;refine cZ (CO c 1 w hc) (kX5 @y2 @y3 @p1 @p2 @p3) (kX5 @y2 @y3 @p1 @p2 @p3) ?_;intros;apply wr;refine ar ?_;simp[e1,BB];refine⟨by omega,by simp[lookO,n1,n2,n3,p4,g2],fun i h1 h2=>?_⟩;have r1:¬i=nx:=by omega
   have r2:¬i=nx+1:=by omega
   have r3:¬i=nx+1+1:=by omega
   have r4:¬i=nx'+6:=by omega
   have e:=g3 i (by omega) h2;simp[lookO,r1,r2,r3,r4]at e;simp[lookO,r1,r2,r3,r4,h2,e]
  | true =>
   have hd:=Fq w hww;unfold aL at hd;rw[hv,if_pos rfl]at hd;generalize hi:D1 w=i at hd hv hE1;refine cX (hd) ?_;refine EG (kX8 @p1 @p2 @p3 @p4 @q1 @q2 @q3 @q4) ?_;intros;apply wr;have hpr:=YF i.op;have hk1:=Tm (hc.csr 0);cases hpv:Oc i.op with
   | true =>
    rw[hpv]at hpr;by_cases hm:c.csr 0%2=0
    ·have e1:Az c l=(BP c 2 w,m,BB):=by rw[hE1];unfold CY;rw[hi,if_neg (by simp[hv]),if_pos ⟨hpv,hm⟩]
     refine cZ (hpr) (kX3 @y1 @p1 @hk1) (kX5 @y1 @p1 @p2 @p3 @hk1) ?_;refine DI @hm (kX4 @y1 @p1 @p2 @p3) ?_;refine cZ (CO c 2 w hc) (kX5 @y2 @y3 @p1 @p2 @p3) (kX5 @y2 @y3 @p1 @p2 @p3) ?_;intros;apply wr;refine ar ?_;simp[e1,BB];refine⟨by omega,by simp[lookO,n1,n2,n3,p4,g2],fun i h1 h2=>?_⟩;have r1:¬i=nx:=by omega
     have r2:¬i=nx+1:=by omega
     have r3:¬i=nx+1+1:=by omega
     have r4:¬i=nx'+6:=by omega
     have e:=g3 i (by omega) h2;simp[lookO,r1,r2,r3,r4]at e;simp[lookO,r1,r2,r3,r4,h2,e]
    have e2:Az c l=if 32<=i.op/\i.op<=34 then((Af c m i).1,(Af c m i).2,BB)else if 35<=i.op/\i.op<=36 then((AX c m i).1,(AX c m i).2,BB)else((AE c i).1,m,(AE c i).2):=by
     rw[hE1];unfold CY;rw[hi,if_neg (by simp[hv]),if_neg (fun q=>hm q.2)]
    refine cZ (hpr) (kX3 @y1 @p1 @hk1) (kX5 @y1 @p1 @p2 @p3 @hk1) ?_;refine EP @hm @p1 ?_;intros;apply wr;by_cases h56:56<=i.op
    ·have e0:Az c l=((AE c i).1,m,(AE c i).2):=by rw[e2,nG,nG]
     have hs:=Z9 c i hc hv h56;unfold Jo at hs;generalize AE c i=Z at hs e0;refine DI @h56 (kX2 @y1 @p1) ?_;refine cZ (hs) (kX5 @y2 @y3 @p1 @p2 @p3) (kX5 @y2 @y3 @p1 @p2 @p3) ?_;intros;apply wr;refine ar ?_;simp[e0];refine⟨by omega,by simp[lookO,n1,n2,n3,p4,g2],fun i h1 h2=>?_⟩;have r1:¬i=nx:=by omega
     have r2:¬i=nx+1:=by omega
     have r3:¬i=nx+1+1:=by omega
     have r4:¬i=nx'+6:=by omega
     have e:=g3 i (by omega) h2;simp[lookO,r1,r2,r3,r4]at e;simp[lookO,r1,r2,r3,r4,h2,e]
    refine EP @h56 @p1 ?_;intros;apply wr;by_cases h40:40<=i.op
    ·have e0:Az c l=((AE c i).1,m,BB):=by rw[e2,nG,nG,ZC c i (by omega)]
     have hs:=ZH c i hc hv h40 (by omega);unfold Vu at hs;generalize AE c i=Z at hs e0;refine DI @h40 (kX2 @y1 @p1) ?_;refine cZ (hs) (kX5 @y2 @y3 @p1 @p2 @p3) (kX5 @y2 @y3 @p1 @p2 @p3) ?_;intros;apply wr;refine ar ?_;simp[e0,BB];refine⟨by omega,by simp[lookO,n1,n2,n3,p4,g2],fun i h1 h2=>?_⟩;have r1:¬i=nx:=by omega
     have r2:¬i=nx+1:=by omega
     have r3:¬i=nx+1+1:=by omega
     have r4:¬i=nx'+6:=by omega
     have e:=g3 i (by omega) h2;simp[lookO,r1,r2,r3,r4]at e;simp[lookO,r1,r2,r3,r4,h2,e]
    refine EP @h40 @p1 ?_;intros;apply wr;by_cases h32:32<=i.op
    ·have h36:i.op<=36:=by rcases El (DG hv)with h|h|h|h|h|h|h|h|h|h|h|h|h|h|h<;>omega
     have e0:Az c l=((OV c m i).1,(OV c m i).2,BB):=by
      unfold OV;by_cases h34:i.op<=34
      ·rw[e2,if_pos ⟨h32,h34⟩,if_pos h34]
      rw[e2,nG,nH,if_neg h34]
     have ht:∀{nx:Nat}{ob:List (Nat×Option Ob)},lookO ob j=some (EH m)->j<nx->Bt prog 206 [.st c.row,.own j,.st i.row] nx ob fun r nx' ob'=>r=.st (OV c m i).1.row/\CZ nx ob j (OV c m i).2 nx' ob':=fun h1 h2=>Za j c m i hc hw hv h32 (by omega) h1 h2;generalize OV c m i=Z at ht e0;refine DI @h32 (kX2 @y1 @p1) ?_;intros;apply wr;obtain⟨na,rfl⟩:∃na,na=nx':=⟨_,rfl⟩;obtain⟨oa,rfl⟩:∃oa,oa=ob':=⟨_,rfl⟩;refine cO ?_;refine(ht (by simp[lookO,p4,g2]) (by omega)).mono fun r nx' ob' hp=>?_;simp only[BX];obtain⟨rfl,k1,k2,k3⟩:=hp;have z2:=k3 (nx+1) (by omega) (by omega);have z3:=k3 (nx+1+1) (by omega) (by omega);simp[lookO,p1,p2,p3,y2]at z2;simp[lookO,p1,p2,p3,y3]at z3;simp[z2,z3];refine au1 (kX2 @z2 @z3) ?_;intros;apply wr;refine ar ?_;simp[e0,BB];refine⟨by omega,by simp[lookO,n2,n3,k2],fun v h1 h2=>?_⟩;have r1:¬v=nx:=by omega
     have r2:¬v=nx+1:=by omega
     have r3:¬v=nx+1+1:=by omega
     have r4:¬v=na+6:=by omega
     have e:=g3 v (by omega) h2;have e':=k3 v (by omega) h2;simp[lookO,r1,r2,r3,r4]at e e';simp[lookO,r1,r2,r3,r4,h2,e,e']
    refine EP @h32 @p1 ?_;intros;apply wr;obtain⟨a0,a1,b0,b1,c0,c1⟩:=CJ hv;by_cases h24:i.op=24
    ·have e0:Az c l=((c.setR i.a (uw (uw i.imm*65536))).setP (uw (c.pc+4)),m,BB):=by
      rw[e2,nG,nG];unfold AE;simp[h24]
     refine DI @h24 (kX2 @y1 @p1) ?_;refine cZ (DF c i.a (uw (uw i.imm*65536)) a0 a1) (kX6 @y1 @y2 @y3 @p1 @p2 @p3) (kX6 @y1 @y2 @y3 @p1 @p2 @p3) ?_;intros;apply wr;refine ar ?_;simp[e0,BB,CpuD.setP,An];refine⟨by omega,by simp[lookO,n1,n2,n3,p4,g2],fun i h1 h2=>?_⟩;have r1:¬i=nx:=by omega
     have r2:¬i=nx+1:=by omega
     have r3:¬i=nx+1+1:=by omega
     have r4:¬i=nx'+6:=by omega
     have e:=g3 i (by omega) h2;simp[lookO,r1,r2,r3,r4]at e;simp[lookO,r1,r2,r3,r4,h2,e]
    refine EP @h24 @p1 ?_;intros;apply wr;have hal:=op_56 hv (by omega);have hop:(1<=i.op/\i.op<=13)\/(16<=i.op/\i.op<=23):=by omega
    have g:=AP c b0 b1;have gc:=AP c c0 c1;have e0:Az c l=((c.setR i.a ((SI i.op (c.x i.b.toNat) (if 16<=i.op then uw i.imm else c.x i.c.toNat)).getD 0)).setP (uw (c.pc+4)),m,BB):=by
     rw[e2,nG,nG];unfold AE
     iterate 13 rw[nG]
    by_cases h13:i.op<=13
    ·rw[nG]at e0;refine DI @h13 (kX3 @gc @y1 @p1) ?_;intros;apply wr;refine AD 14 [0,1,0,4,0,28,60,0,255,511,1023,1023,2047,8191] [(8,([[],[0],[],[2],[],[2,3,4],[2,3,4,5],[]],[])),(1,([],[])),(1,([],[])),(3,([[],[],[0]],[])),(1,([],[]))] ?_;refine af1 (kX3 @g @y1 @p1) ?_;refine cYf (Ld i.op (c.x i.b.toNat) (c.x i.c.toNat) (hc.x _) (hc.x _) hop) (kX2 @y1 @p1) ?_;refine cZf (DF c i.a ((SI i.op (c.x i.b.toNat) (c.x i.c.toNat)).getD 0) a0 a1) (kX6 @y1 @y2 @y3 @p1 @p2 @p3) (kX6 @y1 @y2 @y3 @p1 @p2 @p3) ?_;intros;apply wr;refine ar ?_;simp[e0,BB,CpuD.setP,An];refine⟨by omega,by simp[lookO,n1,n2,n3,p4,g2],fun i h1 h2=>?_⟩;have r1:¬i=nx:=by omega
     have r2:¬i=nx+1:=by omega
     have r3:¬i=nx+1+1:=by omega
     have r4:¬i=nx'+6:=by omega
     have e:=g3 i (by omega) h2;simp[lookO,r1,r2,r3,r4]at e;simp[lookO,r1,r2,r3,r4,h2,e]
    rw[nH]at e0;refine Cw @h13 @p1 ?_;intros;apply wr;refine AD 14 [0,1,0,4,0,28,60,0,255,511,1023,1023,2047,8191] [(8,([[],[0],[],[2],[],[2,3,4],[2,3,4,5],[]],[])),(1,([],[])),(1,([],[])),(3,([[],[],[0]],[])),(1,([],[]))] ?_;refine af1 (kX3 @g @y1 @p1) ?_;refine cYf (Ld i.op (c.x i.b.toNat) (uw i.imm) (hc.x _) (E6 _) hop) (kX2 @y1 @p1) ?_;refine cZf (DF c i.a ((SI i.op (c.x i.b.toNat) (uw i.imm)).getD 0) a0 a1) (kX6 @y1 @y2 @y3 @p1 @p2 @p3) (kX6 @y1 @y2 @y3 @p1 @p2 @p3) ?_;intros;apply wr;refine ar ?_;simp[e0,BB,CpuD.setP,An];refine⟨by omega,by simp[lookO,n1,n2,n3,p4,g2],fun i h1 h2=>?_⟩;have r1:¬i=nx:=by omega
    have r2:¬i=nx+1:=by omega
    have r3:¬i=nx+1+1:=by omega
    have r4:¬i=nx'+6:=by omega
    have e:=g3 i (by omega) h2;simp[lookO,r1,r2,r3,r4]at e;simp[lookO,r1,r2,r3,r4,h2,e]
   | false =>
    rw[hpv]at hpr;have e2:Az c l=if 32<=i.op/\i.op<=34 then((Af c m i).1,(Af c m i).2,BB)else if 35<=i.op/\i.op<=36 then((AX c m i).1,(AX c m i).2,BB)else((AE c i).1,m,(AE c i).2):=by
     rw[hE1];unfold CY;rw[hi,if_neg (by simp[hv]),if_neg (fun q=>by rw[hpv]at q;simp at q)]
    refine cZf (hpr) (kX3 @y1 @p1 @hk1) (kX5 @y1 @p1 @p2 @p3 @hk1) ?_;refine LI @p1 ?_;intros;apply wr;by_cases h56:56<=i.op
    ·have e0:Az c l=((AE c i).1,m,(AE c i).2):=by rw[e2,nG,nG]
     have hs:=Z9 c i hc hv h56;unfold Jo at hs;generalize AE c i=Z at hs e0;refine Cg @h56 (kX2 @y1 @p1) ?_;refine cZf (hs) (kX5 @y2 @y3 @p1 @p2 @p3) (kX5 @y2 @y3 @p1 @p2 @p3) ?_;intros;apply wr;refine ar ?_;simp[e0];refine⟨by omega,by simp[lookO,n1,n2,n3,p4,g2],fun i h1 h2=>?_⟩;have r1:¬i=nx:=by omega
     have r2:¬i=nx+1:=by omega
     have r3:¬i=nx+1+1:=by omega
     have r4:¬i=nx'+6:=by omega
     have e:=g3 i (by omega) h2;simp[lookO,r1,r2,r3,r4]at e;simp[lookO,r1,r2,r3,r4,h2,e]
    refine Cw @h56 @p1 ?_;intros;apply wr;by_cases h40:40<=i.op
    ·have e0:Az c l=((AE c i).1,m,BB):=by rw[e2,nG,nG,ZC c i (by omega)]
     have hs:=ZH c i hc hv h40 (by omega);unfold Vu at hs;generalize AE c i=Z at hs e0;refine Cg @h40 (kX2 @y1 @p1) ?_;refine cZf (hs) (kX5 @y2 @y3 @p1 @p2 @p3) (kX5 @y2 @y3 @p1 @p2 @p3) ?_;intros;apply wr;refine ar ?_;simp[e0,BB];refine⟨by omega,by simp[lookO,n1,n2,n3,p4,g2],fun i h1 h2=>?_⟩;have r1:¬i=nx:=by omega
     have r2:¬i=nx+1:=by omega
     have r3:¬i=nx+1+1:=by omega
     have r4:¬i=nx'+6:=by omega
     have e:=g3 i (by omega) h2;simp[lookO,r1,r2,r3,r4]at e;simp[lookO,r1,r2,r3,r4,h2,e]
    refine Cw @h40 @p1 ?_;intros;apply wr;by_cases h32:32<=i.op
    ·have h36:i.op<=36:=by rcases El (DG hv)with h|h|h|h|h|h|h|h|h|h|h|h|h|h|h<;>omega
     have e0:Az c l=((OV c m i).1,(OV c m i).2,BB):=by
      unfold OV;by_cases h34:i.op<=34
      ·rw[e2,if_pos ⟨h32,h34⟩,if_pos h34]
      rw[e2,nG,nH,if_neg h34]
     have ht:∀{nx:Nat}{ob:List (Nat×Option Ob)},lookO ob j=some (EH m)->j<nx->Bt prog 206 [.st c.row,.own j,.st i.row] nx ob fun r nx' ob'=>r=.st (OV c m i).1.row/\CZ nx ob j (OV c m i).2 nx' ob':=fun h1 h2=>Za j c m i hc hw hv h32 (by omega) h1 h2;generalize OV c m i=Z at ht e0;refine Cg @h32 (kX2 @y1 @p1) ?_;intros;apply wr;obtain⟨na,rfl⟩:∃na,na=nx':=⟨_,rfl⟩;obtain⟨oa,rfl⟩:∃oa,oa=ob':=⟨_,rfl⟩;refine cO ?_;refine(ht (by simp[lookO,p4,g2]) (by omega)).mono fun r nx' ob' hp=>?_;simp only[BX];obtain⟨rfl,k1,k2,k3⟩:=hp;have z2:=k3 (nx+1) (by omega) (by omega);have z3:=k3 (nx+1+1) (by omega) (by omega);simp[lookO,p1,p2,p3,y2]at z2;simp[lookO,p1,p2,p3,y3]at z3;simp[z2,z3];refine af1 (kX2 @z2 @z3) ?_;intros;apply wr;refine ar ?_;simp[e0,BB];refine⟨by omega,by simp[lookO,n2,n3,k2],fun v h1 h2=>?_⟩;have r1:¬v=nx:=by omega
     have r2:¬v=nx+1:=by omega
     have r3:¬v=nx+1+1:=by omega
     have r4:¬v=na+6:=by omega
     have e:=g3 v (by omega) h2;have e':=k3 v (by omega) h2;simp[lookO,r1,r2,r3,r4]at e e';simp[lookO,r1,r2,r3,r4,h2,e,e']
    refine Cw @h32 @p1 ?_;intros;apply wr;obtain⟨a0,a1,b0,b1,c0,c1⟩:=CJ hv;by_cases h24:i.op=24
    ·have e0:Az c l=((c.setR i.a (uw (uw i.imm*65536))).setP (uw (c.pc+4)),m,BB):=by
      rw[e2,nG,nG];unfold AE;simp[h24]
     refine Cg @h24 (kX2 @y1 @p1) ?_;refine cZf (DF c i.a (uw (uw i.imm*65536)) a0 a1) (kX6 @y1 @y2 @y3 @p1 @p2 @p3) (kX6 @y1 @y2 @y3 @p1 @p2 @p3) ?_;intros;apply wr;refine ar ?_;simp[e0,BB,CpuD.setP,An];refine⟨by omega,by simp[lookO,n1,n2,n3,p4,g2],fun i h1 h2=>?_⟩;have r1:¬i=nx:=by omega
     have r2:¬i=nx+1:=by omega
     have r3:¬i=nx+1+1:=by omega
     have r4:¬i=nx'+6:=by omega
     have e:=g3 i (by omega) h2;simp[lookO,r1,r2,r3,r4]at e;simp[lookO,r1,r2,r3,r4,h2,e]
    refine Cw @h24 @p1 ?_;intros;apply wr;have hal:=op_56 hv (by omega);have hop:(1<=i.op/\i.op<=13)\/(16<=i.op/\i.op<=23):=by omega
    have g:=AP c b0 b1;have gc:=AP c c0 c1;have e0:Az c l=((c.setR i.a ((SI i.op (c.x i.b.toNat) (if 16<=i.op then uw i.imm else c.x i.c.toNat)).getD 0)).setP (uw (c.pc+4)),m,BB):=by
     rw[e2,nG,nG];unfold AE
     iterate 13 rw[nG]
    by_cases h13:i.op<=13
    ·rw[nG]at e0;refine Cg @h13 (kX3 @gc @y1 @p1) ?_;intros;apply wr;refine AD 14 [0,1,0,4,0,28,60,0,255,511,1023,1023,2047,8191] [(8,([[],[0],[],[2],[],[2,3,4],[2,3,4,5],[]],[])),(1,([],[])),(1,([],[])),(3,([[],[],[0]],[])),(1,([],[]))] ?_;refine af1 (kX3 @g @y1 @p1) ?_;refine cYf (Ld i.op (c.x i.b.toNat) (c.x i.c.toNat) (hc.x _) (hc.x _) hop) (kX2 @y1 @p1) ?_;refine cZf (DF c i.a ((SI i.op (c.x i.b.toNat) (c.x i.c.toNat)).getD 0) a0 a1) (kX6 @y1 @y2 @y3 @p1 @p2 @p3) (kX6 @y1 @y2 @y3 @p1 @p2 @p3) ?_;intros;apply wr;refine ar ?_;simp[e0,BB,CpuD.setP,An];refine⟨by omega,by simp[lookO,n1,n2,n3,p4,g2],fun i h1 h2=>?_⟩;have r1:¬i=nx:=by omega
     have r2:¬i=nx+1:=by omega
     have r3:¬i=nx+1+1:=by omega
     have r4:¬i=nx'+6:=by omega
     have e:=g3 i (by omega) h2;simp[lookO,r1,r2,r3,r4]at e;simp[lookO,r1,r2,r3,r4,h2,e]
    rw[nH]at e0;refine Cw @h13 @p1 ?_;intros;apply wr;refine AD 14 [0,1,0,4,0,28,60,0,255,511,1023,1023,2047,8191] [(8,([[],[0],[],[2],[],[2,3,4],[2,3,4,5],[]],[])),(1,([],[])),(1,([],[])),(3,([[],[],[0]],[])),(1,([],[]))] ?_;refine af1 (kX3 @g @y1 @p1) ?_;refine cYf (Ld i.op (c.x i.b.toNat) (uw i.imm) (hc.x _) (E6 _) hop) (kX2 @y1 @p1) ?_;refine cZf (DF c i.a ((SI i.op (c.x i.b.toNat) (uw i.imm)).getD 0) a0 a1) (kX6 @y1 @y2 @y3 @p1 @p2 @p3) (kX6 @y1 @y2 @y3 @p1 @p2 @p3) ?_;intros;apply wr;refine ar ?_;simp[e0,BB,CpuD.setP,An];refine⟨by omega,by simp[lookO,n1,n2,n3,p4,g2],fun i h1 h2=>?_⟩;have r1:¬i=nx:=by omega
    have r2:¬i=nx+1:=by omega
    have r3:¬i=nx+1+1:=by omega
    have r4:¬i=nx'+6:=by omega
    have e:=g3 i (by omega) h2;simp[lookO,r1,r2,r3,r4]at e;simp[lookO,r1,r2,r3,r4,h2,e]
 have e1:Az c l=(BP c k c.pc,m,BB):=by rw[hE,if_pos hk]
 refine Cg @hk @y1 ?_;refine cZf (CO c k c.pc hc) (kX2 @y2 @y3) (kX2 @y2 @y3) ?_;intros;apply wr;refine ar ?_;simp[e1,BB];refine⟨by omega,by simp[lookO,n1,n2,n3,g2],fun i h1 h2=>?_⟩;have r1:¬i=nx:=by omega
 have r2:¬i=nx+1:=by omega
 have r3:¬i=nx+1+1:=by omega
 have e:=g3 i (by omega) h2;simp[lookO,r1,r2,r3]at e;simp[lookO,r1,r2,r3,h2,e]
theorem Ot(t:TimD):AC prog 261 [.st t.row] (.bool t.fired):=by
 refine sZ func261 ntmps261 ?_;exact wx trivial trivial
theorem Of(s:Str):AC prog 262 [.st [.str s]] (.bool (!decide (s=[]))):=by
 have e:decide (0<(s.length:Int))=!decide (s=[]):=by cases s<;>simp<;>omega
 refine sZ func262 ntmps262 ?_;exact wx1 trivial trivial @e
theorem Oi(d:DskD):AC prog 263 [.st d.row] (.bool (CL d)):=by
 refine sZ func263 ntmps263 ?_;exact wx1 trivial trivial @CL.eq_1
theorem On(n:NicD):AC prog 264 [.st n.row] (.bool n.received):=by
 refine sZ func264 ntmps264 ?_;exact wx trivial trivial
theorem VA(t:TimD):AC prog 209 [.st t.row] (uv (SA t)):=by
 refine sZ func209 ntmps209 ?_;exact wx1 trivial trivial (kX2 @SA.eq_1 @b2w.eq_1)
theorem Ud(d:DskD)(p:Int):AC prog 210 [.st d.row,iv p] (uv (OB d p)):=by
 refine sZ func210 ntmps210 ?_;exact wx1 trivial trivial @OB.eq_1
theorem Us(n:NicD)(p:Int):AC prog 211 [.st n.row,iv p] (uv (OX n p)):=by
 refine sZ func211 ntmps211 ?_;exact wx1 trivial trivial (kX3 @OX.eq_1 @b2w.eq_1 @D5)
theorem dQ(v:Int):AC prog 213 [uv v] (.st (WM v).row):=by
 refine sZ func213 ntmps213 ?_;exact wx1 trivial trivial @WM.eq_1
def FB(g:Int)(n:Nat):Int:=(List.range n).foldl (fun n i=>n+g/2^i%2) 0
@[simp] theorem countU_0(g:Int):FB g 0=0:=rfl
theorem PY(g:Int)(n:Nat):FB g (n+1)=FB g n+g/2^n%2:=by simp[FB,List.range_succ,List.foldl_append]
theorem PX(g:Int):∀n:Nat,0<=FB g n/\FB g n<=n
 | 0=>by simp[FB]
 | n+1=>by have:=PX g n;rw[PY];omega
theorem NV(t g:Int)(hg:W32 g):AC prog 278 [.st [uv t,uv g]] (iv (countB g)):=by
 refine sX func278 ntmps278 ?_;intros;apply wr;obtain⟨I,hI⟩:∃I:Nat->St->Prop,I=(fun kk ss=>∃(i:Nat),i<=32/\kk=32-i/\(True)/\ss=⟨19,[(4,.int .i64 i),(3,.int .i64 (FB g i)),(1,.ptr 0 2 0 0)],1,[(0,some ⟨40,2,true,false,[[uv t,uv g]]⟩)],0⟩):=⟨_,rfl⟩;refine lX I (id) (by rw[hI];exact⟨0,by simp,rfl,trivial,rfl⟩) ?_;intro kk ss hIk _;rw[hI]at hIk;obtain⟨i,hi,rfl,hx,rfl⟩:=hIk;refine au ?_;intros;apply wr;refine AB rfl (fun h=>?_) (fun h=>?_)
 ·simp at h;have e1:min i 32=i:=by omega
  have e2:g.fdiv (2^i)=g/2^i:=gU _ (iJ (iM (by decide)));have e3:Bg .u32 (g/2^i) 1=g/2^i%2:=AV (g/2^i) 1 2 (by omega) (by decide);have e4:IntKind.i64.wrap (g/2^i%2)=g/2^i%2:=AA;have e5:=PX g i;have e6:IntKind.i64.wrap (FB g i+g/2^i%2)=FB g (i+1):=by rw[PY];exact AA
  have e7:IntKind.u64.wrap (i:Int)=i:=u64_in;refine au1 (kX6 @e1 @e2 @e3 @e4 @e6 @e7) ?_;intros;apply wr;exact aX (fun x=>x) (by rw[hI];exact⟨i+1,by omega,rfl,trivial,rfl⟩) (kX2 (AA (n:=(i:Int)+1)) @e6)
 simp at h;have hi:i=32:=by omega
 subst hi;refine au ?_;refine ar ?_;simp[countB,FB]
theorem Oe(t g:Int)(hw:W32 g)(ht:W32 t):AC prog 265 [.st [uv t,uv g]] (.bool (Bf t g)):=by
 have hb:=Ee hw;have e:IntKind.u64.wrap (countB g)=countB g:=u64_in;have e2:IntKind.u64.wrap t=t:=u64_in ht.1 (by have:=ht.2;omega);refine sZ func265 ntmps265 ?_
 (refine af1 (kX3 @e @e2 @Bf.eq_1) ?_;intros;apply wr)
 repeat' ((first|(refine AB rfl (fun h=>?_) (fun h=>?_)<;>(first|(simp[e,e2,Bf]at h;done)|(simp[e,e2,Bf]at h)|skip)<;>(first|(exfalso;omega)|skip))|refine cc1 (NV t g hw) (kX3 @e @e2 @Bf.eq_1) ?_|(refine AD 8 [0,1,3,0,8,24,63,127] [(6,([[],[0],[0,1],[],[3],[3,4]],[(4,1),(5,1)])),(1,([],[])),(1,([],[]))] ?_)|exact rt1 (kX3 @e @e2 @Bf.eq_1)|fail)<;>(refine af1 (kX3 @e @e2 @Bf.eq_1) ?_;intros;apply wr))
theorem Ua(t g p:Int)(hw:W32 g):AC prog 212 [.st [uv t,uv g],iv p] (uv (MG t g p)):=by
 have e:IntKind.u32.wrap (countB g)=countB g:=by have:=Ee hw;exact u32_in
 refine sZ func212 ntmps212 ?_;exact wx1 (qX1 (NV t g hw)) trivial (kX2 @e @MG.eq_1)
theorem Gx(b:Bool)(k:Int)(hk:0<=k/\k<=4):AC prog 260 [.bool b,iv k] (uv (b2w b*2^k.toNat)):=by
 have hk5:k=0\/k=1\/k=2\/k=3\/k=4:=by omega
 rcases hk5 with rfl|rfl|rfl|rfl|rfl
 ·refine sZ func260 ntmps260 ?_;exact wx1 trivial trivial (kX3 @b2w.eq_1 @D5 @IA)
 ·refine sZ func260 ntmps260 ?_;exact wx1 trivial trivial (kX3 @b2w.eq_1 @D5 @IA)
 ·refine sZ func260 ntmps260 ?_;exact wx1 trivial trivial (kX3 @b2w.eq_1 @D5 @IA)
 ·refine sZ func260 ntmps260 ?_;exact wx1 trivial trivial (kX3 @b2w.eq_1 @D5 @IA)
 refine sZ func260 ntmps260 ?_;exact wx1 trivial trivial (kX3 @b2w.eq_1 @D5 @IA)
theorem lor5:∀p0 p1 p2 p3 p4:Bool,ior .u32 (ior .u32 (ior .u32 (ior .u32 (b2w p0*2^(0:Int).toNat) (b2w p1*2^(1:Int).toNat)) (b2w p2*2^(2:Int).toNat)) (b2w p3*2^(3:Int).toNat)) (b2w p4*2^(4:Int).toNat)=b2w p0+b2w p1*2+b2w p2*4+b2w p3*8+b2w p4*16:=by decide
theorem Up(m:MchD)(hM:OkM m):AC prog 199 [.st m.row] (uv (Hn m)):=by
 have hb:=Oe m.tgt m.given hM.gv hM.tg;have ht:=Ot m.tim;have hk:=Of m.keys;have hd:=Oi m.dk;have hn:=On m.nc;have hE:Hn m=b2w m.tim.fired+b2w (!decide (m.keys=[]))*2+b2w (CL m.dk)*4+b2w m.nc.received*8+b2w (Bf m.tgt m.given)*16:=rfl;have l0:=Gx m.tim.fired 0 (by omega);have l1:=Gx (!decide (m.keys=[])) 1 (by omega);have l2:=Gx (CL m.dk) 2 (by omega);have l3:=Gx m.nc.received 3 (by omega);have l4:=Gx (Bf m.tgt m.given) 4 (by omega);have hL:=lor5 m.tim.fired (!decide (m.keys=[])) (CL m.dk) m.nc.received (Bf m.tgt m.given);rw[<- hE]at hL;generalize b2w m.tim.fired*2^(0:Int).toNat=v0 at *;generalize b2w (!decide (m.keys=[]))*2^(1:Int).toNat=v1 at *;generalize b2w (CL m.dk)*2^(2:Int).toNat=v2 at *;generalize b2w m.nc.received*2^(3:Int).toNat=v3 at *;generalize b2w (Bf m.tgt m.given)*2^(4:Int).toNat=v4 at *;refine sX func199 ntmps199 ?_;intros;apply wr;refine AD 25 [0,1,3,7,0,16,63,127,255,0,512,1791,3839,8191,0,16384,57087,122623,262143,0,524288,1826559,3923711,8388607,16777215] [(23,([[],[0],[0,1],[0,1,2],[],[4],[0,1,2,3,4,5],[0,1,2,3,4,5,6],[0,1,2,3,4,5,6,7],[],[9],[0,1,2,3,4,5,6,7,9,10],[0,1,2,3,4,5,6,7,9,10,11],[0,1,2,3,4,5,6,7,8,9,10,11,12],[],[14],[0,1,2,3,4,5,6,7,9,10,11,12,14,15],[0,1,2,3,4,5,6,7,9,10,11,12,14,15,16],[0,1,2,3,4,5,6,7,8,9,10,11,12,13,14,15,16,17],[],[19],[0,1,2,3,4,5,6,7,9,10,11,12,14,15,16,17,19,20],[0,1,2,3,4,5,6,7,9,10,11,12,14,15,16,17,19,20,21]],[(5,2),(5,3),(10,2),(10,3),(10,6),(10,7),(15,2),(15,3),(15,6),(15,7),(15,11),(15,12),(20,2),(20,3),(20,6),(20,7),(20,11),(20,12),(20,16),(20,17)])),(1,([],[])),(1,([],[]))] ?_;refine af ?_;refine cXf (ht) ?_;refine cXf (l0) ?_;refine cXf (hk) ?_;refine cXf (l1) ?_;refine cXf (hd) ?_;refine cXf (l2) ?_;refine cXf (hn) ?_;refine cXf (l3) ?_;refine cXf (hb) ?_;refine cXf (l4) ?_;refine ar ?_;simp[hL]
theorem J4(m:MchD)(hM:OkM m):AC prog 154 [.st m.row] (uv (enD m)):=by
 refine sX func154 ntmps154 ?_;intros;apply wr;refine AD 8 [0,1,0,4,12,28,63,127] [(6,([[],[0],[],[2],[2,3],[2,3,4]],[(4,1),(5,1)])),(1,([],[])),(1,([],[]))] ?_;refine af ?_;refine cXf (Up m hM) ?_;refine ar ?_;simp[enD]
theorem Xy(m:MchD)(hM:OkM m):AC prog 93 [.st m.row] (.bool (OK m)):=by
 have he:=J4 m hM;have hE:OK m=(m.waiting&&decide (enD m=0)):=rfl;rw[hE];generalize enD m=e at *;refine sX func93 ntmps93 ?_;intros;apply wr;first|refine B0 (he) rfl (fun hgd=>?_) (by simp[BY]) ?_|refine BI (he) rfl (by simp) (fun hgd=>?_) (by simp[BY]) ?_
 all_goals simp
 all_goals (try (first|exact hgd|(simp at hgd;first|done|assumption|grind)))
 refine au ?_;intros;apply wr;refine ar ?_;simp;try rfl
theorem E7{C D E G:Prop}(c:C)(d:D)(e:E)(t:C->D->E->G:=by intro c d e;(refine au1 e ?_;(repeat intro K hK);apply wr);repeat' ((first|(refine AB rfl (fun h=>?_) (fun h=>?_)<;>(first|(simp[e]at h;done)|(simp[e]at h)|skip)<;>(first|(exfalso;omega)|skip))|((first|refine .inl ⟨1,_,d.1,?_⟩|refine⟨1,_,d.1,?_⟩);simp[C0,Cd,noX,Cx,C9,e];first|refine And.intro AQ ?_|skip)|((first|refine .inl ⟨1,_,d.2.1,?_⟩|refine⟨1,_,d.2.1,?_⟩);simp[C0,Cd,noX,Cx,C9,e];first|refine And.intro AQ ?_|skip)|refine cc1 c.1 e ?_|refine cc1 c.2.1 e ?_|refine cc1 c.2.2.1 e ?_|refine cc1 c.2.2.2.1 e ?_|refine cc1 c.2.2.2.2.1 e ?_|refine cc1 c.2.2.2.2.2.1 e ?_|refine Aa 6 ?_|refine BD fun K hK=>?_|exact rt1 e|fail)<;>(refine au1 e ?_;(repeat intro K hK);apply wr))):G:=t c d e
theorem cA(x y:Int)(h0:0<=x)(h1:x<=31):Bg .u32 x y<=31:=by
 unfold Bg;rw[show IntKind.u32.bits=32 from rfl,BitVec.toNat_and,Dy,IntKind.wrap_u32];have h:(x%4294967296).toNat &&& (BitVec.ofInt 32 y).toNat<=(x%4294967296).toNat:=Nat.and_le_left;omega
theorem enD_le(m:MchD)(hM:OkM m):enD m<=31:=by
 have hr:=Pi m;exact cA _ _ hr.1 hr.2
theorem Uo(m:MchD)(hM:OkM m):AC prog 155 [.st m.row] (.st (AL m).cpu.row):=by
 have he:=J4 m hM;have i2:=b9 (hM.c.csr 0);by_cases hs:m.cpu.csr 0/2%2=0
 ·have hE:(AL m).cpu=m.cpu:=by unfold AL;rw[if_pos hs]
  rw[hE];refine sZ func155 ntmps155 ?_;exact wx1 (qX1 (he)) trivial (kX2 @i2 @hs)
 have hs1:m.cpu.csr 0/2%2=1:=by omega
 by_cases h0:enD m=0
 ·have hE:(AL m).cpu=m.cpu:=by unfold AL;rw[if_neg hs,h0];rfl
  rw[hE];rw[h0]at he;refine sZ func155 ntmps155 ?_;exact wx1 (qX1 (he)) trivial (kX2 @i2 @hs1)
 have hr:=Pi m;have hew:=enD_w m;have hle:enD m<=31:=enD_le m hM;have hne:=h0;have j0:=Tm hew;have jj:∀k:Int,0<=k->Bg .u32 ((enD m).fdiv k) 1=(enD m)/k%2:=fun k hk=>by
  rw[gU _ hk];exact AV (enD m/k) 1 2 (by omega) (by decide)
 have j1:=jj 2 (by decide);have j2:=jj 4 (by decide);have j3:=jj 8 (by decide);have j4:=jj 16 (by decide);have z:∀x:Int,¬x%2=1->x%2=0:=fun x hx=>by omega
 by_cases h0:enD m%2=1
 ·have hE:(AL m).cpu=BP m.cpu (16+0) 0:=by unfold AL SQ;rw[nG];simp[h0]
  rw[hE];refine sX func155 ntmps155 ?_;exact E7 (qX2 (he) (CO m.cpu (16+0) 0 hM.c)) trivial (ZI @i2 @hs1 @hne @j0 @j1 @j2 @j3 @j4 @D5 @IA @HZ @h0)
 have z0:=z _ h0;by_cases h1:enD m/2%2=1
 ·have hE:(AL m).cpu=BP m.cpu (16+1) 0:=by unfold AL SQ;rw[nG];simp[z0,h1]
  rw[hE];refine sX func155 ntmps155 ?_;exact E7 (qX2 (he) (CO m.cpu (16+1) 0 hM.c)) trivial (kX13 @i2 @hs1 @hne @j0 @j1 @j2 @j3 @j4 @D5 @IA @HZ @z0 @h1)
 have z1:=z _ h1;by_cases h2:enD m/4%2=1
 ·have hE:(AL m).cpu=BP m.cpu (16+2) 0:=by unfold AL SQ;rw[nG];simp[z0,z1,h2]
  rw[hE];refine sX func155 ntmps155 ?_;exact E7 (qX2 (he) (CO m.cpu (16+2) 0 hM.c)) trivial (kX14 @i2 @hs1 @hne @j0 @j1 @j2 @j3 @j4 @D5 @IA @HZ @z0 @z1 @h2)
 have z2:=z _ h2;by_cases h3:enD m/8%2=1
 ·have hE:(AL m).cpu=BP m.cpu (16+3) 0:=by unfold AL SQ;rw[nG];simp[z0,z1,z2,h3]
  rw[hE];refine sX func155 ntmps155 ?_;exact E7 (qX2 (he) (CO m.cpu (16+3) 0 hM.c)) trivial (kX15 @i2 @hs1 @hne @j0 @j1 @j2 @j3 @j4 @D5 @IA @HZ @z0 @z1 @z2 @h3)
 have z3:=z _ h3;by_cases h4:enD m/16%2=1
 ·have hE:(AL m).cpu=BP m.cpu (16+4) 0:=by unfold AL SQ;rw[nG];simp[z0,z1,z2,z3,h4]
  rw[hE];refine sX func155 ntmps155 ?_;exact E7 (qX2 (he) (CO m.cpu (16+4) 0 hM.c)) trivial (kX16 @i2 @hs1 @hne @j0 @j1 @j2 @j3 @j4 @D5 @IA @HZ @z0 @z1 @z2 @z3 @h4)
 omega
theorem Ih{C D E G:Prop}(c:C)(d:D)(e:E)(t:C->D->E->G:=by intro c d e;(refine af1 e ?_;intros;apply wr);repeat' ((first|(refine AB rfl (fun h=>?_) (fun h=>?_)<;>(first|(simp[e]at h;done)|(simp[e]at h)|skip)<;>(first|(exfalso;omega)|skip))|((first|refine .inl ⟨1,_,d.1,?_⟩|refine⟨1,_,d.1,?_⟩);simp[C0,Cd,noX,Cx,C9,e];first|refine And.intro AQ ?_|skip)|((first|refine .inl ⟨1,_,d.2.1,?_⟩|refine⟨1,_,d.2.1,?_⟩);simp[C0,Cd,noX,Cx,C9,e];first|refine And.intro AQ ?_|skip)|refine cc1 c.1 e ?_|refine cc1 c.2.1 e ?_|refine cc1 c.2.2.1 e ?_|refine cc1 c.2.2.2.1 e ?_|refine cc1 c.2.2.2.2.1 e ?_|refine cc1 c.2.2.2.2.2.1 e ?_|(refine AD (rid:=4) 10 [0,1,3,7,0,16,48,112,15,511] [(9,([[],[0],[0,1],[0,1,2],[],[4],[4,5],[4,5,6],[0,1,2,3]],[(5,8),(7,8)])),(1,([],[]))] ?_)|(refine AD (rid:=6) 7 [0,0,2,6,14,1,63] [(6,([[],[],[1],[1,2],[1,2,3],[0]],[(2,5),(3,5),(4,5)])),(1,([],[]))] ?_)|exact rt1 e|fail)<;>(refine af1 e ?_;intros;apply wr))):G:=t c d e
theorem Ub(s:Str)(p:Int)(hl:s.length<=1000):AC prog 208 [.st [.str s],iv p] (.tup [.st [.str (Ed s p).1],uv (Ed s p).2]):=by
 by_cases h0:p=0
 ·subst h0;cases s with
  | nil =>
   refine sX func208 ntmps208 ?_;have k:cF []=4294967295:=rfl;exact Ih trivial trivial (kX2 @Ed.eq_1 @k)
  | cons b r =>
   have w:=V4 b;have k:cF (b::r)=b.toNat:=rfl;have hr:((r.length:Int)+1).toNat=r.length+1:=by omega
   have hz:¬(r.length:Int)+1=0:=by omega
   refine sZ func208 ntmps208 ?_;exact Ih trivial trivial (kX5 @w @hr @hz @Ed.eq_1 @k)
 by_cases h1:p=1
 ·subst h1;have w:IntKind.u32.wrap (s.length:Int)=s.length:=u32_in;refine sZ func208 ntmps208 ?_;exact Ih trivial trivial (kX2 @w @Ed.eq_1)
 refine sZ func208 ntmps208 ?_;exact Ih trivial trivial (kX3 @h0 @h1 @Ed.eq_1)
theorem Xw(t:TimD):AC prog 150 [.st t.row] (.tup [.st (FG t).1.row,.bool (FG t).2]):=by
 obtain⟨a,d,f⟩:=t;cases a
 ·refine sZ func150 ntmps150 ?_;exact wx1 trivial trivial @FG.eq_1
 refine sZ func150 ntmps150 ?_;exact wx1 trivial trivial @FG.eq_1
theorem Lj(d:DskD)(t:Int):AC prog 280 [.st d.row,lv t] (.tup [.st (Ag d t).1.row,.bool (Ag d t).2]):=by
 refine sZ func280 ntmps280 ?_;exact wx1 trivial trivial @Ag.eq_1
theorem DU(l:List Int)(f:Int)(h:W32 f):AC prog 197 [DO l,uv f] (.bool (decide (f<pagesD l))):=by
 have e1:IntKind.u64.wrap f=f:=u64_in h.1 (by have:=h.2;omega);have e2:IntKind.u64.wrap (pagesD l)=pagesD l:=u64_in (Ad l).1 (by have:=Ad l;omega);refine sZ func197 ntmps197 ?_;exact wx1 (qX1 (EA l)) trivial (kX2 @e1 @e2)
theorem dY(w:Int):AC prog 319 [uv w,iv 4] (.str (B1 w)):=by
 have hs:=Dl (B1 w);have hB:=Dk (B1 w);have hr:=Kn w;rw[hr]at hs hB;refine sX func319 ntmps319 ?_;(repeat intro K hK);apply wr;refine AT 5 5 1 (by decide) rfl ?_
 (refine au1 (kX8 @IF @Du @Bi @IA @HZ @hs @hB @maxLen.eq_1) ?_;(repeat intro K hK);apply wr)
 repeat' ((first|(refine AB rfl (fun h=>?_) (fun h=>?_)<;>(first|(simp[IF,Du,Bi,IA,HZ,hs,hB,maxLen]at h;done)|(simp[IF,Du,Bi,IA,HZ,hs,hB,maxLen]at h)|skip)<;>(first|(exfalso;omega)|skip))|refine Aa 5 ?_|refine BD fun K hK=>?_|exact rt1 (kX8 @IF @Du @Bi @IA @HZ @hs @hB @maxLen.eq_1)|fail)<;>(refine au1 (kX8 @IF @Du @Bi @IA @HZ @hs @hB @maxLen.eq_1) ?_;(repeat intro K hK);apply wr))
theorem YJ(s:Str)(b:UInt8)(hl:s.length<=1000):AC prog 151 [.st [.str s],.int .u8 b.toNat] (.tup [.st [.str (FZ s b).1],.bool (FZ s b).2]):=by
 by_cases h:16<=s.length
 ·have h':(16:Int)<=s.length:=by omega
  have hE:FZ s b=(s,false):=if_pos h;rw[hE];refine sZ func151 ntmps151 ?_;exact wx1 trivial trivial @h'
 have h':¬(16:Int)<=s.length:=by omega
 have hE:FZ s b=(s++[b],true):=if_neg h;have hb:Ch [.int .u8 (b.toNat:Int)]:=by exact⟨b,rfl⟩
 rw[hE];refine sZ func151 ntmps151 ?_;exact wx1 trivial trivial (kX4 @h' @maxLen.eq_1 @hb @Ec.eq_1)
theorem Gy(l:List Int)(f:Int)(h0:0<=f)(h1:f<pagesD l):AC prog 279 [DO l,iv f] (.tup [.str (Bh l f),.bool true]):=by
 have hp:=Ad l;have hpl:=C4 (l:=l) (by omega);have hl:=AN .u32 l;have hPl:=Gt h0 h1;have n1:¬f<0:=by omega
 have n2:¬pagesD l<=f:=by omega
 obtain⟨P,hP⟩:∃P,P=(l.take (f*32+32).toNat).drop (f*32).toNat:=⟨_,rfl⟩;rw[<- hP]at hPl;have hB:Bh l f=P.flatMap B1:=by rw[hP];rfl
 refine sX func279 ntmps279 ?_;intros;apply wr;first|refine B0 (EA l) rfl (fun hgd=>?_) (by simp[BY]) ?_|refine BI (EA l) rfl (by simp) (fun hgd=>?_) (by simp[BY]) ?_
 all_goals simp
 all_goals (try (first|exact hgd|(simp at hgd;first|done|assumption|grind)))
 refine au1 (kX2 @n1 @n2) ?_;refine BU (kX2 @n1 @n2) ?_;intros;apply wr;refine AT 6 5 1 (by decide) rfl ?_;obtain⟨I,hI⟩:∃I:Nat->St->Prop,I=(fun kk ss=>∃(i:Nat)(x:Str),i<=32/\kk=32-i/\(x=(P.take i).flatMap B1/\x.length=4*i)/\ss=⟨32,[(7,.int .i64 i),(6,.own 1),(0,DO l),(1,iv f)],2,[(1,some ⟨5,1,false,false,AM x⟩)],0⟩):=⟨_,rfl⟩;refine lX I (id) (by rw[hI];exact⟨0,[],by simp,rfl,⟨by simp,rfl⟩,rfl⟩) ?_;intro kk ss hIk _;rw[hI]at hIk;obtain⟨i,x,hi,rfl,hx,rfl⟩:=hIk;obtain⟨hx1,hx2⟩:=hx;refine au ?_;intros;apply wr;refine AB rfl (fun hh=>?_) (fun hh=>?_)
 ·simp at hh;have hi32:i<P.length:=by omega
  obtain⟨w,hw⟩:∃w,P[i]? =some w:=⟨_,gR hi32⟩;have hlw:l[(f*32+i).toNat]? =some w:=by
   rw[<- hw,hP,iP,iL,nH];congr 1;omega
  have hget:=CN (k:=.u32) hlw;have hnx:(P.take (i+1)).flatMap B1=x++B1 w:=by
   rw[List.take_add_one,hw,List.flatMap_append,<- hx1];simp
  have hrow:AM (x++B1 w)=AM x++AM (B1 w):=by rw[KH]
  have hbl:(AM x).length=4*i:=by simp[AM,hx2]
  have w1:IntKind.i64.wrap (f*32)=f*32:=AA;have w2:IntKind.i64.wrap (f*32+i)=f*32+i:=AA;refine au1 (kX3 @hget @w1 @w2) ?_;refine cc (dY w) ?_;have hwl:(B1 w).length=4:=rfl;refine au1 (kX3 @hbl @hwl @maxLen.eq_1) ?_;intros;apply wr;exact aX (fun x=>if x=1 then 3 else x) (by rw[hI];exact⟨i+1,(x++B1 w),by omega,rfl,⟨hnx.symm,by rw[gV,hx2];rfl⟩,rfl⟩) (kX2 (AA (n:=(i:Int)+1)) @hrow)
 simp at hh;have hi:P.take i=P:=iZ (by omega);rw[hi]at hx1;refine au1 (Dk x) ?_;refine ar ?_;simp[hx1,hB,Dl]
theorem CB{C D E G:Prop}(c:C)(d:D)(e:E)(t:C->D->E->G:=by intro c d e;(refine af1 e ?_;intros;apply wr);repeat' ((first|(refine AB rfl (fun h=>?_) (fun h=>?_)<;>(first|(simp[e]at h;done)|(simp[e]at h)|skip)<;>(first|(exfalso;omega)|skip))|((first|refine .inl ⟨1,_,d.1,?_⟩|refine⟨1,_,d.1,?_⟩);simp[C0,Cd,noX,Cx,C9,e];first|refine And.intro AQ ?_|skip)|((first|refine .inl ⟨1,_,d.2.1,?_⟩|refine⟨1,_,d.2.1,?_⟩);simp[C0,Cd,noX,Cx,C9,e];first|refine And.intro AQ ?_|skip)|refine cc1 c.1 e ?_|refine cc1 c.2.1 e ?_|refine cc1 c.2.2.1 e ?_|refine cc1 c.2.2.2.1 e ?_|refine cc1 c.2.2.2.2.1 e ?_|refine cc1 c.2.2.2.2.2.1 e ?_|(refine BH (.node 2 3 (.leaf [0,1,2,3,4] (bN [0,0,2,7,15]) [(3,([[],[],[1]],[(0,2)])),(1,([],[])),(1,([],[]))]) (.leaf [0,1,3,2,4] (bN [0,0,1,7,15]) [(3,([[],[],[0]],[(1,2)])),(1,([],[])),(1,([],[]))])) (by kernel_rfl) (by kernel_rfl) ?_;simp only[PT.run];repeat' (with_reducible apply And.intro);all_goals (simp only[CE,iI,List.map_nil,iC,iK]))|exact rt1 e|fail)<;>(refine af1 e ?_;intros;apply wr))):G:=t c d e
abbrev Hk(d:DskD)(l:List Int)(p v t:Int):Prop:=AC prog 214 [.st d.row,DO l,iv p,uv v,lv t] (.tup [.st (Ak d l p v t).1.row,H7 (Ak d l p v t).2])
theorem Ue(d:DskD)(l:List Int)(p v t:Int)(h6:¬p=6):Hk d l p v t:=by
 unfold Hk;by_cases h4:p=4
 ·subst h4;refine sZ func214 ntmps214 ?_;exact CB trivial trivial @Ak.eq_1
 by_cases h5:p=5
 ·subst h5;refine sZ func214 ntmps214 ?_;exact CB trivial trivial @Ak.eq_1
 refine sZ func214 ntmps214 ?_;exact CB trivial trivial (kX4 @h4 @h5 @h6 @Ak.eq_1)
theorem Uf(d:DskD)(l:List Int)(v t:Int)(n1:¬v=1)(n2:¬v=2):Hk d l 6 v t:=by
 unfold Hk;by_cases h0:v=0
 ·subst h0;by_cases hp:CL d=true
  ·have hE:Ak d l 6 0 t=({d with state:=0},[]):=by simp[Ak,hp]
   rw[hE];have hq:(d.state=2\/d.state=3):=by simpa[CL]using hp
   rcases hq with q|q
   ·refine sZ func214 ntmps214 ?_;exact CB trivial trivial @q
   refine sZ func214 ntmps214 ?_;exact CB trivial trivial @q
  have hE:Ak d l 6 0 t=(d,[]):=by simp[Ak,hp]
  rw[hE];have hq:¬d.state=2/\¬d.state=3:=by simpa[CL]using hp
  refine sZ func214 ntmps214 ?_;exact CB trivial trivial (kX2 @hq.1 @hq.2)
 have hE:Ak d l 6 v t=(d,[]):=by simp[Ak,n1,n2,h0]
 rw[hE];refine sZ func214 ntmps214 ?_;exact CB trivial trivial (kX3 @h0 @n1 @n2)
theorem Ug(d:DskD)(l:List Int)(v t:Int)(hf:W32 d.frame)(hv:v=1\/v=2):Hk d l 6 v t:=by
 unfold Hk;have hp:=Ad l;have hg:=DU l d.frame hf;have w1:IntKind.i64.wrap v=v:=by rcases hv with rfl|rfl<;>decide
 have w2:IntKind.i64.wrap d.frame=d.frame:=AA (by have:=hf.1;omega) (by have:=hf.2;omega);have hE0:Ak d l 6 v t=Am d l v t:=by rcases hv with rfl|rfl<;>simp[Ak]
 rw[hE0];by_cases hs:d.state=0
 ·by_cases hb:d.blocks<=d.block
  ·have hE:Am d l v t=({d with state:=3},[]):=by unfold Am;rw[if_neg (by simp[hs]),if_pos (.inl hb)]
   rw[hE];rcases hv with rfl|rfl
   ·refine sZ func214 ntmps214 ?_;exact CB (qX1 (hg)) trivial (kX2 @hs @hb)
   refine sZ func214 ntmps214 ?_;exact CB (qX1 (hg)) trivial (kX2 @hs @hb)
  by_cases hq:d.frame<pagesD l
  ·have hB:=Gy l d.frame hf.1 hq;rcases hv with rfl|rfl
   ·have hE:Am d l 1 t=({d with state:=1,cmd:=1,opBlock:=d.block,opFrame:=d.frame,opData:=[]},[⟨3,t,d.block,[]⟩]):=by
     unfold Am Ag;rw[if_neg (by simp[hs]),nG];simp
    rw[hE];have hR:=Lj {d with state:=1,cmd:=1,opBlock:=d.block,opFrame:=d.frame,opData:=[]} t;simp[Ag]at hR;refine sZ func214 ntmps214 ?_;exact CB (qX2 (hg) (hR)) trivial (kX4 @hs @hb @hq @O9)
   have hE:Am d l 2 t=({d with state:=1,cmd:=2,opBlock:=d.block,opFrame:=d.frame,opData:=Bh l d.frame},[⟨4,t,d.block,Bh l d.frame⟩]):=by
    unfold Am Ag;rw[if_neg (by simp[hs]),nG];simp
   rw[hE];have hR:=Lj {d with state:=1,cmd:=2,opBlock:=d.block,opFrame:=d.frame,opData:=Bh l d.frame} t;simp[Ag]at hR;refine sZ func214 ntmps214 ?_;exact CB (qX3 (hg) (hB) (hR)) trivial (kX5 @hs @hb @hq @w2 @O9)
  have hE:Am d l v t=({d with state:=3},[]):=by unfold Am;rw[if_neg (by simp[hs]),if_pos (.inr (by omega))]
  rw[hE];rcases hv with rfl|rfl
  ·refine sZ func214 ntmps214 ?_;exact CB (qX1 (hg)) trivial (kX3 @hs @hb @hq)
  refine sZ func214 ntmps214 ?_;exact CB (qX1 (hg)) trivial (kX3 @hs @hb @hq)
 have hE:Am d l v t=(d,[]):=by unfold Am;rw[if_pos hs]
 rw[hE];rcases hv with rfl|rfl
 ·refine sZ func214 ntmps214 ?_;exact CB trivial trivial @hs
 refine sZ func214 ntmps214 ?_;exact CB trivial trivial @hs
theorem Rm(d:DskD)(l:List Int)(p v t:Int)(hf:W32 d.frame):Hk d l p v t:=by
 by_cases h6:p=6
 ·subst h6;by_cases hv:v=1\/v=2
  ·exact Ug d l v t hf hv
  exact Uf d l v t (fun q=>hv (.inl q)) (fun q=>hv (.inr q))
 exact Ue d l p v t h6
theorem TW{l:List Int}(hl:OkW l)(f:Int)(s:Str):∀n,OkW (JE l f s n)
 | 0=>hl
 | n+1=>Q7 (TW hl f s n) _ _ ⟨by omega,by have:=(s.getD n 0).toNat_lt;omega⟩
theorem QR{nx:Nat}{ob:List (Nat×Option Ob)}(j:Nat)(l:List Int)(f:Int)(s:Str)(hl:OkW l)(h0:0<=f)(h1:f<pagesD l)(hs:s.length<=128)(hj:lookO ob j=some (EH l)):
  Bt prog 198 [.own j,iv f,.str s] nx ob fun r nx' ob'=>r=.tup []/\nx'=nx/\lookO ob' j=some (EH (JE l f s s.length))/\∀i,i≠j->lookO ob' i=lookO ob i:=by
 have hp:=Ad l;have hpl:=C4 (l:=l) (by omega);have w1:IntKind.i64.wrap (f*128)=f*128:=AA;refine sIY func198 ntmps198 @hj ?_;intros;apply wr;refine Aa (s.length+1) ?_;refine BM (fun k st=>∃(i:Nat)(T:List (Nat×V))(o:List (Nat×Option Ob)),i+k=s.length/\st=⟨28,T,nx,o,nx⟩/\(lkT T 6=.int .i64 i/\lkT T 0=.own j/\lkT T 1=iv f/\lkT T 2=.str s)/\lookO o j=some (EH (JE l f s i))/\∀q,q≠j->lookO o q=lookO ob q) ?_ _ _ ⟨0,_,_,by simp,rfl,by simp[lkT],hj,fun q hq=>rfl⟩;rintro k st ⟨i,T,o,hk,rfl,⟨t6,t0,t1,t2⟩,ho,hq⟩ Kl hKl;refine Bq [(6,.int .i64 i),(0,.own j),(1,iv f),(2,.str s)] (by simp[t6,t0,t1,t2]) ?_;simp;have hl2:=Me l f s i;refine au ?_;intros;apply wr;by_cases hi:i<s.length
 ·have c1:(i:Int)<s.length:=by omega
  have c2:(i:Int)<128:=by omega
  obtain⟨x,hg⟩:∃x,s[i]? =some x:=⟨_,gR hi⟩;have hgd:s.getD i 0=x:=by rw[gP,hg];rfl
  have hb:=x.toNat_lt;have w2:IntKind.i64.wrap (f*128+i)=f*128+i:=AA;have w3:IntKind.u32.wrap (f*128+i)=f*128+i:=u32_in;have w4:IntKind.u32.wrap (x.toNat:Int)=x.toNat:=u32_in;have w5:IntKind.i64.wrap ((i:Int)+1)=((i+1:Nat):Int):=by rw[AA];omega
  refine DI (kX2 @hi @c2) (kX5 @hg @w1 @w2 @w3 @w4) ?_;intros;apply wr;refine cO ?_;refine(QW j (JE l f s i) (f*128+i) x.toNat ⟨by omega,by omega⟩ (TW hl f s i) ho (by rw[hl2];omega)).mono fun r nx' ob' hp=>?_;simp only[BX];obtain⟨rfl,rfl,rfl⟩:=hp;simp;refine au1 @w5 ?_;intros;apply wr;refine hKl (k-1) _ (by omega) ⟨i+1,_,_,by omega,rfl,by simp[lkT],by simp[lookO,JE,hg],fun q h=>by simp[lookO,h,hq q h]⟩
 have:i=s.length:=by omega
 subst this;refine EG @ho ?_;intros;apply wr;exact hq
theorem Mf{l:List Int}(hl:OkW l){f:Int}(h0:0<=f)(h1:f<pagesD l)(s:Str)(hs:s.length<=128):JE l f s s.length=Br l f (s++(Bh l f).drop s.length):=by
 have hpl:=C4 (l:=l) (by omega);rw[P5 hl h0 h1 (by omega) s s.length (by omega) hs,List.take_length];rfl
theorem Ri{nx:Nat}{ob:List (Nat×Option Ob)}(j:Nat)(n:NicD)(l:List Int)(s:Str)(hf:W32 n.buffer)(hl:OkW l)(hs:s.length<=100000)(hj:lookO ob j=some (EH l))(hjn:j<nx):
  Bt prog 153 [.st n.row,.own j,.str s] nx ob fun r nx' ob'=>r=.tup [.st (Ah n l s).1.row,.bool (Ah n l s).2.2]/\CZ nx ob j (Ah n l s).2.1 nx' ob':=by
 have l1:¬j=nx:=by omega
 have l2:¬j=nx+1:=by omega
 have hg:=DU l n.buffer hf;have hp:=Ad l;by_cases hc:n.posted=true/\1<=s.length/\s.length<=128/\n.buffer<pagesD l
 ·obtain⟨c1,c2,c3,c4⟩:=hc;have hE:Ah n l s=({n with posted:=false,buffer:=0,received:=true,got:=s.length},Br l n.buffer (s++(Bh l n.buffer).drop s.length),true):=by unfold Ah;rw[if_pos ⟨c1,c2,c3,c4⟩]
  have c5:¬pagesD l<=n.buffer:=by omega
  have g1:¬(s.length:Int)<1:=by omega
  have g2:¬(128:Int)<s.length:=by omega
  have w1:IntKind.i64.wrap n.buffer=n.buffer:=AA (by have:=hf.1;omega) (by have:=hf.2;omega);have w2:IntKind.u32.wrap (s.length:Int)=s.length:=u32_in;have hF:=Mf hl hf.1 c4 s c3;rw[hE];refine sIY func153 ntmps153 (kX6 @hj @l1 @l2 @c1 @g1 @g2) ?_;refine cn1 (hg) (kX3 @hj @l1 @l2) ?_;refine au ?_;refine EP @c5 (kX4 @hj @l1 @l2 @w1) ?_;intros;apply wr;refine cO ?_;refine(QR j l n.buffer s hl hf.1 c4 c3 (by simp[lookO,l1,l2,hj])).mono fun r nx' ob' hp=>?_;simp only[BX];obtain⟨rfl,rfl,k1,k2⟩:=hp;have y1:=k2 nx (fun q=>l1 q.symm);have y2:=k2 (nx+1) (fun q=>l2 q.symm);simp[lookO]at y1 y2;simp;refine au1 (kX3 @y1 @y2 @w2) ?_;intros;apply wr;refine ar ?_;simp;refine⟨by omega,by simp[lookO,l1,l2,k1,hF],fun i h1 h2=>?_⟩;have a1:¬i=nx:=by omega
  have a2:¬i=nx+1:=by omega
  have ee:=k2 i h2;simp[lookO,a1,a2]at ee;simp[lookO,a1,a2,ee]
 have hE:Ah n l s=(n,l,false):=by unfold Ah;rw[if_neg hc]
 rw[hE];cases q1:n.posted with
 | false =>
  refine sIY func153 ntmps153 (kX4 @hj @l1 @l2 @q1) ?_;refine IZ @q1 ?_;intros;apply wr;refine ar ?_;simp[q1];refine⟨by omega,by simp[lookO,l1,l2,hj],fun i h1 h2=>?_⟩;have a1:¬i=nx:=by omega
  have a2:¬i=nx+1:=by omega
  simp[lookO,a1,a2]
 | true =>
  by_cases q2:(s.length:Int)<1
  ·refine sIY func153 ntmps153 (kX5 @hj @l1 @l2 @q1 @q2) ?_;refine IZ @q1 ?_;intros;apply wr;refine ar ?_;simp[q1];refine⟨by omega,by simp[lookO,l1,l2,hj],fun i h1 h2=>?_⟩;have a1:¬i=nx:=by omega
   have a2:¬i=nx+1:=by omega
   simp[lookO,a1,a2]
  by_cases q3:(128:Int)<s.length
  ·refine sIY func153 ntmps153 (kX6 @hj @l1 @l2 @q1 @q2 @q3) ?_;refine IZ @q1 ?_;intros;apply wr;refine ar ?_;simp[q1];refine⟨by omega,by simp[lookO,l1,l2,hj],fun i h1 h2=>?_⟩;have a1:¬i=nx:=by omega
   have a2:¬i=nx+1:=by omega
   simp[lookO,a1,a2]
  have q4:pagesD l<=n.buffer:=by
   by_cases z:n.buffer<pagesD l
   ·exact absurd ⟨q1,by omega,by omega,z⟩ hc
   omega
  have q5:¬n.buffer<pagesD l:=by omega
  refine sIY func153 ntmps153 (kX6 @hj @l1 @l2 @q1 @q2 @q3) ?_;refine cn1 (hg) (kX3 @hj @l1 @l2) ?_;refine au ?_;refine DI (kX2 @q4 @q5) @q1 ?_;intros;apply wr;refine ar ?_;simp[q1];refine⟨by omega,by simp[lookO,l1,l2,hj],fun i h1 h2=>?_⟩;have a1:¬i=nx:=by omega
  have a2:¬i=nx+1:=by omega
  simp[lookO,a1,a2]
end Go.Proofs.YtjkmhmepljamoaaGreat
end
