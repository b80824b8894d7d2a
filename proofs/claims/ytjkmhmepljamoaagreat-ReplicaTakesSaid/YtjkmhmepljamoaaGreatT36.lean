/- A part of the proof of ReplicaTakes. -/
import Derived.Test.YtjkmhmepljamoaaGreatT07
import Derived.Test.YtjkmhmepljamoaaGreatT23
import Derived.Test.YtjkmhmepljamoaaGreatT27
import Derived.Test.YtjkmhmepljamoaaGreatT29
set_option linter.all false
set_option maxHeartbeats 16000000
set_option maxRecDepth 100000
section
namespace Go.Proofs.YtjkmhmepljamoaaGreat
open Go.Ab Go.RowKit Tryz
theorem BP(b:Bool):AC prog 266 [.bool b] (uv (b2w b)):=by
 refine sZ func266 ntmps266 ?_;exact wx1 trivial trivial @b2w.eq_1
theorem NC(a:Int):AC prog 267 [iv a] (.bool (decide (1<=a)&&decide (a<=3))):=by
 refine sZ func267 ntmps267 ?_;exact wx trivial trivial
theorem Mv(a:Int):AC prog 269 [iv a] (iv (if a=1 then 4 else if a=3 then 6 else 5)):=by
 refine sZ func269 ntmps269 ?_;exact wx trivial trivial
theorem iand5{x:Int}(h:0<=x/\x<=31):decide (Bc .u32 x 5=4)=(decide (x%2=0)&&decide (x/4%2=1)):=by
 have e:∀k:Fin 32,decide (Bc .u32 (k.val:Int) 5=4)=(decide ((k.val:Int)%2=0)&&decide ((k.val:Int)/4%2=1)):=by decide
 have:=e ⟨x.toNat,by omega⟩;rwa[show((⟨x.toNat,by omega⟩:Fin 32).val:Int)=x by simp;omega]at this
theorem Ud(c:CpuD)(h:OkC c):AC prog 268 [.st c.row] (.bool (FQ c)):=by
 have e:=iand5 ⟨(h.csr 0).1,h.s⟩;refine sZ func268 ntmps268 ?_;exact wx1 trivial trivial (kX2 @e @FQ.eq_1)
theorem Uh(op a b:Int):AC prog 274 [iv op,uv a,uv b] (.bool (Gq op a b)):=by
 refine sZ func274 ntmps274 ?_;exact wx1 trivial trivial @Gq.eq_1
theorem Xh(op:Int):AC prog 203 [iv op] (.bool (OT op)):=by
 refine sZ func203 ntmps203 ?_;exact wx1 trivial trivial @OT.eq_1
def CV(op:Int):Int:=if op=16 then 1 else if op=17 then 3 else if op=18 then 4 else if op=19 then 5 else if op=20 then 6 else if op=21 then 7 else if op=22 then 8 else if op=23 then 12 else op
theorem Av(op:Int):AC prog 276 [iv op] (iv (CV op)):=by
 refine sZ func276 ntmps276 ?_;exact wx1 trivial trivial @CV.eq_1
theorem Cz(c:CpuD)(r v:Int)(h0:0<=r)(h1:r<=15):AC prog 160 [.st c.row,iv r,uv v] (.st (c.setR r v).row):=by
 have e:=U0 c v h0 h1;by_cases hr:r=0
 ·subst hr;refine sZ func160 ntmps160 ?_;exact wx1 trivial trivial @CpuD.setR.eq_1
 refine sZ func160 ntmps160 ?_;exact wx1 trivial trivial (kX3 @e @CpuD.setR.eq_1 @hr)
theorem Uo(c:CpuD)(k v:Int)(h0:0<=k)(h1:k<=7):AC prog 273 [.st c.row,iv k,uv v] (.st (Bs c k v).row):=by
 have hk:k=0\/k=1\/k=2\/k=3\/k=4\/k=5\/k=6\/k=7:=by omega
 rcases hk with rfl|rfl|rfl|rfl|rfl|rfl|rfl|rfl
 ·refine sZ func273 ntmps273 ?_;exact wx1 trivial trivial (kX2 @Bs.eq_1 @CpuD.setS.eq_1)
 ·refine sZ func273 ntmps273 ?_;exact wx1 trivial trivial (kX2 @Bs.eq_1 @CpuD.setS.eq_1)
 ·refine sZ func273 ntmps273 ?_;exact wx1 trivial trivial (kX2 @Bs.eq_1 @CpuD.setS.eq_1)
 ·refine sZ func273 ntmps273 ?_;exact wx1 trivial trivial (kX2 @Bs.eq_1 @CpuD.setS.eq_1)
 ·refine sZ func273 ntmps273 ?_;exact wx1 trivial trivial (kX2 @Bs.eq_1 @CpuD.setS.eq_1)
 ·refine sZ func273 ntmps273 ?_;exact wx1 trivial trivial (kX2 @Bs.eq_1 @CpuD.setS.eq_1)
 ·refine sZ func273 ntmps273 ?_;exact wx1 trivial trivial (kX2 @Bs.eq_1 @CpuD.setS.eq_1)
 refine sZ func273 ntmps273 ?_;exact wx1 trivial trivial (kX2 @Bs.eq_1 @CpuD.setS.eq_1)
theorem cQ{s:Int}(h0:0<=s)(h1:s<=31):ior .u32 (D8 .u32 (ior .u32 (ior .u32 (D8 .u32 s 24) (IntKind.u32.wrap (8*b2w (!decide (Bc .u32 s 1=0))))) (IntKind.u32.wrap (16*b2w (!decide (Bc .u32 s 2=0))))) 2) 1=NL s:=by
 have e:∀k:Fin 32,ior .u32 (D8 .u32 (ior .u32 (ior .u32 (D8 .u32 (k.val:Int) 24) (IntKind.u32.wrap (8*b2w (!decide (Bc .u32 (k.val:Int) 1=0))))) (IntKind.u32.wrap (16*b2w (!decide (Bc .u32 (k.val:Int) 2=0))))) 2) 1=NL (k.val:Int):=by decide
 have:=e ⟨s.toNat,by omega⟩;rwa[show((⟨s.toNat,by omega⟩:Fin 32).val:Int)=s by simp;omega]at this
theorem rret_s{s:Int}(h0:0<=s)(h1:s<=31):ior .u32 (ior .u32 (D8 .u32 s 3) (IntKind.u32.wrap (1*b2w (!decide (Bc .u32 s 8=0))))) (IntKind.u32.wrap (2*b2w (!decide (Bc .u32 s 16=0))))=ZC s:=by
 have e:∀k:Fin 32,ior .u32 (ior .u32 (D8 .u32 (k.val:Int) 3) (IntKind.u32.wrap (1*b2w (!decide (Bc .u32 (k.val:Int) 8=0))))) (IntKind.u32.wrap (2*b2w (!decide (Bc .u32 (k.val:Int) 16=0))))=ZC (k.val:Int):=by decide
 have:=e ⟨s.toNat,by omega⟩;rwa[show((⟨s.toNat,by omega⟩:Fin 32).val:Int)=s by simp;omega]at this
theorem CL(c:CpuD)(cause bad:Int)(h:OkC c):AC prog 200 [.st c.row,iv cause,uv bad] (.st (BN c cause bad).row):=by
 have e:=cQ (h.csr 0).1 h.s;refine sZ func200 ntmps200 ?_;exact wx1 (qX2 (BP (!decide (Bc .u32 (c.csr 0) 1=0))) (BP (!decide (Bc .u32 (c.csr 0) 2=0)))) trivial (kX2 @e @BN.eq_1)
theorem RX(c:CpuD)(h:OkC c):AC prog 272 [.st c.row] (.st (O0 c).row):=by
 have e:=rret_s (h.csr 0).1 h.s;refine sZ func272 ntmps272 ?_;exact wx1 (qX2 (BP (!decide (Bc .u32 (c.csr 0) 8=0))) (BP (!decide (Bc .u32 (c.csr 0) 16=0)))) trivial (kX2 @e @O0.eq_1)
theorem Bn(a b:Int)(ha:W32 a)(hb:W32 b):AC prog 277 [uv a,uv b] (.tup [uv (J7 a b),uv (J8 a b)]):=by
 obtain⟨ha0,ha1⟩:=ha;obtain⟨hb0,hb1⟩:=hb;by_cases h1:b=0
 ·subst h1;refine sZ func277 ntmps277 ?_
  (refine af1 (kX2 @J7.eq_1 @J8.eq_1) ?_;intros;apply wr)
  repeat' ((first|(refine AB rfl (fun h=>?_) (fun h=>?_)<;>(first|(simp[J7,J8]at h;done)|(simp[J7,J8]at h)|skip)<;>(first|(exfalso;omega)|skip))|(refine AG 10 [0,0,3,7,0,0,48,112,15,511] [(9,([[],[],[0,1],[0,1,2],[],[],[4,5],[4,5,6],[0,1,2,3]],[])),(1,([],[]))] ?_)|exact rt1 (kX2 @J7.eq_1 @J8.eq_1)|fail)<;>(refine af1 (kX2 @J7.eq_1 @J8.eq_1) ?_;intros;apply wr))
 have hn:¬sw b=0:=by unfold sw;rw[IntKind.wrap_i32];omega
 have i1:∀x,IntKind.i64.wrap (sw x)=sw x:=fun x=>by unfold sw;simp only[IntKind.wrap_i32];exact AA (by omega) (by omega)
 have q0:sw b≠0->-2147483648<=(sw a).tdiv (sw b)/\(sw a).tdiv (sw b)<=2147483648:=by
  intro hne;have ra:-2147483648<=sw a/\sw a<=2147483647:=by unfold sw;rw[IntKind.wrap_i32];omega
  have:((sw a).tdiv (sw b)).natAbs=(sw a).natAbs/(sw b).natAbs:=Int.natAbs_tdiv (sw a) (sw b);have h2:(sw a).natAbs/(sw b).natAbs<=(sw a).natAbs:=Nat.div_le_self _ _;obtain⟨q,hq⟩:∃q:Nat,q=(sw a).natAbs/(sw b).natAbs:=⟨_,rfl⟩;rw[<- hq]at this h2;omega
 have e1:IntKind.u32.wrap (IntKind.i64.wrap ((sw a).tdiv (sw b)))=J7 a b:=by
  unfold J7 uw;rw[if_neg h1,AA (by have:=q0 hn;omega) (by have:=q0 hn;omega)]
 have e2:IntKind.u32.wrap ((sw a).tmod (sw b))=J8 a b:=by
  unfold J8;rw[if_neg h1]
 refine sZ func277 ntmps277 ?_
 (refine af1 (kX5 @e1 @e2 @h1 @hn @i1) ?_;intros;apply wr)
 repeat' ((first|(refine AB rfl (fun h=>?_) (fun h=>?_)<;>(first|(simp[e1,e2,h1,hn,i1]at h;done)|(simp[e1,e2,h1,hn,i1]at h)|skip)<;>(first|(exfalso;omega)|skip))|(refine AG 10 [0,0,3,7,0,0,48,112,15,511] [(9,([[],[],[0,1],[0,1,2],[],[],[4,5],[4,5,6],[0,1,2,3]],[])),(1,([],[]))] ?_)|exact rt1 (kX5 @e1 @e2 @h1 @hn @i1)|fail)<;>(refine af1 (kX5 @e1 @e2 @h1 @hn @i1) ?_;intros;apply wr))
@[simp] theorem shl8:IntKind.u32.wrap (4294967295*2^(min (8:Int).toNat 32))=4294967040:=by decide
theorem shl8':IntKind.u32.wrap 1099511627520=4294967040:=by decide
theorem X4(x:Int)(h0:0<=x)(h1:x<256):AC prog 275 [uv x,iv 8] (uv (Ft x)):=by
 have e1:Bc .u32 x 255=x:=by rw[C7];omega
 have e2:x.fdiv 128=x/128:=eS _ (by decide);have e3:x<128->Ft x=x:=fun h=>if_pos h;have e4:¬x<128->ior .u32 x 4294967040=Ft x:=by
  intro h;have e:∀k:Fin 256,ior .u32 (k.val:Int) 4294967040=(k.val:Int)+4294967040:=by decide
  have:=e ⟨x.toNat,by omega⟩;rw[show((⟨x.toNat,by omega⟩:Fin 256).val:Int)=x by simp;omega]at this;rw[this,Ft,if_neg h]
 by_cases hx:x<128
 ·have e5:¬x/128=1:=by omega
  refine sZ func275 ntmps275 ?_;exact wx1 trivial trivial (kX7 @e1 @e2 @e5 (e3 hx) @Hl @HJ @D4)
 have e5:x/128=1:=by omega
 refine sZ func275 ntmps275 ?_;exact wx1 trivial trivial (kX8 @e1 @e2 @e5 @shl8' (e4 hx) @Hl @HJ @D4)
theorem R7(l:List Int)(a s:Int)(hs:s=1\/s=4)(ha:W32 a):AC prog 201 [DJ l,uv a,iv s] (.bool (AS l a s)):=by
 have hp:=Aa l;have e1:IntKind.i64.wrap (128*pagesD l)=128*pagesD l:=AA (by omega) (by omega);have e2:IntKind.u32.wrap (128*pagesD l)=128*pagesD l:=u32_in (by omega) (by omega);have e5:=LZ ha.1;rcases hs with rfl|rfl
 ·have e6:AS l a 1=decide (a<128*pagesD l):=by
   have:(a+1<=pagesD l*128)=(a<128*pagesD l):=by apply propext;omega
   unfold AS;simp[this]
  refine sZ func201 ntmps201 ?_;exact wx1 (qX1 (Dw l)) trivial (kX6 @e1 @e2 @e5 @e6 @D4 @Hl)
 have e6:AS l a 4=(decide (a%4=0)&&decide (a<128*pagesD l)):=by
  unfold AS;by_cases h4:a%4=0
  ·have:(a+4<=pagesD l*128)=(a<128*pagesD l):=by apply propext;omega
   simp[h4,this]
  simp[h4]
 refine sX func201 ntmps201 ?_;refine EE (kX6 @e1 @e2 @e5 @e6 @D4 @Hl) ?_;intros;apply wr;first|refine BW (Dw l) rfl (fun hgd=>?_) (by simp[BV]) ?_|refine BC (Dw l) rfl (by simp) (fun hgd=>?_) (by simp[BV]) ?_
 all_goals simp
 all_goals (try (first|exact hgd|(simp at hgd;first|done|assumption|grind)))
 refine au1 (kX6 @e1 @e2 @e5 @e6 @D4 @Hl) ?_;intros;apply wr;refine ar ?_;simp[e1,e2,e5,e6];rfl
theorem Xd(l:List Int)(a s:Int)(hs:s=1\/s=4)(ha:W32 a):AC prog 156 [DJ l,uv a,iv s] (.tup [uv (if AS l a s=true then By l a s else 0),.bool (AS l a s)]):=by
 have hW:=R7 l a s hs ha;cases hw:AS l a s with
 | false =>
  rw[hw]at hW;refine sZ func156 ntmps156 ?_;exact wx (qX1 (hW)) trivial
 | true =>
  rw[hw]at hW;have hi:=Bf hw ha.1;have e1:=NJ ha;obtain⟨w,hw'⟩:∃w,w=wAt l (a/4):=⟨_,rfl⟩;have e2:=Bh (k:=.u32) (FV hi);rw[<- hw']at e2;have hw2:=hw'.symm;have e3:=AM .u32 l;have e4:=LZ ha.1;have e5:IntKind.u32.wrap (8*(a%4))=8*(a%4):=u32_in (by omega) (by omega);have e6:w.fdiv (2^min (8*(a%4)).toNat 32)=w/2^(8*(a%4)).toNat:=by
   rw[eY (by omega),eS _ (fM (fQ (by decide)))]
  have e7:(0:Int)<=a/4:=by have:=ha.1;omega
  have e8:a/4<(l.length:Int):=by omega
  have e9:w/2^(8*(a%4)).toNat%256=byteAt w (a%4):=rfl;rcases hs with rfl|rfl
  ·refine sZ func156 ntmps156 ?_;exact wx1 (qX1 (hW)) trivial (Qs @e1 @e2 @e3 @e4 @e5 @e6 @e9 @C7 @By.eq_1 @hw2)
  refine sZ func156 ntmps156 ?_;exact wx1 (qX1 (hW)) trivial (kX6 @e1 @e2 @e3 @e4 @By.eq_1 @hw2)
theorem XM(a b:Int)(ha:W32 a)(hb:W32 b):AC prog 207 [iv 1,uv a,uv b] (.tup [uv (uw (a+b)),.bool true]):=by
 have e0:Bc .u32 b 31=b%32:=AW b 5 32 (by omega) (by decide);have e1:a.fdiv (2^min (b%32).toNat 32)=a/2^(b%32).toNat:=by
  rw[eY (by omega),eS _ (fM (fQ (by decide)))]
 have e2:(sw a).fdiv (2^min (b%32).toNat 32)=sw a/2^(b%32).toNat:=by
  rw[eY (by omega),eS _ (fM (fQ (by decide)))]
 have e3:min (b%32).toNat 32=(b%32).toNat:=eY (by omega);have hpl:AC prog 276 [iv 1] (iv 1):=by have:=Av 1;simpa[CV]using this
 refine sZ func207 ntmps207 ?_;exact wx1 (qX3 (hpl) (Bn a b ha hb) (BP (true))) trivial (kX2 @e0 @e0)
theorem UL(a b:Int)(ha:W32 a)(hb:W32 b):AC prog 207 [iv 16,uv a,uv b] (.tup [uv (uw (a+b)),.bool true]):=by
 have e0:Bc .u32 b 31=b%32:=AW b 5 32 (by omega) (by decide);have e1:a.fdiv (2^min (b%32).toNat 32)=a/2^(b%32).toNat:=by
  rw[eY (by omega),eS _ (fM (fQ (by decide)))]
 have e2:(sw a).fdiv (2^min (b%32).toNat 32)=sw a/2^(b%32).toNat:=by
  rw[eY (by omega),eS _ (fM (fQ (by decide)))]
 have e3:min (b%32).toNat 32=(b%32).toNat:=eY (by omega);have hpl:AC prog 276 [iv 16] (iv 1):=by have:=Av 16;simpa[CV]using this
 refine sZ func207 ntmps207 ?_;exact wx1 (qX3 (hpl) (Bn a b ha hb) (BP (true))) trivial (kX2 @e0 @e0)
theorem XN(a b:Int)(ha:W32 a)(hb:W32 b):AC prog 207 [iv 2,uv a,uv b] (.tup [uv (uw (a-b)),.bool true]):=by
 have e0:Bc .u32 b 31=b%32:=AW b 5 32 (by omega) (by decide);have e1:a.fdiv (2^min (b%32).toNat 32)=a/2^(b%32).toNat:=by
  rw[eY (by omega),eS _ (fM (fQ (by decide)))]
 have e2:(sw a).fdiv (2^min (b%32).toNat 32)=sw a/2^(b%32).toNat:=by
  rw[eY (by omega),eS _ (fM (fQ (by decide)))]
 have e3:min (b%32).toNat 32=(b%32).toNat:=eY (by omega);have hpl:AC prog 276 [iv 2] (iv 2):=by have:=Av 2;simpa[CV]using this
 refine sZ func207 ntmps207 ?_;exact wx1 (qX3 (hpl) (Bn a b ha hb) (BP (true))) trivial (kX2 @e0 @e0)
theorem XO(a b:Int)(ha:W32 a)(hb:W32 b):AC prog 207 [iv 3,uv a,uv b] (.tup [uv (Bc .u32 a b),.bool true]):=by
 have e0:Bc .u32 b 31=b%32:=AW b 5 32 (by omega) (by decide);have e1:a.fdiv (2^min (b%32).toNat 32)=a/2^(b%32).toNat:=by
  rw[eY (by omega),eS _ (fM (fQ (by decide)))]
 have e2:(sw a).fdiv (2^min (b%32).toNat 32)=sw a/2^(b%32).toNat:=by
  rw[eY (by omega),eS _ (fM (fQ (by decide)))]
 have e3:min (b%32).toNat 32=(b%32).toNat:=eY (by omega);have hpl:AC prog 276 [iv 3] (iv 3):=by have:=Av 3;simpa[CV]using this
 refine sZ func207 ntmps207 ?_;exact wx1 (qX3 (hpl) (Bn a b ha hb) (BP (true))) trivial (kX2 @e0 @e0)
theorem UM(a b:Int)(ha:W32 a)(hb:W32 b):AC prog 207 [iv 17,uv a,uv b] (.tup [uv (Bc .u32 a b),.bool true]):=by
 have e0:Bc .u32 b 31=b%32:=AW b 5 32 (by omega) (by decide);have e1:a.fdiv (2^min (b%32).toNat 32)=a/2^(b%32).toNat:=by
  rw[eY (by omega),eS _ (fM (fQ (by decide)))]
 have e2:(sw a).fdiv (2^min (b%32).toNat 32)=sw a/2^(b%32).toNat:=by
  rw[eY (by omega),eS _ (fM (fQ (by decide)))]
 have e3:min (b%32).toNat 32=(b%32).toNat:=eY (by omega);have hpl:AC prog 276 [iv 17] (iv 3):=by have:=Av 17;simpa[CV]using this
 refine sZ func207 ntmps207 ?_;exact wx1 (qX3 (hpl) (Bn a b ha hb) (BP (true))) trivial (kX2 @e0 @e0)
theorem XP(a b:Int)(ha:W32 a)(hb:W32 b):AC prog 207 [iv 4,uv a,uv b] (.tup [uv (ior .u32 a b),.bool true]):=by
 have e0:Bc .u32 b 31=b%32:=AW b 5 32 (by omega) (by decide);have e1:a.fdiv (2^min (b%32).toNat 32)=a/2^(b%32).toNat:=by
  rw[eY (by omega),eS _ (fM (fQ (by decide)))]
 have e2:(sw a).fdiv (2^min (b%32).toNat 32)=sw a/2^(b%32).toNat:=by
  rw[eY (by omega),eS _ (fM (fQ (by decide)))]
 have e3:min (b%32).toNat 32=(b%32).toNat:=eY (by omega);have hpl:AC prog 276 [iv 4] (iv 4):=by have:=Av 4;simpa[CV]using this
 refine sZ func207 ntmps207 ?_;exact wx1 (qX3 (hpl) (Bn a b ha hb) (BP (true))) trivial (kX2 @e0 @e0)
theorem UN(a b:Int)(ha:W32 a)(hb:W32 b):AC prog 207 [iv 18,uv a,uv b] (.tup [uv (ior .u32 a b),.bool true]):=by
 have e0:Bc .u32 b 31=b%32:=AW b 5 32 (by omega) (by decide);have e1:a.fdiv (2^min (b%32).toNat 32)=a/2^(b%32).toNat:=by
  rw[eY (by omega),eS _ (fM (fQ (by decide)))]
 have e2:(sw a).fdiv (2^min (b%32).toNat 32)=sw a/2^(b%32).toNat:=by
  rw[eY (by omega),eS _ (fM (fQ (by decide)))]
 have e3:min (b%32).toNat 32=(b%32).toNat:=eY (by omega);have hpl:AC prog 276 [iv 18] (iv 4):=by have:=Av 18;simpa[CV]using this
 refine sZ func207 ntmps207 ?_;exact wx1 (qX3 (hpl) (Bn a b ha hb) (BP (true))) trivial (kX2 @e0 @e0)
theorem XQ(a b:Int)(ha:W32 a)(hb:W32 b):AC prog 207 [iv 5,uv a,uv b] (.tup [uv (V0 .u32 a b),.bool true]):=by
 have e0:Bc .u32 b 31=b%32:=AW b 5 32 (by omega) (by decide);have e1:a.fdiv (2^min (b%32).toNat 32)=a/2^(b%32).toNat:=by
  rw[eY (by omega),eS _ (fM (fQ (by decide)))]
 have e2:(sw a).fdiv (2^min (b%32).toNat 32)=sw a/2^(b%32).toNat:=by
  rw[eY (by omega),eS _ (fM (fQ (by decide)))]
 have e3:min (b%32).toNat 32=(b%32).toNat:=eY (by omega);have hpl:AC prog 276 [iv 5] (iv 5):=by have:=Av 5;simpa[CV]using this
 refine sZ func207 ntmps207 ?_;exact wx1 (qX3 (hpl) (Bn a b ha hb) (BP (true))) trivial (kX2 @e0 @e0)
theorem UO(a b:Int)(ha:W32 a)(hb:W32 b):AC prog 207 [iv 19,uv a,uv b] (.tup [uv (V0 .u32 a b),.bool true]):=by
 have e0:Bc .u32 b 31=b%32:=AW b 5 32 (by omega) (by decide);have e1:a.fdiv (2^min (b%32).toNat 32)=a/2^(b%32).toNat:=by
  rw[eY (by omega),eS _ (fM (fQ (by decide)))]
 have e2:(sw a).fdiv (2^min (b%32).toNat 32)=sw a/2^(b%32).toNat:=by
  rw[eY (by omega),eS _ (fM (fQ (by decide)))]
 have e3:min (b%32).toNat 32=(b%32).toNat:=eY (by omega);have hpl:AC prog 276 [iv 19] (iv 5):=by have:=Av 19;simpa[CV]using this
 refine sZ func207 ntmps207 ?_;exact wx1 (qX3 (hpl) (Bn a b ha hb) (BP (true))) trivial (kX2 @e0 @e0)
theorem XR(a b:Int)(ha:W32 a)(hb:W32 b):AC prog 207 [iv 6,uv a,uv b] (.tup [uv (uw (a*2^(b%32).toNat)),.bool true]):=by
 have e0:Bc .u32 b 31=b%32:=AW b 5 32 (by omega) (by decide);have e1:a.fdiv (2^min (b%32).toNat 32)=a/2^(b%32).toNat:=by
  rw[eY (by omega),eS _ (fM (fQ (by decide)))]
 have e2:(sw a).fdiv (2^min (b%32).toNat 32)=sw a/2^(b%32).toNat:=by
  rw[eY (by omega),eS _ (fM (fQ (by decide)))]
 have e3:min (b%32).toNat 32=(b%32).toNat:=eY (by omega);have hpl:AC prog 276 [iv 6] (iv 6):=by have:=Av 6;simpa[CV]using this
 refine sZ func207 ntmps207 ?_;exact wx1 (qX3 (hpl) (Bn a b ha hb) (BP (true))) trivial (kX3 @e0 @e0 @e3)
theorem UP(a b:Int)(ha:W32 a)(hb:W32 b):AC prog 207 [iv 20,uv a,uv b] (.tup [uv (uw (a*2^(b%32).toNat)),.bool true]):=by
 have e0:Bc .u32 b 31=b%32:=AW b 5 32 (by omega) (by decide);have e1:a.fdiv (2^min (b%32).toNat 32)=a/2^(b%32).toNat:=by
  rw[eY (by omega),eS _ (fM (fQ (by decide)))]
 have e2:(sw a).fdiv (2^min (b%32).toNat 32)=sw a/2^(b%32).toNat:=by
  rw[eY (by omega),eS _ (fM (fQ (by decide)))]
 have e3:min (b%32).toNat 32=(b%32).toNat:=eY (by omega);have hpl:AC prog 276 [iv 20] (iv 6):=by have:=Av 20;simpa[CV]using this
 refine sZ func207 ntmps207 ?_;exact wx1 (qX3 (hpl) (Bn a b ha hb) (BP (true))) trivial (kX3 @e0 @e0 @e3)
theorem XS(a b:Int)(ha:W32 a)(hb:W32 b):AC prog 207 [iv 7,uv a,uv b] (.tup [uv (a/2^(b%32).toNat),.bool true]):=by
 have e0:Bc .u32 b 31=b%32:=AW b 5 32 (by omega) (by decide);have e1:a.fdiv (2^min (b%32).toNat 32)=a/2^(b%32).toNat:=by
  rw[eY (by omega),eS _ (fM (fQ (by decide)))]
 have e2:(sw a).fdiv (2^min (b%32).toNat 32)=sw a/2^(b%32).toNat:=by
  rw[eY (by omega),eS _ (fM (fQ (by decide)))]
 have e3:min (b%32).toNat 32=(b%32).toNat:=eY (by omega);have hpl:AC prog 276 [iv 7] (iv 7):=by have:=Av 7;simpa[CV]using this
 refine sZ func207 ntmps207 ?_;exact wx1 (qX3 (hpl) (Bn a b ha hb) (BP (true))) trivial (kX3 @e0 @e0 @e1)
theorem UQ(a b:Int)(ha:W32 a)(hb:W32 b):AC prog 207 [iv 21,uv a,uv b] (.tup [uv (a/2^(b%32).toNat),.bool true]):=by
 have e0:Bc .u32 b 31=b%32:=AW b 5 32 (by omega) (by decide);have e1:a.fdiv (2^min (b%32).toNat 32)=a/2^(b%32).toNat:=by
  rw[eY (by omega),eS _ (fM (fQ (by decide)))]
 have e2:(sw a).fdiv (2^min (b%32).toNat 32)=sw a/2^(b%32).toNat:=by
  rw[eY (by omega),eS _ (fM (fQ (by decide)))]
 have e3:min (b%32).toNat 32=(b%32).toNat:=eY (by omega);have hpl:AC prog 276 [iv 21] (iv 7):=by have:=Av 21;simpa[CV]using this
 refine sZ func207 ntmps207 ?_;exact wx1 (qX3 (hpl) (Bn a b ha hb) (BP (true))) trivial (kX3 @e0 @e0 @e1)
theorem XT(a b:Int)(ha:W32 a)(hb:W32 b):AC prog 207 [iv 8,uv a,uv b] (.tup [uv (uw (sw a/2^(b%32).toNat)),.bool true]):=by
 have e0:Bc .u32 b 31=b%32:=AW b 5 32 (by omega) (by decide);have e1:a.fdiv (2^min (b%32).toNat 32)=a/2^(b%32).toNat:=by
  rw[eY (by omega),eS _ (fM (fQ (by decide)))]
 have e2:(sw a).fdiv (2^min (b%32).toNat 32)=sw a/2^(b%32).toNat:=by
  rw[eY (by omega),eS _ (fM (fQ (by decide)))]
 have e3:min (b%32).toNat 32=(b%32).toNat:=eY (by omega);have hpl:AC prog 276 [iv 8] (iv 8):=by have:=Av 8;simpa[CV]using this
 refine sZ func207 ntmps207 ?_;exact wx1 (qX3 (hpl) (Bn a b ha hb) (BP (true))) trivial (kX3 @e0 @e0 @e2)
theorem UR(a b:Int)(ha:W32 a)(hb:W32 b):AC prog 207 [iv 22,uv a,uv b] (.tup [uv (uw (sw a/2^(b%32).toNat)),.bool true]):=by
 have e0:Bc .u32 b 31=b%32:=AW b 5 32 (by omega) (by decide);have e1:a.fdiv (2^min (b%32).toNat 32)=a/2^(b%32).toNat:=by
  rw[eY (by omega),eS _ (fM (fQ (by decide)))]
 have e2:(sw a).fdiv (2^min (b%32).toNat 32)=sw a/2^(b%32).toNat:=by
  rw[eY (by omega),eS _ (fM (fQ (by decide)))]
 have e3:min (b%32).toNat 32=(b%32).toNat:=eY (by omega);have hpl:AC prog 276 [iv 22] (iv 8):=by have:=Av 22;simpa[CV]using this
 refine sZ func207 ntmps207 ?_;exact wx1 (qX3 (hpl) (Bn a b ha hb) (BP (true))) trivial (kX3 @e0 @e0 @e2)
theorem XU(a b:Int)(ha:W32 a)(hb:W32 b):AC prog 207 [iv 9,uv a,uv b] (.tup [uv (uw (a*b)),.bool true]):=by
 have e0:Bc .u32 b 31=b%32:=AW b 5 32 (by omega) (by decide);have e1:a.fdiv (2^min (b%32).toNat 32)=a/2^(b%32).toNat:=by
  rw[eY (by omega),eS _ (fM (fQ (by decide)))]
 have e2:(sw a).fdiv (2^min (b%32).toNat 32)=sw a/2^(b%32).toNat:=by
  rw[eY (by omega),eS _ (fM (fQ (by decide)))]
 have e3:min (b%32).toNat 32=(b%32).toNat:=eY (by omega);have hpl:AC prog 276 [iv 9] (iv 9):=by have:=Av 9;simpa[CV]using this
 refine sZ func207 ntmps207 ?_;exact wx1 (qX3 (hpl) (Bn a b ha hb) (BP (true))) trivial (kX2 @e0 @e0)
theorem UH(a b:Int)(ha:W32 a)(hb:W32 b):AC prog 207 [iv 10,uv a,uv b] (.tup [uv (J7 a b),.bool true]):=by
 have e0:Bc .u32 b 31=b%32:=AW b 5 32 (by omega) (by decide);have e1:a.fdiv (2^min (b%32).toNat 32)=a/2^(b%32).toNat:=by
  rw[eY (by omega),eS _ (fM (fQ (by decide)))]
 have e2:(sw a).fdiv (2^min (b%32).toNat 32)=sw a/2^(b%32).toNat:=by
  rw[eY (by omega),eS _ (fM (fQ (by decide)))]
 have e3:min (b%32).toNat 32=(b%32).toNat:=eY (by omega);have hpl:AC prog 276 [iv 10] (iv 10):=by have:=Av 10;simpa[CV]using this
 refine sZ func207 ntmps207 ?_;exact wx1 (qX3 (hpl) (Bn a b ha hb) (BP (true))) trivial (kX2 @e0 @e0)
theorem UI(a b:Int)(ha:W32 a)(hb:W32 b):AC prog 207 [iv 11,uv a,uv b] (.tup [uv (J8 a b),.bool true]):=by
 have e0:Bc .u32 b 31=b%32:=AW b 5 32 (by omega) (by decide);have e1:a.fdiv (2^min (b%32).toNat 32)=a/2^(b%32).toNat:=by
  rw[eY (by omega),eS _ (fM (fQ (by decide)))]
 have e2:(sw a).fdiv (2^min (b%32).toNat 32)=sw a/2^(b%32).toNat:=by
  rw[eY (by omega),eS _ (fM (fQ (by decide)))]
 have e3:min (b%32).toNat 32=(b%32).toNat:=eY (by omega);have hpl:AC prog 276 [iv 11] (iv 11):=by have:=Av 11;simpa[CV]using this
 refine sZ func207 ntmps207 ?_;exact wx1 (qX3 (hpl) (Bn a b ha hb) (BP (true))) trivial (kX2 @e0 @e0)
theorem UJ(a b:Int)(ha:W32 a)(hb:W32 b):AC prog 207 [iv 12,uv a,uv b] (.tup [uv (b2w (decide (sw a<sw b))),.bool true]):=by
 have e0:Bc .u32 b 31=b%32:=AW b 5 32 (by omega) (by decide);have e1:a.fdiv (2^min (b%32).toNat 32)=a/2^(b%32).toNat:=by
  rw[eY (by omega),eS _ (fM (fQ (by decide)))]
 have e2:(sw a).fdiv (2^min (b%32).toNat 32)=sw a/2^(b%32).toNat:=by
  rw[eY (by omega),eS _ (fM (fQ (by decide)))]
 have e3:min (b%32).toNat 32=(b%32).toNat:=eY (by omega);have hpl:AC prog 276 [iv 12] (iv 12):=by have:=Av 12;simpa[CV]using this
 refine sZ func207 ntmps207 ?_;exact wx1 (qX3 (hpl) (Bn a b ha hb) (BP (decide (sw a<sw b)))) trivial (kX2 @e0 @e0)
theorem US(a b:Int)(ha:W32 a)(hb:W32 b):AC prog 207 [iv 23,uv a,uv b] (.tup [uv (b2w (decide (sw a<sw b))),.bool true]):=by
 have e0:Bc .u32 b 31=b%32:=AW b 5 32 (by omega) (by decide);have e1:a.fdiv (2^min (b%32).toNat 32)=a/2^(b%32).toNat:=by
  rw[eY (by omega),eS _ (fM (fQ (by decide)))]
 have e2:(sw a).fdiv (2^min (b%32).toNat 32)=sw a/2^(b%32).toNat:=by
  rw[eY (by omega),eS _ (fM (fQ (by decide)))]
 have e3:min (b%32).toNat 32=(b%32).toNat:=eY (by omega);have hpl:AC prog 276 [iv 23] (iv 12):=by have:=Av 23;simpa[CV]using this
 refine sZ func207 ntmps207 ?_;exact wx1 (qX3 (hpl) (Bn a b ha hb) (BP (decide (sw a<sw b)))) trivial (kX2 @e0 @e0)
theorem UK(a b:Int)(ha:W32 a)(hb:W32 b):AC prog 207 [iv 13,uv a,uv b] (.tup [uv (b2w (decide (a<b))),.bool true]):=by
 have e0:Bc .u32 b 31=b%32:=AW b 5 32 (by omega) (by decide);have e1:a.fdiv (2^min (b%32).toNat 32)=a/2^(b%32).toNat:=by
  rw[eY (by omega),eS _ (fM (fQ (by decide)))]
 have e2:(sw a).fdiv (2^min (b%32).toNat 32)=sw a/2^(b%32).toNat:=by
  rw[eY (by omega),eS _ (fM (fQ (by decide)))]
 have e3:min (b%32).toNat 32=(b%32).toNat:=eY (by omega);have hpl:AC prog 276 [iv 13] (iv 13):=by have:=Av 13;simpa[CV]using this
 refine sZ func207 ntmps207 ?_;exact wx1 (qX3 (hpl) (Bn a b ha hb) (BP (decide (a<b)))) trivial (kX2 @e0 @e0)
theorem LS(op a b:Int)(ha:W32 a)(hb:W32 b)(h:(1<=op/\op<=13)\/(16<=op/\op<=23)):AC prog 207 [iv op,uv a,uv b] (.tup [uv ((Rj op a b).getD 0),.bool true]):=by
 have hk:op=1\/op=16\/op=2\/op=3\/op=17\/op=4\/op=18\/op=5\/op=19\/op=6\/op=20\/op=7\/op=21\/op=8\/op=22\/op=9\/op=10\/op=11\/op=12\/op=23\/op=13:=by omega
 rcases hk with rfl|rfl|rfl|rfl|rfl|rfl|rfl|rfl|rfl|rfl|rfl|rfl|rfl|rfl|rfl|rfl|rfl|rfl|rfl|rfl|rfl
 ·exact XM a b ha hb
 ·exact UL a b ha hb
 ·exact XN a b ha hb
 ·exact XO a b ha hb
 ·exact UM a b ha hb
 ·exact XP a b ha hb
 ·exact UN a b ha hb
 ·exact XQ a b ha hb
 ·exact UO a b ha hb
 ·exact XR a b ha hb
 ·exact UP a b ha hb
 ·exact XS a b ha hb
 ·exact UQ a b ha hb
 ·exact XT a b ha hb
 ·exact UR a b ha hb
 ·exact XU a b ha hb
 ·exact UH a b ha hb
 ·exact UI a b ha hb
 ·exact UJ a b ha hb
 ·exact US a b ha hb
 exact UK a b ha hb
theorem YL(n:Int):IntKind.i16.wrap n=(n+32768)%65536-32768:=by
 simp only[IntKind.wrap,IntKind.bits,IntKind.signed];have e1:(2:Int)^16=65536:=by decide
 have e2:(2:Int)^(16-1)=32768:=by decide
 simp only[e1,e2,Bool.true_and,decide_eq_true_eq];split<;>omega
theorem Fg(w:Int)(hw:W32 w):AC prog 157 [uv w] (Zj w):=by
 have e1:w.fdiv 16777216=w/16777216%256:=by rw[Bd];have:=hw.1;have:=hw.2;omega
 have e2:Bc .u32 (w.fdiv 1048576) 15=w/1048576%16:=by
  rw[eS _ (by decide)];exact AW (w/1048576) 4 16 (by omega) (by decide)
 have e3:Bc .u32 (w.fdiv 65536) 15=w/65536%16:=by
  rw[eS _ (by decide)];exact AW (w/65536) 4 16 (by omega) (by decide)
 have e4:Bc .u32 w 65535=w%65536:=AW w 16 65536 (by omega) (by decide);have c1:IntKind.i64.wrap (w/16777216%256)=w/16777216%256:=AA (by omega) (by omega);have c2:IntKind.i64.wrap (w/1048576%16)=w/1048576%16:=AA (by omega) (by omega);have c3:IntKind.i64.wrap (w/65536%16)=w/65536%16:=AA (by omega) (by omega);have c4:IntKind.i64.wrap (w%65536)=w%65536:=AA (by omega) (by omega);have c5:IntKind.i32.wrap (w%65536)=w%65536:=by rw[IntKind.wrap_i32];omega
 have c6:IntKind.i16.wrap (w%65536)=Hz (w%65536):=by rw[YL];unfold Hz;split<;>omega
 have c7:IntKind.i32.wrap (Hz (w%65536))=Hz (w%65536):=by rw[IntKind.wrap_i32];unfold Hz;split<;>omega
 refine sY func157 ntmps157 (kX6 @e1 @e2 @e3 @c1 @c2 @c3) ?_;refine cX (Ii (w/16777216%256)) ?_;intros;apply wr;by_cases e0:AI (w/16777216%256)=0
 ·have hv:validD (DW w)=false:=by simp[validD,DW,e0]
  refine EM @e0 ?_;refine aw ?_;simp[hv,FY]
 refine B1 @e0 ?_;intros;apply wr;by_cases e2:AI (w/16777216%256)=2
 ·have hd:DW w=⟨w/16777216%256,w/1048576%16,w/65536%16,w%65536,0⟩:=by simp[DW,e2]
  refine DT @e2 (kX2 @e4 @c4) ?_;have hi:-2147483648<=((⟨w/16777216%256,w/1048576%16,w/65536%16,w%65536,0⟩:InstD)).imm/\((⟨w/16777216%256,w/1048576%16,w/65536%16,w%65536,0⟩:InstD)).imm<=2147483647:=by simp only[Hz];omega
  refine cc (FU (⟨w/16777216%256,w/1048576%16,w/65536%16,w%65536,0⟩:InstD) hi) ?_;intros;cases hv:validD (⟨w/16777216%256,w/1048576%16,w/65536%16,w%65536,0⟩:InstD)with
  | false =>
   refine au ?_;refine CU ?_;refine aw ?_;simp[hd,hv,FY]
  | true =>
   refine au ?_;refine CX ?_;refine aw ?_;simp[hd,hv,FY]
 refine B1 @e2 ?_;intros;apply wr;by_cases e3:AI (w/16777216%256)=3
 ·have hd:DW w=⟨w/16777216%256,w/1048576%16,w/65536%16,0,Hz (w%65536)⟩:=by simp[DW,e3]
  refine EM @e3 ?_;refine DT @e3 (kX3 @e4 @c6 @c7) ?_;have hi:-2147483648<=((⟨w/16777216%256,w/1048576%16,w/65536%16,0,Hz (w%65536)⟩:InstD)).imm/\((⟨w/16777216%256,w/1048576%16,w/65536%16,0,Hz (w%65536)⟩:InstD)).imm<=2147483647:=by simp only[Hz];omega
  refine cc (FU (⟨w/16777216%256,w/1048576%16,w/65536%16,0,Hz (w%65536)⟩:InstD) hi) ?_;intros;cases hv:validD (⟨w/16777216%256,w/1048576%16,w/65536%16,0,Hz (w%65536)⟩:InstD)with
  | false =>
   refine au ?_;refine CU ?_;refine aw ?_;simp[hd,hv,FY]
  | true =>
   refine au ?_;refine CX ?_;refine aw ?_;simp[hd,hv,FY]
 refine B1 @e3 ?_;intros;apply wr;by_cases e7:AI (w/16777216%256)=7
 ·have hd:DW w=⟨w/16777216%256,w/1048576%16,w/65536%16,0,Hz (w%65536)⟩:=by simp[DW,e7]
  refine DT @e7 (kX3 @e4 @c6 @c7) ?_;have hi:-2147483648<=((⟨w/16777216%256,w/1048576%16,w/65536%16,0,Hz (w%65536)⟩:InstD)).imm/\((⟨w/16777216%256,w/1048576%16,w/65536%16,0,Hz (w%65536)⟩:InstD)).imm<=2147483647:=by simp only[Hz];omega
  refine cc (FU (⟨w/16777216%256,w/1048576%16,w/65536%16,0,Hz (w%65536)⟩:InstD) hi) ?_;intros;cases hv:validD (⟨w/16777216%256,w/1048576%16,w/65536%16,0,Hz (w%65536)⟩:InstD)with
  | false =>
   refine au ?_;refine CU ?_;refine aw ?_;simp[hd,hv,FY]
  | true =>
   refine au ?_;refine CX ?_;refine aw ?_;simp[hd,hv,FY]
 refine cF1 @e7 rfl ?_;have hd:DW w=⟨w/16777216%256,w/1048576%16,w/65536%16,0,w%65536⟩:=by simp[DW,e2,e3,e7]
 refine au1 (kX2 @e4 @c5) ?_;have hi:-2147483648<=((⟨w/16777216%256,w/1048576%16,w/65536%16,0,w%65536⟩:InstD)).imm/\((⟨w/16777216%256,w/1048576%16,w/65536%16,0,w%65536⟩:InstD)).imm<=2147483647:=by simp only[Hz];omega
 refine cc (FU (⟨w/16777216%256,w/1048576%16,w/65536%16,0,w%65536⟩:InstD) hi) ?_;intros;cases hv:validD (⟨w/16777216%256,w/1048576%16,w/65536%16,0,w%65536⟩:InstD)with
 | false =>
  refine au ?_;refine CU ?_;refine aw ?_;simp[hd,hv,FY]
 | true =>
  refine au ?_;refine CX ?_;refine aw ?_;simp[hd,hv,FY]
abbrev EF(l:List Int):Ob:=⟨25,1,false,false,ints .u32 l⟩
theorem Xi{nx:Nat}{ob:List (Nat×Option Ob)}(j:Nat)(l:List Int)(a v:Int)(ha:W32 a)(hj:lookO ob j=some (EF l))(hi:(a/4).toNat<l.length):
  Bt prog 259 [.own j,uv a,iv 4,uv v] nx ob fun r nx' ob'=>r=.tup []/\nx'=nx/\ob'=(j,some (EF (C6 l a 4 v)))::ob:=by
 have e1:=NJ ha;have e3:=AM .u32 l;have e7:(0:Int)<=a/4:=by have:=ha.1;omega
 have e8:a/4<(l.length:Int):=by omega
 refine sIY func259 ntmps259 (kX2 @hj @e1) ?_;intros;apply wr;refine cT0 rfl ?_;have e2:=Bh (k:=.u32) (FV hi);have g2:∀h,(ints .u32 l)[(a/4).toNat]'h=[uv (wAt l (a/4))]:=fun h=>by rw[eR h]at e2;simpa using e2
 refine au1 (kX6 @hj @e1 @e3 @e2 @g2 @ints_set) ?_;refine ar ?_;simp[C6,ints_set]
theorem QF{nx:Nat}{ob:List (Nat×Option Ob)}(j:Nat)(l:List Int)(a v:Int)(ha:W32 a)(hl:OkW l)(hj:lookO ob j=some (EF l))(hi:(a/4).toNat<l.length):
  Bt prog 259 [.own j,uv a,iv 1,uv v] nx ob fun r nx' ob'=>r=.tup []/\nx'=nx/\ob'=(j,some (EF (C6 l a 1 v)))::ob:=by
 have e1:=NJ ha;have e3:=AM .u32 l;have e4:=LZ ha.1;have e5:IntKind.u32.wrap (8*(a%4))=8*(a%4):=u32_in (by omega) (by omega);have e7:(0:Int)<=a/4:=by have:=ha.1;omega
 have e8:a/4<(l.length:Int):=by omega
 have e9:min (8*(a%4)).toNat 32=(8*(a%4)).toNat:=by omega
 obtain⟨w,hw'⟩:∃w,w=wAt l (a/4):=⟨_,rfl⟩;have e2:=Bh (k:=.u32) (FV hi);rw[<- hw']at e2;have hw2:=hw'.symm;have hs:=setB w v (a%4) (by rw[hw'];exact Oi hl _) (by omega);have ha4:a%4=0\/a%4=1\/a%4=2\/a%4=3:=by omega
 have f1:IntKind.u32.wrap (255*2^(8*(a%4)).toNat)=255*2^(8*(a%4)).toNat:=by
  rcases ha4 with h|h|h|h<;>rw[h]<;>decide
 have f2:IntKind.u32.wrap (v%256*2^(8*(a%4)).toNat)=v%256*2^(8*(a%4)).toNat:=by
  rcases ha4 with h|h|h|h<;>rw[h]<;>exact u32_in (by simp;omega) (by simp;omega)
 refine sIY func259 ntmps259 (kX4 @hj @e1 @e4 @e5) ?_;intros;apply wr;refine cF0 rfl ?_;have g2:∀h,(ints .u32 l)[(a/4).toNat]'h=[uv w]:=fun h=>by rw[eR h]at e2;simpa using e2
 refine au1 (kX13 @hj @e1 @e2 @e3 @e4 @e5 @e9 @f1 @f2 @hs @g2 @C7 @ints_set) ?_;intros;apply wr;simp[C6,ints_set,hw2]
theorem walkC(w acc P F:Int)(ha:acc=1\/acc=2\/acc=3):(Bc .u32 w 1==0||acc==3&&Bc .u32 w 2==0||acc==1&&Bc .u32 w 4==0||decide (P<=F))=!decide (LP w acc=true/\F<P):=by
 have e:decide (P<=F)=!decide (F<P):=by by_cases h:F<P<;>simp[h]<;>omega
 rw[e];unfold LP;simp only[Bool.decide_and,Bool.decide_eq_true];generalize decide (F<P)=b;by_cases k1:Bc .u32 w 1=0<;>by_cases k2:Bc .u32 w 2=0<;>by_cases k4:Bc .u32 w 4=0<;>cases b<;>rcases ha with rfl|rfl|rfl<;>simp[k1,k2,k4]
def CY(nx:Nat)(ob:List (Nat×Option Ob))(j:Nat)(l:List Int)(nx':Nat)(ob':List (Nat×Option Ob)):Prop :=
 nx<=nx'/\lookO ob' j=some (EF l)/\∀i,i<nx->i≠j->lookO ob' i=lookO ob i
theorem JO{nx:Nat}{ob:List (Nat×Option Ob)}(j:Nat)(l:List Int)(hj:lookO ob j=some (EF l)):
  Bt prog 143 [.own j] nx ob fun r nx' ob'=>r=iv (pagesD l)/\nx'=nx/\ob'=ob:=by
 have e3:=AM .u32 l;refine sIY func143 ntmps143 (kX2 @hj @e3) ?_;exact wx1 trivial trivial (kX3 @hj @e3 @pagesD.eq_1)
theorem Fi{nx:Nat}{ob:List (Nat×Option Ob)}(j:Nat)(l:List Int)(a s:Int)(hj:lookO ob j=some (EF l))(hs:s=1\/s=4)(ha:W32 a):
  Bt prog 201 [.own j,uv a,iv s] nx ob fun r nx' ob'=>r=.bool (AS l a s)/\nx'=nx/\ob'=ob:=by
 have hpg:=Aa l;have e1:IntKind.i64.wrap (128*pagesD l)=128*pagesD l:=AA (by omega) (by omega);have e2:IntKind.u32.wrap (128*pagesD l)=128*pagesD l:=u32_in (by omega) (by omega);have e5:=LZ ha.1;rcases hs with rfl|rfl
 ·have e6:AS l a 1=decide (a<128*pagesD l):=by
   have:(a+1<=pagesD l*128)=(a<128*pagesD l):=by apply propext;omega
   unfold AS;simp[this]
  refine sIX func201 ntmps201 ?_;refine EE (kX3 @e5 @D4 @Hl) ?_;intros;apply wr;refine cO ?_;refine(JO j l hj).mono fun r nx' ob' hp=>?_;simp only[BS];obtain⟨rfl,rfl,rfl⟩:=hp;simp[e1,e2];refine au ?_;refine ar ?_;simp[e6]
 by_cases h4:a%4=0
 ·have e6:AS l a 4=decide (a<128*pagesD l):=by
   unfold AS;have:(a+4<=pagesD l*128)=(a<128*pagesD l):=by apply propext;omega
   simp[h4,this]
  refine sIX func201 ntmps201 ?_;refine EE (kX4 @e5 @h4 @D4 @Hl) ?_;intros;apply wr;refine cO ?_;refine(JO j l hj).mono fun r nx' ob' hp=>?_;simp only[BS];obtain⟨rfl,rfl,rfl⟩:=hp;simp[e1,e2];refine au ?_;refine ar ?_;simp[e6]
 have e6:AS l a 4=false:=by
  unfold AS;simp[h4]
 have hb:(a%4==0)=false:=by simp[h4]
 refine sIX func201 ntmps201 ?_;refine EE (kX4 @e5 @hb @D4 @Hl) ?_;refine ar ?_;simp[e6]
theorem QB{nx:Nat}{ob:List (Nat×Option Ob)}(j:Nat)(l:List Int)(a s:Int)(hj:lookO ob j=some (EF l))(hs:s=1\/s=4)(ha:W32 a):
  Bt prog 156 [.own j,uv a,iv s] nx ob fun r nx' ob'=>r=.tup [uv (if AS l a s=true then By l a s else 0),.bool (AS l a s)]/\nx'=nx/\ob'=ob:=by
 have hW:Bt prog 201 [.own j,uv a,iv s] nx ob fun r nx' ob'=>r=.bool (AS l a s)/\nx'=nx/\ob'=ob:=Fi j l a s hj hs ha;cases hw:AS l a s with
 | false =>
  rw[hw]at hW;refine sIX func156 ntmps156 ?_;intros;apply wr;refine cO ?_;refine(hW).mono fun r nx' ob' hp=>?_;simp only[BS];obtain⟨rfl,rfl,rfl⟩:=hp;simp;refine au ?_;refine CU ?_;refine ar ?_;simp
 | true =>
  rw[hw]at hW;have hi:=Bf hw ha.1;have e1:=NJ ha;obtain⟨w,hw'⟩:∃w,w=wAt l (a/4):=⟨_,rfl⟩;have e2:=Bh (k:=.u32) (FV hi);rw[<- hw']at e2;have g2:∀h,(ints .u32 l)[(a/4).toNat]'h=[uv w]:=fun h=>by rw[eR h]at e2;simpa using e2
  have hw2:=hw'.symm;have e3:=AM .u32 l;have e4:=LZ ha.1;have e5:IntKind.u32.wrap (8*(a%4))=8*(a%4):=u32_in (by omega) (by omega);have e6:w.fdiv (2^min (8*(a%4)).toNat 32)=w/2^(8*(a%4)).toNat:=by
   rw[eY (by omega),eS _ (fM (fQ (by decide)))]
  have e7:(0:Int)<=a/4:=by have:=ha.1;omega
  have e8:a/4<(l.length:Int):=by omega
  have e9:w/2^(8*(a%4)).toNat%256=byteAt w (a%4):=rfl;rcases hs with rfl|rfl
  ·refine sIX func156 ntmps156 ?_;intros;apply wr;refine cO ?_;refine(hW).mono fun r nx' ob' hp=>?_;simp only[BS];obtain⟨rfl,rfl,rfl⟩:=hp;simp;refine au ?_;refine EE (kX5 @hj @e1 @e2 @e3 @g2) ?_;refine II (kX5 @e4 @e5 @e6 @e9 @C7) ?_;refine ar ?_;simp[By,hw2]
  refine sIX func156 ntmps156 ?_;intros;apply wr;refine cO ?_;refine(hW).mono fun r nx' ob' hp=>?_;simp only[BS];obtain⟨rfl,rfl,rfl⟩:=hp;simp;refine au ?_;refine EE (kX5 @hj @e1 @e2 @e3 @g2) ?_;refine CX ?_;refine ar ?_;simp[By,hw2]
def RPost(nx:Nat)(ob:List (Nat×Option Ob))(nx':Nat)(ob':List (Nat×Option Ob)):Prop :=
 nx<=nx'/\∀i,i<nx->lookO ob' i=lookO ob i
theorem QH{nx:Nat}{ob:List (Nat×Option Ob)}(j:Nat)(l:List Int)(root va acc:Int)(hr:W32 root)(hv:W32 va)(ha:acc=1\/acc=2\/acc=3)(hj:lookO ob j=some (EF l))(hjn:j<nx):
  Bt prog 270 [.own j,uv root,uv va,iv acc] nx ob fun r nx' ob'=>r=Ck l root va acc/\RPost nx ob nx' ob':=by
 have n1:¬j=nx:=by omega
 have n2:¬j=nx+1:=by omega
 have n3:¬j=nx+1+1:=by omega
 have n4:¬nx=nx+1+1:=by omega
 have n5:¬nx+1+1=nx:=by omega
 have hjj:lookO ob j=some (EF l):=hj;have hpg:=Aa l;have hc:AC prog 269 [iv acc] (iv (acc+3)):=by
  have:=Mv acc;rcases ha with rfl|rfl|rfl<;>simpa using this
 have hk:AC prog 267 [iv acc] (.bool true):=by
  have:=NC acc;rcases ha with rfl|rfl|rfl<;>simpa using this
 have w0:IntKind.u32.wrap (pagesD l)=pagesD l:=u32_in (by omega) (by omega);by_cases h1:va<4096
 ·by_cases h2:root<pagesD l
  ·have hi:=ID h2 hr.1 h1 hv.1;obtain⟨e,he⟩:∃e,e=root*128+va/128*4:=⟨_,rfl⟩;rw[<- he]at hi;have w1:IntKind.u32.wrap (va.tdiv 128)=va/128:=by rw[Int.tdiv_eq_ediv_of_nonneg hv.1];exact u32_in (by omega) (by omega)
   have w2:IntKind.u32.wrap (4*(va/128))=va/128*4:=by rw[u32_in (by omega) (by omega)];omega
   have w3:IntKind.u32.wrap (root*128)=root*128:=u32_in (by omega) (by omega);have w4:IntKind.u32.wrap (root*128+va/128*4)=e:=by rw[he];exact u32_in (by omega) (by omega)
   have hx:=Bf hi (by omega);have x1:=NJ (a:=e) ⟨by omega,by omega⟩;have x2:=Bh (k:=.u32) (FV hx);have x3:=AM .u32 l;have x4:(0:Int)<=e/4:=by omega
   have x5:e/4<(l.length:Int):=by omega
   obtain⟨w,hw⟩:∃w,w=wAt l (e/4):=⟨_,rfl⟩;rw[<- hw]at x2;have x6:Bc .u32 (w.fdiv 256) 255=w/256%256:=by rw[C7,Hq]
   have w5:va.tmod 128=va%128:=Int.tmod_eq_emod_of_nonneg hv.1;have hE:Ck l root va acc=if LP w acc=true/\w/256%256<pagesD l then .st [uv (w/256%256*128+va%128),uv e,iv 0]else .st [uv 0,uv 0,iv (acc+3)]:=by
    unfold Ck FW;rw[<- he,<- hw];by_cases q:LP w acc=true/\w/256%256<pagesD l
    ·rw[if_pos ⟨h1,h2,q⟩,if_pos q]
    rw[if_neg (fun h=>q h.2.2),if_neg q]
   have hcond:(Bc .u32 w 1==0||acc==3&&Bc .u32 w 2==0||acc==1&&Bc .u32 w 4==0||decide (pagesD l<=w/256%256))=!decide (LP w acc=true/\w/256%256<pagesD l):=walkC w acc _ _ ha;rw[hE];refine sIX func270 ntmps270 ?_;refine cX (hc) ?_;intros;apply wr;refine cO ?_;refine(JO j l (by simp[lookO,n1,n2,n3,hj])).mono fun r nx' ob' hp=>?_;simp only[BS];obtain⟨rfl,rfl,rfl⟩:=hp;simp[w0];refine au ?_;refine cc1 (hk) @w0 ?_;have m1:¬4096<=va:=by omega
   have m2:¬pagesD l<=root:=by omega
   refine au1 (kX3 @w0 @m1 @m2) ?_;refine EL (kX2 @m1 @m2) (kX14 @w1 @w2 @w3 @w4 @x1 @x2 @x3 @x6 @hj @n1 @n2 @n3 @n4 @n5) ?_;intros;apply wr;refine AB rfl (fun hq=>?_) (fun hq=>?_)
   ·rw[hcond]at hq;simp only[gC,decide_eq_false_iff_not]at hq;rw[if_neg hq];refine au1 (kX2 @n4 @n5) ?_;intros;apply wr;refine ar ?_;simp[n4,n5];refine⟨by omega,fun i hi=>?_⟩;have r1:¬i=nx:=by omega
    have r2:¬i=nx+1+1:=by omega
    simp[lookO,r1,r2]
   rw[hcond]at hq;simp only[Bool.not_eq_false',decide_eq_true_eq]at hq;have w6:IntKind.u32.wrap (w/256%256*128)=w/256%256*128:=u32_in (by omega) (by have:=hq.2;omega);have w7:IntKind.u32.wrap (w/256%256*128+va%128)=w/256%256*128+va%128:=u32_in (by omega) (by have:=hq.2;omega);rw[if_pos hq];refine au1 (kX5 @w5 @w6 @w7 @n4 @n5) ?_;intros;apply wr;refine ar ?_;simp[n4,n5,hq.1,hq.2];refine⟨by omega,fun i hi=>?_⟩;have r1:¬i=nx:=by omega
   have r2:¬i=nx+1+1:=by omega
   simp[lookO,r1,r2]
  have hV:Ck l root va acc=.st [uv 0,uv 0,iv (acc+3)]:=by
   unfold Ck FW;rw[if_neg (fun q=>h2 q.2.1)]
  rw[hV];have m1:¬4096<=va:=by omega
  have m2:pagesD l<=root:=by omega
  refine sIX func270 ntmps270 ?_;refine cX (hc) ?_;intros;apply wr;refine cO ?_;refine(JO j l (by simp[lookO,n1,n2,n3,hj])).mono fun r nx' ob' hp=>?_;simp only[BS];obtain⟨rfl,rfl,rfl⟩:=hp;simp[w0];refine au ?_;refine cZ (hk) @w0 (kX3 @w0 @m1 @m2) ?_;refine DT (kX2 @m1 @m2) (kX2 @n4 @n5) ?_;intros;apply wr;refine ar ?_;simp[n4,n5];refine⟨by omega,fun i hi=>?_⟩;have r1:¬i=nx:=by omega
  have r2:¬i=nx+1+1:=by omega
  simp[lookO,r1,r2]
 have hV:Ck l root va acc=.st [uv 0,uv 0,iv (acc+3)]:=by
  unfold Ck FW;rw[if_neg (fun q=>h1 q.1)]
 rw[hV];have h1':4096<=va:=by omega
 refine sIX func270 ntmps270 ?_;refine cX (hc) ?_;intros;apply wr;refine cO ?_;refine(JO j l (by simp[lookO,n1,n2,n3,hj])).mono fun r nx' ob' hp=>?_;simp only[BS];obtain⟨rfl,rfl,rfl⟩:=hp;simp[w0];refine au ?_;refine cZ (hk) @w0 (kX2 @w0 @h1') ?_;refine DT @h1' (kX2 @n4 @n5) ?_;intros;apply wr;refine ar ?_;simp[n4,n5];refine⟨by omega,fun i hi=>?_⟩;have r1:¬i=nx:=by omega
 have r2:¬i=nx+1+1:=by omega
 simp[lookO,r1,r2]
theorem QD{nx:Nat}{ob:List (Nat×Option Ob)}(j:Nat)(l:List Int)(e acc:Int)(he:W32 e)(hj:lookO ob j=some (EF l))(hw:AS l e 4=true):
  Bt prog 271 [.own j,uv e,iv acc] nx ob fun r nx' ob'=>r=.tup []/\CY nx ob j (EG l e acc) nx' ob':=by
 have hi:=Bf hw he.1;have e1:=NJ he;have e3:=AM .u32 l;have hW:=Fi (nx:=nx) (ob:=ob) j l e 4 hj (.inr rfl) he;rw[hw]at hW;have e2:=Bh (k:=.u32) (FV hi);have g2:∀h,(ints .u32 l)[(e/4).toNat]'h=[uv (wAt l (e/4))]:=fun h=>by rw[eR h]at e2;simpa using e2
 have e7:(0:Int)<=e/4:=by have:=he.1;omega
 have e8:e/4<(l.length:Int):=by omega
 have s1:∀x,(ints .u32 l).set (e/4).toNat [uv x]=ints .u32 (l.set (e/4).toNat x):=fun x=>ints_set .u32 l _ x;generalize hq:wAt l (e/4)=w at e2 g2;by_cases ha:acc=3
 ·subst ha;have f1:∀x,(ints .u32 (l.set (e/4).toNat x))[(e/4).toNat]? =some [uv x]:=fun x=>Bh (by rw[List.getElem?_set_self hi]);have f2:∀x h,(ints .u32 (l.set (e/4).toNat x))[(e/4).toNat]'h=[uv x]:=fun x h=>by have:=f1 x;rw[eR h]at this;simpa using this
  have f3:∀x,(ints .u32 (l.set (e/4).toNat x)).length=l.length:=fun x=>by rw[AM,List.length_set]
  have f4:∀x y,(ints .u32 (l.set (e/4).toNat x)).set (e/4).toNat [uv y]=ints .u32 (l.set (e/4).toNat y):=fun x y=>by rw[ints_set,List.set_set]
  refine sIX func271 ntmps271 ?_;intros;apply wr;refine cO ?_;refine(hW).mono fun r nx' ob' hp=>?_;simp only[BS];obtain⟨rfl,rfl,rfl⟩:=hp;simp;refine au ?_;refine EE (kX6 @hj @e1 @e2 @e3 @g2 @s1) ?_;refine II (kX5 @e1 @f1 @f2 @f3 @f4) ?_;intros;apply wr;simp[EG,K4,hq,s1,f4];intro i h1 h2;simp[h2]
 refine sIX func271 ntmps271 ?_;intros;apply wr;refine cO ?_;refine(hW).mono fun r nx' ob' hp=>?_;simp only[BS];obtain⟨rfl,rfl,rfl⟩:=hp;simp;refine au ?_;refine EE (kX6 @hj @e1 @e2 @e3 @g2 @s1) ?_;refine B1 @ha ?_;intros;apply wr;simp[EG,K4,hq,ha,s1];intro i h1 h2 h3;exact absurd h3 h2
theorem NS{l:List Int}{root va acc a e:Int}(hr:W32 root)(hv:W32 va)(h:FW l root va acc=some (a,e)):AS l e 4=true/\W32 e/\W32 a:=by
 unfold FW at h;split at h
 ·rename_i hq;have hpg:=Aa l;simp only[eQ,Prod.mk.injEq]at h;obtain⟨rfl,rfl⟩:=h;obtain⟨h1,h2,h3,h4⟩:=hq;refine⟨ID h2 hr.1 h1 hv.1,?_,?_⟩
  ·have:=hr.1;have:=hv.1;omega
  generalize wAt l ((root*128+va/128*4)/4)=w at h4 ⊢;have:=hv.1;omega
 cases h
theorem EZ{nx:Nat}{ob:List (Nat×Option Ob)}(j:Nat)(c:CpuD)(l:List Int)(va size acc:Int)(hC:OkC c)(hv:W32 va)(hs:size=1\/size=4)(ha:acc=1\/acc=2\/acc=3)(hj:lookO ob j=some (EF l))(hjn:j<nx):
  Bt prog 202 [.st c.row,.own j,uv va,iv size,iv acc] nx ob fun r nx' ob'=>r=.tup [uv (AE c l va size acc).1,iv (AE c l va size acc).2.2]/\CY nx ob j (AE c l va size acc).2.1 nx' ob':=by
 have n1:¬j=nx:=by omega
 have n2:¬nx=j:=by omega
 have hc:AC prog 269 [iv acc] (iv (acc+3)):=by
  have:=Mv acc;rcases ha with rfl|rfl|rfl<;>simpa using this
 have hk:AC prog 267 [iv acc] (.bool true):=by
  have:=NC acc;rcases ha with rfl|rfl|rfl<;>simpa using this
 have hpa:=Ud c hC;have e4:=LZ hv.1;have e1:va%1=0:=by omega
 by_cases hm:va%size=0
 ·cases hp0:FQ c with
  | false =>
   rw[hp0]at hpa;rcases hs with rfl|rfl
   ·cases hwi:AS l va 1 with
    | true =>
     have hE:AE c l va 1 acc=(va,l,0):=by unfold AE;rw[if_neg (by omega),if_neg (by simp[hp0]),if_pos hwi]
     rw[hE];refine sIX func202 ntmps202 ?_;refine cX (hk) ?_;refine EE (kX3 @D4 @e4 @hm) ?_;refine CX ?_;refine cX (hpa) ?_;refine CU ?_;intros;apply wr;refine cO ?_;refine(Fi j l va 1 (by simp[lookO,n1,hj]) (by omega) hv).mono fun r nx' ob' hp=>?_;simp only[BS];obtain⟨rfl,rfl,rfl⟩:=hp;simp[hwi];refine au ?_;refine CX ?_;intros;apply wr;refine ar ?_;simp[CY,lookO,n1,hj];refine⟨by omega,fun i h1 h2=>?_⟩;first|(intro h3;omega)|(have r1:¬i=nx:=by omega;simp[r1])
    | false =>
     have hE:AE c l va 1 acc=(0,l,acc+3):=by unfold AE;rw[if_neg (by omega),if_neg (by simp[hp0]),if_neg (by simp[hwi])]
     rw[hE];refine sIX func202 ntmps202 ?_;refine cX (hk) ?_;refine EE (kX3 @D4 @e4 @hm) ?_;refine CX ?_;refine cX (hpa) ?_;refine CU ?_;intros;apply wr;refine cO ?_;refine(Fi j l va 1 (by simp[lookO,n1,hj]) (by omega) hv).mono fun r nx' ob' hp=>?_;simp only[BS];obtain⟨rfl,rfl,rfl⟩:=hp;simp[hwi];refine au ?_;refine CU ?_;refine cX (hc) ?_;intros;apply wr;refine ar ?_;simp[CY,lookO,n1,hj];refine⟨by omega,fun i h1 h2=>?_⟩;first|(intro h3;omega)|(have r1:¬i=nx:=by omega;simp[r1])
   cases hwi:AS l va 4 with
   | true =>
    have hE:AE c l va 4 acc=(va,l,0):=by unfold AE;rw[if_neg (by omega),if_neg (by simp[hp0]),if_pos hwi]
    rw[hE];refine sIX func202 ntmps202 ?_;refine cX (hk) ?_;refine EE (kX3 @D4 @e4 @hm) ?_;refine B1 @hm ?_;refine cX (hpa) ?_;refine CU ?_;intros;apply wr;refine cO ?_;refine(Fi j l va 4 (by simp[lookO,n1,hj]) (by omega) hv).mono fun r nx' ob' hp=>?_;simp only[BS];obtain⟨rfl,rfl,rfl⟩:=hp;simp[hwi];refine au ?_;refine CX ?_;intros;apply wr;refine ar ?_;simp[CY,lookO,n1,hj];refine⟨by omega,fun i h1 h2=>?_⟩;first|(intro h3;omega)|(have r1:¬i=nx:=by omega;simp[r1])
   | false =>
    have hE:AE c l va 4 acc=(0,l,acc+3):=by unfold AE;rw[if_neg (by omega),if_neg (by simp[hp0]),if_neg (by simp[hwi])]
    rw[hE];refine sIX func202 ntmps202 ?_;refine cX (hk) ?_;refine EE (kX3 @D4 @e4 @hm) ?_;refine B1 @hm ?_;refine cX (hpa) ?_;refine CU ?_;intros;apply wr;refine cO ?_;refine(Fi j l va 4 (by simp[lookO,n1,hj]) (by omega) hv).mono fun r nx' ob' hp=>?_;simp only[BS];obtain⟨rfl,rfl,rfl⟩:=hp;simp[hwi];refine au ?_;refine CU ?_;refine cX (hc) ?_;intros;apply wr;refine ar ?_;simp[CY,lookO,n1,hj];refine⟨by omega,fun i h1 h2=>?_⟩;first|(intro h3;omega)|(have r1:¬i=nx:=by omega;simp[r1])
  | true =>
   rw[hp0]at hpa;rcases hs with rfl|rfl
   ·cases hwk:FW l (c.csr 6) va acc with
    | none =>
     have hE:AE c l va 1 acc=(0,l,acc+3):=by unfold AE;rw[if_neg (by omega),if_pos hp0,hwk]
     have hV:Ck l (c.csr 6) va acc=.st [uv 0,uv 0,iv (acc+3)]:=by unfold Ck;rw[hwk]
     have hne:¬acc+3=0:=by omega
     rw[hE];refine sIX func202 ntmps202 ?_;refine cX (hk) ?_;refine EE (kX3 @D4 @e4 @hm) ?_;refine CX ?_;refine cX (hpa) ?_;refine CX ?_;intros;apply wr;refine cO ?_;refine(QH j l (c.csr 6) va acc (hC.csr 6) hv ha (by simp[lookO,n1,hj]) (by omega)).mono fun r nx' ob' hp=>?_;simp only[BS];obtain⟨rfl,g1,g2⟩:=hp;have c1:=g2 nx (by omega);have c2:=g2 j (by omega);simp[lookO]at c1;simp[lookO,n1,hj]at c2;have m1:¬j=nx':=by omega
     have m2:¬nx=nx':=by omega
     have m3:¬nx'=nx:=by omega
     have m4:¬nx'=j:=by omega
     simp[hV];refine au ?_;refine EM @hne ?_;intros;apply wr;refine AG 4 [0,1,0,7] [(3,([[],[0],[]],[])),(1,([],[]))] ?_;refine af ?_;refine af ?_;intros;apply wr;refine ar ?_;simp[CY];exact⟨by omega,by simp[lookO,m1,c2],fun i h1 h2=>by
      have r1:¬i=nx':=by omega
      have r2:¬i=nx:=by omega
      simp[lookO,r1,g2 i (by omega),r2]⟩
    | some p =>
     obtain⟨a,e⟩:=p;have hE:AE c l va 1 acc=(a,EG l e acc,0):=by unfold AE;rw[if_neg (by omega),if_pos hp0,hwk]
     have hV:Ck l (c.csr 6) va acc=.st [uv a,uv e,iv 0]:=by unfold Ck;rw[hwk]
     obtain⟨q1,q2,q3⟩:=NS (hC.csr 6) hv hwk;rw[hE];refine sIX func202 ntmps202 ?_;refine cXf (hk) ?_;refine Kp (kX3 @D4 @e4 @hm) ?_;refine BU ?_;refine cXf (hpa) ?_;refine BU ?_;intros;apply wr;refine cO ?_;refine(QH j l (c.csr 6) va acc (hC.csr 6) hv ha (by simp[lookO,n1,hj]) (by omega)).mono fun r nx' ob' hp=>?_;simp only[BS];obtain⟨rfl,g1,g2⟩:=hp;have c1:=g2 nx (by omega);have c2:=g2 j (by omega);simp[lookO]at c1;simp[lookO,n1,hj]at c2;have m1:¬j=nx':=by omega
     have m2:¬nx=nx':=by omega
     have m3:¬nx'=nx:=by omega
     have m4:¬nx'=j:=by omega
     simp[hV];refine af ?_;refine BU ?_;intros;apply wr;obtain⟨na,rfl⟩:∃na,na=nx':=⟨_,rfl⟩;obtain⟨oa,rfl⟩:∃oa,oa=ob':=⟨_,rfl⟩;refine cO ?_;refine(QD j l e acc q2 (by simp[lookO,m1,c2]) q1).mono fun r nx' ob' hp=>?_;simp only[BS];obtain⟨rfl,k1,k2,k3⟩:=hp;have c3:=k3 na (by omega) (fun h=>m4 h);simp[lookO]at c3;simp[c3];refine af1 @c3 ?_;intros;apply wr;refine ar ?_;simp[CY];exact⟨by omega,k2,fun i h1 h2=>by
      have r1:¬i=na:=by omega
      have r2:¬i=nx:=by omega
      rw[k3 i (by omega) h2];simp[lookO,r1,g2 i (by omega),r2]⟩
   cases hwk:FW l (c.csr 6) va acc with
   | none =>
    have hE:AE c l va 4 acc=(0,l,acc+3):=by unfold AE;rw[if_neg (by omega),if_pos hp0,hwk]
    have hV:Ck l (c.csr 6) va acc=.st [uv 0,uv 0,iv (acc+3)]:=by unfold Ck;rw[hwk]
    have hne:¬acc+3=0:=by omega
    rw[hE];refine sIX func202 ntmps202 ?_;refine cXf (hk) ?_;refine Kp (kX3 @D4 @e4 @hm) ?_;refine Ae @hm ?_;refine cXf (hpa) ?_;refine BU ?_;intros;apply wr;refine cO ?_;refine(QH j l (c.csr 6) va acc (hC.csr 6) hv ha (by simp[lookO,n1,hj]) (by omega)).mono fun r nx' ob' hp=>?_;simp only[BS];obtain⟨rfl,g1,g2⟩:=hp;have c1:=g2 nx (by omega);have c2:=g2 j (by omega);simp[lookO]at c1;simp[lookO,n1,hj]at c2;have m1:¬j=nx':=by omega
    have m2:¬nx=nx':=by omega
    have m3:¬nx'=nx:=by omega
    have m4:¬nx'=j:=by omega
    simp[hV];refine af ?_;refine Eh @hne ?_;intros;apply wr;refine AG 4 [0,1,0,7] [(3,([[],[0],[]],[])),(1,([],[]))] ?_;refine af ?_;refine af ?_;intros;apply wr;refine ar ?_;simp[CY];exact⟨by omega,by simp[lookO,m1,c2],fun i h1 h2=>by
     have r1:¬i=nx':=by omega
     have r2:¬i=nx:=by omega
     simp[lookO,r1,g2 i (by omega),r2]⟩
   | some p =>
    obtain⟨a,e⟩:=p;have hE:AE c l va 4 acc=(a,EG l e acc,0):=by unfold AE;rw[if_neg (by omega),if_pos hp0,hwk]
    have hV:Ck l (c.csr 6) va acc=.st [uv a,uv e,iv 0]:=by unfold Ck;rw[hwk]
    obtain⟨q1,q2,q3⟩:=NS (hC.csr 6) hv hwk;rw[hE];refine sIX func202 ntmps202 ?_;refine cXf (hk) ?_;refine Kp (kX3 @D4 @e4 @hm) ?_;refine Ae @hm ?_;refine cXf (hpa) ?_;refine BU ?_;intros;apply wr;refine cO ?_;refine(QH j l (c.csr 6) va acc (hC.csr 6) hv ha (by simp[lookO,n1,hj]) (by omega)).mono fun r nx' ob' hp=>?_;simp only[BS];obtain⟨rfl,g1,g2⟩:=hp;have c1:=g2 nx (by omega);have c2:=g2 j (by omega);simp[lookO]at c1;simp[lookO,n1,hj]at c2;have m1:¬j=nx':=by omega
    have m2:¬nx=nx':=by omega
    have m3:¬nx'=nx:=by omega
    have m4:¬nx'=j:=by omega
    simp[hV];refine af ?_;refine BU ?_;intros;apply wr;obtain⟨na,rfl⟩:∃na,na=nx':=⟨_,rfl⟩;obtain⟨oa,rfl⟩:∃oa,oa=ob':=⟨_,rfl⟩;refine cO ?_;refine(QD j l e acc q2 (by simp[lookO,m1,c2]) q1).mono fun r nx' ob' hp=>?_;simp only[BS];obtain⟨rfl,k1,k2,k3⟩:=hp;have c3:=k3 na (by omega) (fun h=>m4 h);simp[lookO]at c3;simp[c3];refine af1 @c3 ?_;intros;apply wr;refine ar ?_;simp[CY];exact⟨by omega,k2,fun i h1 h2=>by
     have r1:¬i=na:=by omega
     have r2:¬i=nx:=by omega
     rw[k3 i (by omega) h2];simp[lookO,r1,g2 i (by omega),r2]⟩
 have hE:AE c l va size acc=(0,l,3):=by unfold AE;rw[if_pos hm]
 have h4:size=4:=by rcases hs with rfl|rfl<;>omega
 subst h4;rw[hE];refine sIX func202 ntmps202 ?_;refine cXf (hk) ?_;refine Kp (kX2 @D4 @e4) ?_;refine Eh @hm ?_;intros;apply wr;refine ar ?_;simp[CY,lookO,n1,hj];refine⟨by omega,fun i h1 h2=>?_⟩;first|(intro h3;omega)|(have r1:¬i=nx:=by omega;simp[r1])
theorem Dd{C D E G:Prop}(c:C)(d:D)(e:E)(t:C->D->E->G:=by intro c d e;(refine af1 e ?_;intros;apply wr);repeat' ((first|(refine AB rfl (fun h=>?_) (fun h=>?_)<;>(first|(simp[e]at h;done)|(simp[e]at h)|skip)<;>(first|(exfalso;omega)|skip))|((first|refine .inl ⟨1,_,d.1,?_⟩|refine⟨1,_,d.1,?_⟩);simp[CZ,C9,noX,Ct,C5,e];first|refine And.intro AP ?_|skip)|((first|refine .inl ⟨1,_,d.2.1,?_⟩|refine⟨1,_,d.2.1,?_⟩);simp[CZ,C9,noX,Ct,C5,e];first|refine And.intro AP ?_|skip)|refine cc1 c.1 e ?_|refine cc1 c.2.1 e ?_|refine cc1 c.2.2.1 e ?_|refine cc1 c.2.2.2.1 e ?_|refine cc1 c.2.2.2.2.1 e ?_|refine cc1 c.2.2.2.2.2.1 e ?_|(refine AG (rid:=4) 5 [0,1,0,3,15] [(4,([[],[0],[],[0,1]],[(2,1),(2,3)])),(1,([],[]))] ?_)|(refine AG (rid:=6) 5 [0,1,0,3,15] [(4,([[],[0],[],[0,1]],[(2,1),(2,3)])),(1,([],[]))] ?_)|(refine AG (rid:=8) 10 [0,0,2,0,8,0,56,120,255,511] [(8,([[],[],[1],[],[3],[],[3,4,5],[3,4,5,6]],[])),(1,([],[])),(1,([],[]))] ?_)|(refine AG (rid:=10) 11 [0,0,2,6,0,16,0,112,240,511,1023] [(9,([[],[],[1],[1,2],[],[4],[],[4,5,6],[4,5,6,7]],[])),(1,([],[])),(1,([],[]))] ?_)|(refine AG (rid:=14) 10 [0,1,3,0,8,0,56,120,255,511] [(8,([[],[0],[0,1],[],[3],[],[3,4,5],[3,4,5,6]],[])),(1,([],[])),(1,([],[]))] ?_)|(refine AG (rid:=22) 4 [0,0,1,7] [(3,([[],[],[0]],[(1,2)])),(1,([],[]))] ?_)|exact rt1 e|fail)<;>(refine af1 e ?_;intros;apply wr))):G:=t c d e
theorem IZ{C D E G:Prop}(c:C)(d:D)(e:E)(t:C->D->E->G:=by intro c d e;(refine af1 e ?_;intros;apply wr);repeat' ((first|(refine AB rfl (fun h=>?_) (fun h=>?_)<;>(first|(simp[e]at h;done)|(simp[e]at h)|skip)<;>(first|(exfalso;omega)|skip))|((first|refine .inl ⟨1,_,d.1,?_⟩|refine⟨1,_,d.1,?_⟩);simp[CZ,C9,noX,Ct,C5,e];first|refine And.intro AP ?_|skip)|((first|refine .inl ⟨1,_,d.2.1,?_⟩|refine⟨1,_,d.2.1,?_⟩);simp[CZ,C9,noX,Ct,C5,e];first|refine And.intro AP ?_|skip)|refine cc1 c.1 e ?_|refine cc1 c.2.1 e ?_|refine cc1 c.2.2.1 e ?_|refine cc1 c.2.2.2.1 e ?_|refine cc1 c.2.2.2.2.1 e ?_|refine cc1 c.2.2.2.2.2.1 e ?_|(refine AG (rid:=11) 10 [0,1,0,7,15,0,32,96,255,511] [(8,([[],[0],[],[0,1,2],[0,1,2,3],[],[5],[5,6]],[])),(1,([],[])),(1,([],[]))] ?_)|(refine AG (rid:=3) 13 [0,1,0,4,0,28,60,0,128,0,896,1920,4095] [(12,([[],[0],[],[2],[],[2,3,4],[2,3,4,5],[],[7],[],[7,8,9],[7,8,9,10]],[])),(1,([],[]))] ?_)|exact rt1 e|fail)<;>(refine af1 e ?_;intros;apply wr))):G:=t c d e
abbrev J5(c:CpuD)(i:InstD):Prop:=AC prog 204 [.st c.row,.st i.row] (.tup [.st (AD c i).1.row,.st (AD c i).2.row])
abbrev V5(c:CpuD)(i:InstD):Prop:=AC prog 205 [.st c.row,.st i.row] (.st (AD c i).1.row)
theorem dA(c:CpuD)(i:InstD)(hc:OkC c)(hi:OkI i)(hop:i.op=56):J5 c i:=by
 obtain⟨a0,a1,b0,b1,c0,c1⟩:=hi;have g:=AN c b0 b1;have ga:=AN c a0 a1;have hE:AD c i=(BN c 7 0,Ax):=by unfold AD;simp[hop]
 unfold J5;rw[hE];refine sZ func204 ntmps204 ?_;exact Dd (qX1 (CL c 7 0 hc)) trivial (kX6 @g @ga @hop @Al @CpuD.setP.eq_1 @Ax.eq_1)
theorem dB(c:CpuD)(i:InstD)(hc:OkC c)(hi:OkI i)(hop:i.op=57):J5 c i:=by
 obtain⟨a0,a1,b0,b1,c0,c1⟩:=hi;have g:=AN c b0 b1;have ga:=AN c a0 a1;have hE:AD c i=(O0 c,Ax):=by unfold AD;simp[hop]
 unfold J5;rw[hE];refine sZ func204 ntmps204 ?_;exact Dd (qX1 (RX c hc)) trivial (kX6 @g @ga @hop @Al @CpuD.setP.eq_1 @Ax.eq_1)
theorem dC(c:CpuD)(i:InstD)(hc:OkC c)(hi:OkI i)(hop:i.op=58)(k0:0<=i.imm)(k1:i.imm<=7):J5 c i:=by
 obtain⟨a0,a1,b0,b1,c0,c1⟩:=hi;have g:=AN c b0 b1;have ga:=AN c a0 a1;have hE:AD c i=((c.setR i.a (c.csr i.imm.toNat)).setP (uw (c.pc+4)),Ax):=by unfold AD;simp[hop]
 unfold J5;rw[hE];refine sZ func204 ntmps204 ?_;exact Dd (qX1 (Cz c i.a (c.csr i.imm.toNat) a0 a1)) trivial (kX7 @g @ga @hop @Al @CpuD.setP.eq_1 @Ax.eq_1 (S8 c k0 k1))
theorem dD(c:CpuD)(i:InstD)(hc:OkC c)(hi:OkI i)(hop:i.op=59)(k0:0<=i.imm)(k1:i.imm<=7):J5 c i:=by
 obtain⟨a0,a1,b0,b1,c0,c1⟩:=hi;have g:=AN c b0 b1;have ga:=AN c a0 a1;have hE:AD c i=((Bs c i.imm (c.x i.a.toNat)).setP (uw (c.pc+4)),Ax):=by unfold AD;simp[hop]
 unfold J5;rw[hE];refine sZ func204 ntmps204 ?_;exact Dd (qX1 (Uo c i.imm (c.x i.a.toNat) k0 k1)) trivial (kX8 @g @ga @hop @Al @CpuD.setP.eq_1 @Ax.eq_1 @NW (HH k0 k1))
theorem dE(c:CpuD)(i:InstD)(hc:OkC c)(hi:OkI i)(hop:i.op=60)(k0:0<=i.imm)(k1:i.imm<=11):J5 c i:=by
 obtain⟨a0,a1,b0,b1,c0,c1⟩:=hi;have g:=AN c b0 b1;have ga:=AN c a0 a1;have hE:AD c i=(c.setP (uw (c.pc+4)),⟨1,i.imm,i.a,0⟩):=by unfold AD;simp[hop]
 unfold J5;rw[hE];refine sZ func204 ntmps204 ?_;exact Dd trivial trivial (kX7 @g @ga @hop @Al @CpuD.setP.eq_1 @Ax.eq_1 (HH k0 k1))
theorem dF(c:CpuD)(i:InstD)(hc:OkC c)(hi:OkI i)(hop:i.op=61)(k0:0<=i.imm)(k1:i.imm<=11):J5 c i:=by
 obtain⟨a0,a1,b0,b1,c0,c1⟩:=hi;have g:=AN c b0 b1;have ga:=AN c a0 a1;have hE:AD c i=(c.setP (uw (c.pc+4)),⟨2,i.imm,0,c.x i.a.toNat⟩):=by unfold AD;simp[hop]
 unfold J5;rw[hE];refine sZ func204 ntmps204 ?_;exact Dd trivial trivial (kX7 @g @ga @hop @Al @CpuD.setP.eq_1 @Ax.eq_1 (HH k0 k1))
theorem dG(c:CpuD)(i:InstD)(hc:OkC c)(hi:OkI i)(hop:i.op=62):J5 c i:=by
 obtain⟨a0,a1,b0,b1,c0,c1⟩:=hi;have g:=AN c b0 b1;have ga:=AN c a0 a1;have hE:AD c i=(c.setP (uw (c.pc+4)),⟨3,0,0,0⟩):=by unfold AD;simp[hop]
 unfold J5;rw[hE];refine sZ func204 ntmps204 ?_;exact Dd trivial trivial (kX6 @g @ga @hop @Al @CpuD.setP.eq_1 @Ax.eq_1)
theorem dH(c:CpuD)(i:InstD)(hc:OkC c)(hi:OkI i)(hop:i.op=63):J5 c i:=by
 obtain⟨a0,a1,b0,b1,c0,c1⟩:=hi;have g:=AN c b0 b1;have ga:=AN c a0 a1;have hE:AD c i=(c.setP (uw (c.pc+4)),⟨5,0,0,0⟩):=by unfold AD;simp[hop]
 unfold J5;rw[hE];refine sZ func204 ntmps204 ?_;exact Dd trivial trivial (kX6 @g @ga @hop @Al @CpuD.setP.eq_1 @Ax.eq_1)
theorem dI(c:CpuD)(i:InstD)(hc:OkC c)(hi:OkI i)(hop:i.op=64):J5 c i:=by
 obtain⟨a0,a1,b0,b1,c0,c1⟩:=hi;have g:=AN c b0 b1;have ga:=AN c a0 a1;have hE:AD c i=(c.setP (uw (c.pc+4)),⟨4,0,0,0⟩):=by unfold AD;simp[hop]
 unfold J5;rw[hE];refine sZ func204 ntmps204 ?_;exact Dd trivial trivial (kX6 @g @ga @hop @Al @CpuD.setP.eq_1 @Ax.eq_1)
theorem cU(c:CpuD)(i:InstD)(hc:OkC c)(hi:OkI i)(hop:i.op=48):V5 c i:=by
 obtain⟨a0,a1,b0,b1,c0,c1⟩:=hi;have g:=AN c b0 b1;have ga:=AN c a0 a1;have hE:AD c i=((c.setR i.a (uw (c.pc+4))).setP (uw (c.pc+uw (4*uw i.imm))),Ax):=by unfold AD;simp[hop]
 unfold V5;rw[hE];refine sZ func205 ntmps205 ?_;exact IZ (qX1 (Cz c i.a (uw (c.pc+4)) a0 a1)) trivial (kX6 @g @ga @hop @Al @CpuD.setP.eq_1 @Ax.eq_1)
theorem cV(c:CpuD)(i:InstD)(hc:OkC c)(hi:OkI i)(hop:i.op=49):V5 c i:=by
 obtain⟨a0,a1,b0,b1,c0,c1⟩:=hi;have g:=AN c b0 b1;have ga:=AN c a0 a1;have hE:AD c i=((c.setR i.a (uw (c.pc+4))).setP (uw (c.x i.b.toNat+uw i.imm)),Ax):=by unfold AD;simp[hop]
 unfold V5;rw[hE];refine sZ func205 ntmps205 ?_;exact IZ (qX1 (Cz c i.a (uw (c.pc+4)) a0 a1)) trivial (kX6 @g @ga @hop @Al @CpuD.setP.eq_1 @Ax.eq_1)
theorem rxB_ok(c:CpuD)(i:InstD)(hc:OkC c)(hi:OkI i)(hh:i.op=40\/i.op=41\/i.op=42\/i.op=43\/i.op=44\/i.op=45):V5 c i:=by
 obtain⟨a0,a1,b0,b1,c0,c1⟩:=hi;have g:=AN c b0 b1;have ga:=AN c a0 a1;have hE:AD c i=(c.setP (if Gq i.op (c.x i.a.toNat) (c.x i.b.toNat)=true then uw (c.pc+uw (4*uw i.imm))else uw (c.pc+4)),Ax):=by unfold AD;rw[if_neg (by omega),if_pos (by omega)]
 have ht:=Uh i.op (c.x i.a.toNat) (c.x i.b.toNat);have d1:¬i.op=48:=by omega
 have d2:¬i.op=49:=by omega
 unfold V5;rw[hE];generalize Gq i.op (c.x i.a.toNat) (c.x i.b.toNat)=t at *;cases t
 ·refine sZ func205 ntmps205 ?_;exact IZ (qX1 (ht)) trivial (kX6 @g @ga @d1 @d2 @CpuD.setP.eq_1 @Ax.eq_1)
 refine sZ func205 ntmps205 ?_;exact IZ (qX1 (ht)) trivial (kX6 @g @ga @d1 @d2 @CpuD.setP.eq_1 @Ax.eq_1)
@[simp] theorem nn1(n:Nat):(n=n+1)=False:=by simp
@[simp] theorem nn2(n:Nat):(n+1=n)=False:=by simp
@[simp] theorem nn3(n:Nat):(n=n+1+1)=False:=by apply eq_false;omega
@[simp] theorem nn4(n:Nat):(n+1+1=n)=False:=by apply eq_false;omega
@[simp] theorem nn5(n:Nat):(n=n+1+1+1)=False:=by apply eq_false;omega
@[simp] theorem nn6(n:Nat):(n+1+1+1=n)=False:=by apply eq_false;omega
theorem Xj{nx:Nat}{ob:List (Nat×Option Ob)}(j:Nat)(c:CpuD)(l:List Int)(i:InstD)(hc:OkC c)(hl:OkW l)(hi:OkI i)(hop:i.op=35)(hj:lookO ob j=some (EF l))(hjn:j<nx):
  Bt prog 206 [.st c.row,.own j,.st i.row] nx ob fun r nx' ob'=>r=.st (AX c l i).1.row/\CY nx ob j (AX c l i).2 nx' ob':=by
 obtain⟨a0,a1,b0,b1,c0,c1⟩:=hi;have g:=AN c b0 b1;have ga:=AN c a0 a1;obtain⟨va,hva⟩:∃va,va=uw (c.x i.b.toNat+uw i.imm):=⟨_,rfl⟩;have hv:W32 va:=by rw[hva];exact E8 _
 have va':IntKind.u32.wrap (c.x i.b.toNat+IntKind.u32.wrap i.imm)=va:=hva.symm;have n1:¬j=nx:=by omega
 have n2:¬j=nx+1:=by omega
 have n3:¬j=nx+1+1:=by omega
 have o1:¬nx=j:=by omega
 have o2:¬nx+1=j:=by omega
 have o3:¬nx+1+1=j:=by omega
 obtain⟨R,hR⟩:∃R,R=AE c l va 4 3:=⟨_,rfl⟩;have hin:=C2 (c:=c) (l:=l) (va:=va) (s:=4) (acc:=3) (by omega) (by decide) hc hv;have hn:=BI c l va 4 3;have hw:=CE (c:=c) (va:=va) (s:=4) (acc:=3) hl;have hE:AX c l i=(if R.2.2≠0 then(BN c R.2.2 va,R.2.1)else(c.setP (uw (c.pc+4)),C6 R.2.1 R.1 4 (c.x i.a.toNat))):=by
  rw[hR,hva];simp only[AX,AY,hop];rfl
 have hr:∀{nx:Nat}{ob:List (Nat×Option Ob)},lookO ob j=some (EF l)->j<nx->Bt prog 202 [.st c.row,.own j,uv va,iv 4,iv 3] nx ob fun r nx' ob'=>r=.tup [uv R.1,iv R.2.2]/\CY nx ob j R.2.1 nx' ob':=fun h1 h2=>by
  rw[hR];exact EZ j c l va 4 3 hc hv (by omega) (by omega) h1 h2
 rw[<- hR]at hin hn hw;obtain⟨a,m,k⟩:=R;simp only at hin hn hw hr hE;refine sIY func206 ntmps206 (kX2 @g @hop) ?_;intros;apply wr;refine AG 10 [0,1,0,7,15,0,32,96,255,511] [(8,([[],[0],[],[0,1,2],[0,1,2,3],[],[5],[5,6]],[])),(1,([],[])),(1,([],[]))] ?_;refine af1 (kX3 @g @hop @va') ?_;refine af1 (kX3 @g @hop @va') ?_;refine Ce @hop @hop ?_;refine Ce @hop @hop ?_;intros;apply wr;refine cO ?_;refine(hr (by simp[lookO,n1,n2,n3,hj]) (by omega)).mono fun r nx' ob' hp=>?_;simp only[BS];obtain⟨rfl,g1,g2,g3⟩:=hp;have y1:=g3 nx (by omega) (by omega);have y2:=g3 (nx+1) (by omega) (by omega);have y3:=g3 (nx+1+1) (by omega) (by omega);simp[lookO]at y1 y2 y3;simp;refine af ?_;intros;apply wr;by_cases hk:k=0
 ·obtain⟨i1,i2⟩:=hin hk;have hx:=Bf i1 i2.1;rw[<- hn]at hx;have i3:AS m a 4=true:=by rw[BR hn];exact i1
  refine Ae @hk ?_;refine TI (kX4 @y1 @y2 @ga @hop) ?_;intros;apply wr;have e1:AX c l i=(c.setP (uw (c.pc+4)),C6 m a 4 (c.x i.a.toNat)):=by rw[hE,if_neg (by simp[hk])]
  refine cO ?_;refine(Xi j m a (c.x i.a.toNat) i2 g2 hx).mono fun r nx' ob' hp=>?_;simp only[BS];obtain⟨rfl,rfl,rfl⟩:=hp;simp;refine af1 (kX6 @y1 @y2 @y3 @o1 @o2 @o3) ?_;intros;apply wr;refine ar ?_;simp[CpuD.setP,e1];refine⟨by omega,by simp[lookO,n1,n2,n3,g2],fun i h1 h2=>?_⟩;have r1:¬i=nx:=by omega
  have r2:¬i=nx+1:=by omega
  have r3:¬i=nx+1+1:=by omega
  have e:=g3 i (by omega) h2;simp[lookO,r1,r2,r3]at e;simp[lookO,r1,r2,r3,h2,e]
 have e1:AX c l i=(BN c k va,m):=by rw[hE,if_pos hk]
 refine Ce @hk @y1 ?_;refine cZf (CL c k va hc) @y3 @y3 ?_;intros;apply wr;refine ar ?_;simp[e1];refine⟨by omega,by simp[lookO,n1,n2,n3,g2],fun i h1 h2=>?_⟩;have r1:¬i=nx:=by omega
 have r2:¬i=nx+1:=by omega
 have r3:¬i=nx+1+1:=by omega
 have e:=g3 i (by omega) h2;simp[lookO,r1,r2,r3]at e;simp[lookO,r1,r2,r3,h2,e]
theorem Xk{nx:Nat}{ob:List (Nat×Option Ob)}(j:Nat)(c:CpuD)(l:List Int)(i:InstD)(hc:OkC c)(hl:OkW l)(hi:OkI i)(hop:i.op=36)(hj:lookO ob j=some (EF l))(hjn:j<nx):
  Bt prog 206 [.st c.row,.own j,.st i.row] nx ob fun r nx' ob'=>r=.st (AX c l i).1.row/\CY nx ob j (AX c l i).2 nx' ob':=by
 obtain⟨a0,a1,b0,b1,c0,c1⟩:=hi;have g:=AN c b0 b1;have ga:=AN c a0 a1;obtain⟨va,hva⟩:∃va,va=uw (c.x i.b.toNat+uw i.imm):=⟨_,rfl⟩;have hv:W32 va:=by rw[hva];exact E8 _
 have va':IntKind.u32.wrap (c.x i.b.toNat+IntKind.u32.wrap i.imm)=va:=hva.symm;have n1:¬j=nx:=by omega
 have n2:¬j=nx+1:=by omega
 have n3:¬j=nx+1+1:=by omega
 have o1:¬nx=j:=by omega
 have o2:¬nx+1=j:=by omega
 have o3:¬nx+1+1=j:=by omega
 obtain⟨R,hR⟩:∃R,R=AE c l va 1 3:=⟨_,rfl⟩;have hin:=C2 (c:=c) (l:=l) (va:=va) (s:=1) (acc:=3) (by omega) (by decide) hc hv;have hn:=BI c l va 1 3;have hw:=CE (c:=c) (va:=va) (s:=1) (acc:=3) hl;have hE:AX c l i=(if R.2.2≠0 then(BN c R.2.2 va,R.2.1)else(c.setP (uw (c.pc+4)),C6 R.2.1 R.1 1 (c.x i.a.toNat))):=by
  rw[hR,hva];simp only[AX,AY,hop];rfl
 have hr:∀{nx:Nat}{ob:List (Nat×Option Ob)},lookO ob j=some (EF l)->j<nx->Bt prog 202 [.st c.row,.own j,uv va,iv 1,iv 3] nx ob fun r nx' ob'=>r=.tup [uv R.1,iv R.2.2]/\CY nx ob j R.2.1 nx' ob':=fun h1 h2=>by
  rw[hR];exact EZ j c l va 1 3 hc hv (by omega) (by omega) h1 h2
 rw[<- hR]at hin hn hw;obtain⟨a,m,k⟩:=R;simp only at hin hn hw hr hE;refine sIY func206 ntmps206 (kX2 @g @hop) ?_;intros;apply wr;refine AG 10 [0,1,0,7,15,0,32,96,255,511] [(8,([[],[0],[],[0,1,2],[0,1,2,3],[],[5],[5,6]],[])),(1,([],[])),(1,([],[]))] ?_;refine af1 (kX3 @g @hop @va') ?_;refine af1 (kX3 @g @hop @va') ?_;refine EA @hop @hop ?_;refine Ce @hop @hop ?_;intros;apply wr;refine cO ?_;refine(hr (by simp[lookO,n1,n2,n3,hj]) (by omega)).mono fun r nx' ob' hp=>?_;simp only[BS];obtain⟨rfl,g1,g2,g3⟩:=hp;have y1:=g3 nx (by omega) (by omega);have y2:=g3 (nx+1) (by omega) (by omega);have y3:=g3 (nx+1+1) (by omega) (by omega);simp[lookO]at y1 y2 y3;simp;refine af ?_;intros;apply wr;by_cases hk:k=0
 ·obtain⟨i1,i2⟩:=hin hk;have hx:=Bf i1 i2.1;rw[<- hn]at hx;have i3:AS m a 1=true:=by rw[BR hn];exact i1
  refine Ae @hk ?_;refine TI (kX4 @y1 @y2 @ga @hop) ?_;intros;apply wr;have e1:AX c l i=(c.setP (uw (c.pc+4)),C6 m a 1 (c.x i.a.toNat)):=by rw[hE,if_neg (by simp[hk])]
  refine cO ?_;refine(QF j m a (c.x i.a.toNat) i2 hw g2 hx).mono fun r nx' ob' hp=>?_;simp only[BS];obtain⟨rfl,rfl,rfl⟩:=hp;simp;refine af1 (kX6 @y1 @y2 @y3 @o1 @o2 @o3) ?_;intros;apply wr;refine ar ?_;simp[CpuD.setP,e1];refine⟨by omega,by simp[lookO,n1,n2,n3,g2],fun i h1 h2=>?_⟩;have r1:¬i=nx:=by omega
  have r2:¬i=nx+1:=by omega
  have r3:¬i=nx+1+1:=by omega
  have e:=g3 i (by omega) h2;simp[lookO,r1,r2,r3]at e;simp[lookO,r1,r2,r3,h2,e]
 have e1:AX c l i=(BN c k va,m):=by rw[hE,if_pos hk]
 refine Ce @hk @y1 ?_;refine cZf (CL c k va hc) @y3 @y3 ?_;intros;apply wr;refine ar ?_;simp[e1];refine⟨by omega,by simp[lookO,n1,n2,n3,g2],fun i h1 h2=>?_⟩;have r1:¬i=nx:=by omega
 have r2:¬i=nx+1:=by omega
 have r3:¬i=nx+1+1:=by omega
 have e:=g3 i (by omega) h2;simp[lookO,r1,r2,r3]at e;simp[lookO,r1,r2,r3,h2,e]
theorem X8{nx:Nat}{ob:List (Nat×Option Ob)}(j:Nat)(c:CpuD)(l:List Int)(i:InstD)(hc:OkC c)(hl:OkW l)(hi:OkI i)(hop:i.op=32)(hj:lookO ob j=some (EF l))(hjn:j<nx):
  Bt prog 206 [.st c.row,.own j,.st i.row] nx ob fun r nx' ob'=>r=.st (Ac c l i).1.row/\CY nx ob j (Ac c l i).2 nx' ob':=by
 obtain⟨a0,a1,b0,b1,c0,c1⟩:=hi;have g:=AN c b0 b1;have ga:=AN c a0 a1;obtain⟨va,hva⟩:∃va,va=uw (c.x i.b.toNat+uw i.imm):=⟨_,rfl⟩;have hv:W32 va:=by rw[hva];exact E8 _
 have va':IntKind.u32.wrap (c.x i.b.toNat+IntKind.u32.wrap i.imm)=va:=hva.symm;have n1:¬j=nx:=by omega
 have n2:¬j=nx+1:=by omega
 have n3:¬j=nx+1+1:=by omega
 have o1:¬nx=j:=by omega
 have o2:¬nx+1=j:=by omega
 have o3:¬nx+1+1=j:=by omega
 obtain⟨R,hR⟩:∃R,R=AE c l va 4 2:=⟨_,rfl⟩;have hin:=C2 (c:=c) (l:=l) (va:=va) (s:=4) (acc:=2) (by omega) (by decide) hc hv;have hn:=BI c l va 4 2;have hw:=CE (c:=c) (va:=va) (s:=4) (acc:=2) hl;have hE:Ac c l i=(if R.2.2≠0 then(BN c R.2.2 va,R.2.1)else(((c.setR i.a (By R.2.1 R.1 4)).setP (uw (c.pc+4))),R.2.1)):=by
  rw[hR,hva];simp only[Ac,AY,hop];rfl
 have hr:∀{nx:Nat}{ob:List (Nat×Option Ob)},lookO ob j=some (EF l)->j<nx->Bt prog 202 [.st c.row,.own j,uv va,iv 4,iv 2] nx ob fun r nx' ob'=>r=.tup [uv R.1,iv R.2.2]/\CY nx ob j R.2.1 nx' ob':=fun h1 h2=>by
  rw[hR];exact EZ j c l va 4 2 hc hv (by omega) (by omega) h1 h2
 rw[<- hR]at hin hn hw;obtain⟨a,m,k⟩:=R;simp only at hin hn hw hr hE;refine sIY func206 ntmps206 (kX2 @g @hop) ?_;intros;apply wr;refine AG 10 [0,1,0,7,15,0,32,96,255,511] [(8,([[],[0],[],[0,1,2],[0,1,2,3],[],[5],[5,6]],[])),(1,([],[])),(1,([],[]))] ?_;refine af1 (kX3 @g @hop @va') ?_;refine af1 (kX3 @g @hop @va') ?_;refine Ce @hop @hop ?_;refine EA @hop @hop ?_;intros;apply wr;refine cO ?_;refine(hr (by simp[lookO,n1,n2,n3,hj]) (by omega)).mono fun r nx' ob' hp=>?_;simp only[BS];obtain⟨rfl,g1,g2,g3⟩:=hp;have y1:=g3 nx (by omega) (by omega);have y2:=g3 (nx+1) (by omega) (by omega);have y3:=g3 (nx+1+1) (by omega) (by omega);simp[lookO]at y1 y2 y3;simp;refine af ?_;intros;apply wr;by_cases hk:k=0
 ·obtain⟨i1,i2⟩:=hin hk;have hx:=Bf i1 i2.1;rw[<- hn]at hx;have i3:AS m a 4=true:=by rw[BR hn];exact i1
  refine Ae @hk ?_;refine Kp (kX4 @y1 @y2 @ga @hop) ?_;intros;apply wr;have e1:Ac c l i=((c.setR i.a (By m a 4)).setP (uw (c.pc+4)),m):=by rw[hE,if_neg (by simp[hk])]
  refine cO ?_;refine(QB j m a 4 g2 (by omega) i2).mono fun r nx' ob' hp=>?_;simp only[BS];obtain⟨rfl,rfl,rfl⟩:=hp;simp[i3];refine af1 (kX6 @y1 @y2 @y3 @o1 @o2 @o3) ?_;refine EA @hop (kX4 @y1 @y2 @y3 @hop) ?_;refine cZf (Cz c i.a (By m a 4) a0 a1) (kX3 @y1 @y2 @y3) (kX3 @y1 @y2 @y3) ?_;intros;apply wr;refine ar ?_;simp[CpuD.setP,e1,Al];refine⟨by omega,by simp[lookO,n1,n2,n3,g2],fun i h1 h2=>?_⟩;have r1:¬i=nx:=by omega
  have r2:¬i=nx+1:=by omega
  have r3:¬i=nx+1+1:=by omega
  have e:=g3 i (by omega) h2;simp[lookO,r1,r2,r3]at e;simp[lookO,r1,r2,r3,h2,e]
 have e1:Ac c l i=(BN c k va,m):=by rw[hE,if_pos hk]
 refine Ce @hk @y1 ?_;refine cZf (CL c k va hc) @y3 @y3 ?_;intros;apply wr;refine ar ?_;simp[e1];refine⟨by omega,by simp[lookO,n1,n2,n3,g2],fun i h1 h2=>?_⟩;have r1:¬i=nx:=by omega
 have r2:¬i=nx+1:=by omega
 have r3:¬i=nx+1+1:=by omega
 have e:=g3 i (by omega) h2;simp[lookO,r1,r2,r3]at e;simp[lookO,r1,r2,r3,h2,e]
theorem Xb{nx:Nat}{ob:List (Nat×Option Ob)}(j:Nat)(c:CpuD)(l:List Int)(i:InstD)(hc:OkC c)(hl:OkW l)(hi:OkI i)(hop:i.op=34)(hj:lookO ob j=some (EF l))(hjn:j<nx):
  Bt prog 206 [.st c.row,.own j,.st i.row] nx ob fun r nx' ob'=>r=.st (Ac c l i).1.row/\CY nx ob j (Ac c l i).2 nx' ob':=by
 obtain⟨a0,a1,b0,b1,c0,c1⟩:=hi;have g:=AN c b0 b1;have ga:=AN c a0 a1;obtain⟨va,hva⟩:∃va,va=uw (c.x i.b.toNat+uw i.imm):=⟨_,rfl⟩;have hv:W32 va:=by rw[hva];exact E8 _
 have va':IntKind.u32.wrap (c.x i.b.toNat+IntKind.u32.wrap i.imm)=va:=hva.symm;have n1:¬j=nx:=by omega
 have n2:¬j=nx+1:=by omega
 have n3:¬j=nx+1+1:=by omega
 have o1:¬nx=j:=by omega
 have o2:¬nx+1=j:=by omega
 have o3:¬nx+1+1=j:=by omega
 obtain⟨R,hR⟩:∃R,R=AE c l va 1 2:=⟨_,rfl⟩;have hin:=C2 (c:=c) (l:=l) (va:=va) (s:=1) (acc:=2) (by omega) (by decide) hc hv;have hn:=BI c l va 1 2;have hw:=CE (c:=c) (va:=va) (s:=1) (acc:=2) hl;have hE:Ac c l i=(if R.2.2≠0 then(BN c R.2.2 va,R.2.1)else(((c.setR i.a (By R.2.1 R.1 1)).setP (uw (c.pc+4))),R.2.1)):=by
  rw[hR,hva];simp only[Ac,AY,hop];rfl
 have hr:∀{nx:Nat}{ob:List (Nat×Option Ob)},lookO ob j=some (EF l)->j<nx->Bt prog 202 [.st c.row,.own j,uv va,iv 1,iv 2] nx ob fun r nx' ob'=>r=.tup [uv R.1,iv R.2.2]/\CY nx ob j R.2.1 nx' ob':=fun h1 h2=>by
  rw[hR];exact EZ j c l va 1 2 hc hv (by omega) (by omega) h1 h2
 rw[<- hR]at hin hn hw;obtain⟨a,m,k⟩:=R;simp only at hin hn hw hr hE;refine sIY func206 ntmps206 (kX2 @g @hop) ?_;intros;apply wr;refine AG 10 [0,1,0,7,15,0,32,96,255,511] [(8,([[],[0],[],[0,1,2],[0,1,2,3],[],[5],[5,6]],[])),(1,([],[])),(1,([],[]))] ?_;refine af1 (kX3 @g @hop @va') ?_;refine af1 (kX3 @g @hop @va') ?_;refine EA @hop @hop ?_;refine EA @hop @hop ?_;intros;apply wr;refine cO ?_;refine(hr (by simp[lookO,n1,n2,n3,hj]) (by omega)).mono fun r nx' ob' hp=>?_;simp only[BS];obtain⟨rfl,g1,g2,g3⟩:=hp;have y1:=g3 nx (by omega) (by omega);have y2:=g3 (nx+1) (by omega) (by omega);have y3:=g3 (nx+1+1) (by omega) (by omega);simp[lookO]at y1 y2 y3;simp;refine af ?_;intros;apply wr;by_cases hk:k=0
 ·obtain⟨i1,i2⟩:=hin hk;have hx:=Bf i1 i2.1;rw[<- hn]at hx;have i3:AS m a 1=true:=by rw[BR hn];exact i1
  refine Ae @hk ?_;refine Kp (kX4 @y1 @y2 @ga @hop) ?_;intros;apply wr;have e1:Ac c l i=((c.setR i.a (By m a 1)).setP (uw (c.pc+4)),m):=by rw[hE,if_neg (by simp[hk])]
  refine cO ?_;refine(QB j m a 1 g2 (by omega) i2).mono fun r nx' ob' hp=>?_;simp only[BS];obtain⟨rfl,rfl,rfl⟩:=hp;simp[i3];refine af1 (kX6 @y1 @y2 @y3 @o1 @o2 @o3) ?_;refine EA @hop (kX4 @y1 @y2 @y3 @hop) ?_;refine cZf (Cz c i.a (By m a 1) a0 a1) (kX3 @y1 @y2 @y3) (kX3 @y1 @y2 @y3) ?_;intros;apply wr;refine ar ?_;simp[CpuD.setP,e1,Al];refine⟨by omega,by simp[lookO,n1,n2,n3,g2],fun i h1 h2=>?_⟩;have r1:¬i=nx:=by omega
  have r2:¬i=nx+1:=by omega
  have r3:¬i=nx+1+1:=by omega
  have e:=g3 i (by omega) h2;simp[lookO,r1,r2,r3]at e;simp[lookO,r1,r2,r3,h2,e]
 have e1:Ac c l i=(BN c k va,m):=by rw[hE,if_pos hk]
 refine Ce @hk @y1 ?_;refine cZf (CL c k va hc) @y3 @y3 ?_;intros;apply wr;refine ar ?_;simp[e1];refine⟨by omega,by simp[lookO,n1,n2,n3,g2],fun i h1 h2=>?_⟩;have r1:¬i=nx:=by omega
 have r2:¬i=nx+1:=by omega
 have r3:¬i=nx+1+1:=by omega
 have e:=g3 i (by omega) h2;simp[lookO,r1,r2,r3]at e;simp[lookO,r1,r2,r3,h2,e]
theorem X9{nx:Nat}{ob:List (Nat×Option Ob)}(j:Nat)(c:CpuD)(l:List Int)(i:InstD)(hc:OkC c)(hl:OkW l)(hi:OkI i)(hop:i.op=33)(hj:lookO ob j=some (EF l))(hjn:j<nx):
  Bt prog 206 [.st c.row,.own j,.st i.row] nx ob fun r nx' ob'=>r=.st (Ac c l i).1.row/\CY nx ob j (Ac c l i).2 nx' ob':=by
 obtain⟨a0,a1,b0,b1,c0,c1⟩:=hi;have g:=AN c b0 b1;have ga:=AN c a0 a1;obtain⟨va,hva⟩:∃va,va=uw (c.x i.b.toNat+uw i.imm):=⟨_,rfl⟩;have hv:W32 va:=by rw[hva];exact E8 _
 have va':IntKind.u32.wrap (c.x i.b.toNat+IntKind.u32.wrap i.imm)=va:=hva.symm;have n1:¬j=nx:=by omega
 have n2:¬j=nx+1:=by omega
 have n3:¬j=nx+1+1:=by omega
 have o1:¬nx=j:=by omega
 have o2:¬nx+1=j:=by omega
 have o3:¬nx+1+1=j:=by omega
 obtain⟨R,hR⟩:∃R,R=AE c l va 1 2:=⟨_,rfl⟩;have hin:=C2 (c:=c) (l:=l) (va:=va) (s:=1) (acc:=2) (by omega) (by decide) hc hv;have hn:=BI c l va 1 2;have hw:=CE (c:=c) (va:=va) (s:=1) (acc:=2) hl;have hE:Ac c l i=(if R.2.2≠0 then(BN c R.2.2 va,R.2.1)else(((c.setR i.a (Ft (By R.2.1 R.1 1))).setP (uw (c.pc+4))),R.2.1)):=by
  rw[hR,hva];simp only[Ac,AY,hop];rfl
 have hr:∀{nx:Nat}{ob:List (Nat×Option Ob)},lookO ob j=some (EF l)->j<nx->Bt prog 202 [.st c.row,.own j,uv va,iv 1,iv 2] nx ob fun r nx' ob'=>r=.tup [uv R.1,iv R.2.2]/\CY nx ob j R.2.1 nx' ob':=fun h1 h2=>by
  rw[hR];exact EZ j c l va 1 2 hc hv (by omega) (by omega) h1 h2
 rw[<- hR]at hin hn hw;obtain⟨a,m,k⟩:=R;simp only at hin hn hw hr hE;refine sIY func206 ntmps206 (kX2 @g @hop) ?_;intros;apply wr;refine AG 10 [0,1,0,7,15,0,32,96,255,511] [(8,([[],[0],[],[0,1,2],[0,1,2,3],[],[5],[5,6]],[])),(1,([],[])),(1,([],[]))] ?_;refine af1 (kX3 @g @hop @va') ?_;refine af1 (kX3 @g @hop @va') ?_;refine EA @hop @hop ?_;refine EA @hop @hop ?_;intros;apply wr;refine cO ?_;refine(hr (by simp[lookO,n1,n2,n3,hj]) (by omega)).mono fun r nx' ob' hp=>?_;simp only[BS];obtain⟨rfl,g1,g2,g3⟩:=hp;have y1:=g3 nx (by omega) (by omega);have y2:=g3 (nx+1) (by omega) (by omega);have y3:=g3 (nx+1+1) (by omega) (by omega);simp[lookO]at y1 y2 y3;simp;refine af ?_;intros;apply wr;by_cases hk:k=0
 ·obtain⟨i1,i2⟩:=hin hk;have hx:=Bf i1 i2.1;rw[<- hn]at hx;have i3:AS m a 1=true:=by rw[BR hn];exact i1
  refine Ae @hk ?_;refine Kp (kX4 @y1 @y2 @ga @hop) ?_;intros;apply wr;have e1:Ac c l i=((c.setR i.a (Ft (By m a 1))).setP (uw (c.pc+4)),m):=by rw[hE,if_neg (by simp[hk])]
  refine cO ?_;refine(QB j m a 1 g2 (by omega) i2).mono fun r nx' ob' hp=>?_;simp only[BS];obtain⟨rfl,rfl,rfl⟩:=hp;simp[i3];refine af1 (kX6 @y1 @y2 @y3 @o1 @o2 @o3) ?_;refine Eh @hop ?_;refine cYf (X4 (By m a 1) (F3 _ _).1 (F3 _ _).2) (kX4 @y1 @y2 @y3 @hop) ?_;refine cZf (Cz c i.a (Ft (By m a 1)) a0 a1) (kX3 @y1 @y2 @y3) (kX3 @y1 @y2 @y3) ?_;intros;apply wr;refine ar ?_;simp[CpuD.setP,e1,Al];refine⟨by omega,by simp[lookO,n1,n2,n3,g2],fun i h1 h2=>?_⟩;have r1:¬i=nx:=by omega
  have r2:¬i=nx+1:=by omega
  have r3:¬i=nx+1+1:=by omega
  have e:=g3 i (by omega) h2;simp[lookO,r1,r2,r3]at e;simp[lookO,r1,r2,r3,h2,e]
 have e1:Ac c l i=(BN c k va,m):=by rw[hE,if_pos hk]
 refine Ce @hk @y1 ?_;refine cZf (CL c k va hc) @y3 @y3 ?_;intros;apply wr;refine ar ?_;simp[e1];refine⟨by omega,by simp[lookO,n1,n2,n3,g2],fun i h1 h2=>?_⟩;have r1:¬i=nx:=by omega
 have r2:¬i=nx+1:=by omega
 have r3:¬i=nx+1+1:=by omega
 have e:=g3 i (by omega) h2;simp[lookO,r1,r2,r3]at e;simp[lookO,r1,r2,r3,h2,e]
theorem ZI(c:CpuD)(i:InstD)(hc:OkC c)(hv:validD i=true)(h56:56<=i.op):J5 c i:=by
 have hi:=CG hv;have hm:=NQ hv;rcases Ek (DC hv)with h|h|h|h|h|h|h|h|h|h|h|h|h|h|h
 ·omega
 ·omega
 ·omega
 ·omega
 ·omega
 ·omega
 ·exact dA c i hc hi h
 ·exact dB c i hc hi h
 ·rw[h]at hm;exact dC c i hc hi h (by have:=hm.1;simp[Bz,AI]at this;omega) (by have:=hm.2;simp[Ak,AI]at this;omega)
 ·rw[h]at hm;exact dD c i hc hi h (by have:=hm.1;simp[Bz,AI]at this;omega) (by have:=hm.2;simp[Ak,AI]at this;omega)
 ·rw[h]at hm;exact dE c i hc hi h (by have:=hm.1;simp[Bz,AI]at this;omega) (by have:=hm.2;simp[Ak,AI]at this;omega)
 ·rw[h]at hm;exact dF c i hc hi h (by have:=hm.1;simp[Bz,AI]at this;omega) (by have:=hm.2;simp[Ak,AI]at this;omega)
 ·exact dG c i hc hi h
 ·exact dH c i hc hi h
 exact dI c i hc hi h
theorem Yg(c:CpuD)(i:InstD)(hc:OkC c)(hv:validD i=true)(h0:40<=i.op)(h1:i.op<56):V5 c i:=by
 have hi:=CG hv;rcases Ek (DC hv)with h|h|h|h|h|h|h|h|h|h|h|h|h|h|h
 ·omega
 ·omega
 ·omega
 ·exact rxB_ok c i hc hi h
 ·exact cU c i hc hi h
 ·exact cV c i hc hi h
 all_goals omega
theorem Yb(c:CpuD)(i:InstD)(h:i.op<56):(AD c i).2=Ax:=by
 unfold AD;by_cases e1:i.op=24
 ·rw[if_pos e1]
 rw[if_neg e1];by_cases e2:40<=i.op/\i.op<=45
 ·rw[if_pos e2]
 rw[if_neg e2];by_cases e3:i.op=48
 ·rw[if_pos e3]
 rw[if_neg e3];by_cases e4:i.op=49
 ·rw[if_pos e4]
 rw[if_neg e4]
 iterate 9 rw[if_neg (by omega)]
noncomputable def OF(c:CpuD)(l:List Int)(i:InstD):CpuD×List Int:=if i.op<=34 then Ac c l i else AX c l i
theorem ZJ{nx:Nat}{ob:List (Nat×Option Ob)}(j:Nat)(c:CpuD)(l:List Int)(i:InstD)(hc:OkC c)(hl:OkW l)(hv:validD i=true)(h0:32<=i.op)(h1:i.op<40)(hj:lookO ob j=some (EF l))(hjn:j<nx):
  Bt prog 206 [.st c.row,.own j,.st i.row] nx ob fun r nx' ob'=>r=.st (OF c l i).1.row/\CY nx ob j (OF c l i).2 nx' ob':=by
 have hi:=CG hv;have h36:i.op<=36:=by rcases Ek (DC hv)with h|h|h|h|h|h|h|h|h|h|h|h|h|h|h<;>omega
 have hc5:i.op=32\/i.op=33\/i.op=34\/i.op=35\/i.op=36:=by omega
 unfold OF;rcases hc5 with h|h|h|h|h
 ·rw[if_pos (by omega)];exact X8 j c l i hc hl hi h hj hjn
 ·rw[if_pos (by omega)];exact X9 j c l i hc hl hi h hj hjn
 ·rw[if_pos (by omega)];exact Xb j c l i hc hl hi h hj hjn
 ·rw[if_neg (by omega)];exact Xj j c l i hc hl hi h hj hjn
 rw[if_neg (by omega)];exact Xk j c l i hc hl hi h hj hjn
theorem op_56{i:InstD}(hv:validD i=true):i.op<32->i.op=24\/(1<=i.op/\i.op<=13)\/(16<=i.op/\i.op<=23):=fun h=>by
 rcases Ek (DC hv)with h|h|h|h|h|h|h|h|h|h|h|h|h|h|h<;>omega
end Go.Proofs.YtjkmhmepljamoaaGreat
end
