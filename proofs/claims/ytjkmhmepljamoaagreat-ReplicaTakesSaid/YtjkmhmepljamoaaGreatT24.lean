/- A part of the proof of ReplicaTakes. -/
import Derived.Test.YtjkmhmepljamoaaGreatT18
set_option linter.all false
set_option maxHeartbeats 16000000
set_option maxRecDepth 100000
section
namespace Go.Proofs.YtjkmhmepljamoaaGreat
open Go.Ab Go.RowKit Tryz
theorem I1{C D E G:Prop}(c:C)(d:D)(e:E)(t:C->D->E->G:=by intro c d e;(refine af1 e ?_;intros;apply wr);repeat' ((first|(refine AB rfl (fun h=>?_) (fun h=>?_)<;>(first|(simp[e]at h;done)|(simp[e]at h)|skip)<;>(first|(exfalso;omega)|skip))|((first|refine .inl ⟨1,_,d.1,?_⟩|refine⟨1,_,d.1,?_⟩);simp[CZ,C9,noX,Ct,C5,e];first|refine And.intro AP ?_|skip)|((first|refine .inl ⟨1,_,d.2.1,?_⟩|refine⟨1,_,d.2.1,?_⟩);simp[CZ,C9,noX,Ct,C5,e];first|refine And.intro AP ?_|skip)|refine cc1 c.1 e ?_|refine cc1 c.2.1 e ?_|refine cc1 c.2.2.1 e ?_|refine cc1 c.2.2.2.1 e ?_|refine cc1 c.2.2.2.2.1 e ?_|refine cc1 c.2.2.2.2.2.1 e ?_|(refine AG 7 [0,0,2,6,14,1,63] [(6,([[],[],[1],[1,2],[1,2,3],[0]],[(2,5),(3,5),(4,5)])),(1,([],[]))] ?_)|exact rt1 e|fail)<;>(refine af1 e ?_;intros;apply wr))):G:=t c d e
theorem Qd(s:Str):AC prog 291 [.st [.str s]] (.bool (!decide (s=[]))):=by
 refine sZ func291 ntmps291 ?_;exact wx trivial trivial
theorem d6(s:Str)(n:Int)(h0:0<=n)(h1:n<=255):AC prog 173 [.st [.str s],.int .u8 n] (.tup [.st [.str (FT s (UInt8.ofNat n.toNat)).1],.bool (FT s (UInt8.ofNat n.toNat)).2]):=by
 have hb:Cf [.int .u8 n]:=⟨UInt8.ofNat n.toNat,by simp;omega⟩;refine sZ func173 ntmps173 ?_;exact wx1 trivial trivial (kX4 @FT.eq_1 @maxLen.eq_1 @hb @Eb.eq_1)
theorem WJ(s:Str)(p:Int)(hl:s.length<=1000):AC prog 241 [.st [.str s],iv p] (.tup [.st [.str (Ec s p).1],uv (Ec s p).2]):=by
 by_cases h0:p=0
 ·subst h0;cases s with
  | nil =>
   refine sX func241 ntmps241 ?_;have k:bC []=4294967295:=rfl;exact I1 trivial trivial (kX2 @Ec.eq_1 @k)
  | cons b r =>
   have w:=VH b;have k:bC (b::r)=b.toNat:=rfl;have hr:((r.length:Int)+1).toNat=r.length+1:=by omega
   refine sZ func241 ntmps241 ?_;exact I1 trivial trivial (kX4 @w @hr @Ec.eq_1 @k)
 by_cases h1:p=1
 ·subst h1;have w:IntKind.u32.wrap (s.length:Int)=s.length:=u32_in (by omega) (by omega);refine sZ func241 ntmps241 ?_;exact I1 trivial trivial (kX2 @w @Ec.eq_1)
 refine sZ func241 ntmps241 ?_;exact I1 trivial trivial (kX3 @h0 @h1 @Ec.eq_1)
theorem arm_ok(t:TimD)(v:Int):AC prog 246 [.st t.row,uv v] (.st (Vn v).row):=by
 refine sZ func246 ntmps246 ?_;exact wx1 trivial trivial @Vn.eq_1
theorem aQ(t:TimD):AC prog 172 [.st t.row] (.tup [.st (FC t).1.row,.bool (FC t).2]):=by
 refine sZ func172 ntmps172 ?_;exact wx1 trivial trivial @FC.eq_1
theorem YE(t:TimD):AC prog 242 [.st t.row] (uv (R9 t)):=by
 refine sZ func242 ntmps242 ?_;exact wx1 trivial trivial (kX2 @R9.eq_1 @b2w.eq_1)
theorem Ra(t:TimD):AC prog 290 [.st t.row] (.bool t.fired):=by
 refine sZ func290 ntmps290 ?_;exact wx trivial trivial
theorem WM(d:DskD)(p:Int):AC prog 243 [.st d.row,iv p] (uv (Nj d p)):=by
 refine sZ func243 ntmps243 ?_;exact wx1 trivial trivial @Nj.eq_1
theorem Jy(d:DskD):AC prog 292 [.st d.row] (.bool (CQ d)):=by
 refine sZ func292 ntmps292 ?_;exact wx1 trivial trivial @CQ.eq_1
theorem KX(d:DskD)(k:Int):AC prog 104 [.st d.row,lv k] (.tup [.st (BK d k).1.row,.bool (BK d k).2]):=by
 refine sZ func104 ntmps104 ?_;exact wx1 trivial trivial @BK.eq_1
theorem Wm(n:NicD)(p:Int):AC prog 244 [.st n.row,iv p] (uv (OH n p)):=by
 refine sZ func244 ntmps244 ?_;exact wx1 trivial trivial (kX3 @OH.eq_1 @b2w.eq_1 @D4)
theorem RB(n:NicD):AC prog 293 [.st n.row] (.bool n.received):=by
 refine sZ func293 ntmps293 ?_;exact wx trivial trivial
theorem Dg(l:List Int)(f:Int)(h:W32 f):AC prog 228 [DJ l,uv f] (.bool (decide (f<pagesD l))):=by
 have e1:IntKind.u64.wrap f=f:=u64_in h.1 (by have:=h.2;omega);have e2:IntKind.u64.wrap (pagesD l)=pagesD l:=u64_in (Aa l).1 (by have:=Aa l;omega);refine sZ func228 ntmps228 ?_;exact wx1 (qX1 (Cp l)) trivial (kX2 @e1 @e2)
theorem EV(l:List Int)(f:Int)(h:W32 f):AC prog 230 [DJ l,uv f] (.bool (decide (f<pagesD l))):=by
 have e1:IntKind.u64.wrap f=f:=u64_in h.1 (by have:=h.2;omega);have e2:IntKind.u64.wrap (pagesD l)=pagesD l:=u64_in (Aa l).1 (by have:=Aa l;omega);refine sZ func230 ntmps230 ?_;exact wx1 (qX1 (Cp l)) trivial (kX2 @e1 @e2)
end Go.Proofs.YtjkmhmepljamoaaGreat
end
