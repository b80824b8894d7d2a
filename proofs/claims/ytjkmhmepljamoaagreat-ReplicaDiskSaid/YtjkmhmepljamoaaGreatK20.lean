/- A part of the proof of ReplicaDisk. -/
import Derived.Test.YtjkmhmepljamoaaGreatK14
set_option linter.all false
set_option maxHeartbeats 16000000
set_option maxRecDepth 100000
section
namespace Go.Proofs.YtjkmhmepljamoaaGreat
open Go.Ab Go.RowKit Tryz
theorem Ii{C D E G:Prop}(c:C)(d:D)(e:E)(t:C->D->E->G:=by intro c d e;(refine af1 e ?_;intros;apply wr);repeat' ((first|(refine AB rfl (fun h=>?_) (fun h=>?_)<;>(first|(simp[e]at h;done)|(simp[e]at h)|skip)<;>(first|(exfalso;omega)|skip))|((first|refine .inl ⟨1,_,d.1,?_⟩|refine⟨1,_,d.1,?_⟩);simp[C0,Cd,noX,Cx,C9,e];first|refine And.intro AQ ?_|skip)|((first|refine .inl ⟨1,_,d.2.1,?_⟩|refine⟨1,_,d.2.1,?_⟩);simp[C0,Cd,noX,Cx,C9,e];first|refine And.intro AQ ?_|skip)|refine cc1 c.1 e ?_|refine cc1 c.2.1 e ?_|refine cc1 c.2.2.1 e ?_|refine cc1 c.2.2.2.1 e ?_|refine cc1 c.2.2.2.2.1 e ?_|refine cc1 c.2.2.2.2.2.1 e ?_|(refine AD 7 [0,0,2,6,14,1,63] [(6,([[],[],[1],[1,2],[1,2,3],[0]],[(2,5),(3,5),(4,5)])),(1,([],[]))] ?_)|exact rt1 e|fail)<;>(refine af1 e ?_;intros;apply wr))):G:=t c d e
theorem Qx(s:Str):AC prog 291 [.st [.str s]] (.bool (!decide (s=[]))):=by
 refine sZ func291 ntmps291 ?_;exact wx trivial trivial
theorem fU(s:Str)(n:Int)(h0:0<=n)(h1:n<=255):AC prog 173 [.st [.str s],.int .u8 n] (.tup [.st [.str (FZ s (UInt8.ofNat n.toNat)).1],.bool (FZ s (UInt8.ofNat n.toNat)).2]):=by
 have hb:Ch [.int .u8 n]:=⟨UInt8.ofNat n.toNat,by simp;omega⟩;refine sZ func173 ntmps173 ?_;exact wx1 trivial trivial (kX4 @FZ.eq_1 @maxLen.eq_1 @hb @Ec.eq_1)
theorem W6(s:Str)(p:Int)(hl:s.length<=1000):AC prog 241 [.st [.str s],iv p] (.tup [.st [.str (Ed s p).1],uv (Ed s p).2]):=by
 by_cases h0:p=0
 ·subst h0;cases s with
  | nil =>
   refine sX func241 ntmps241 ?_;have k:cF []=4294967295:=rfl;exact Ii trivial trivial (kX2 @Ed.eq_1 @k)
  | cons b r =>
   have w:=V4 b;have k:cF (b::r)=b.toNat:=rfl;have hr:((r.length:Int)+1).toNat=r.length+1:=by omega
   refine sZ func241 ntmps241 ?_;exact Ii trivial trivial (kX4 @w @hr @Ed.eq_1 @k)
 by_cases h1:p=1
 ·subst h1;have w:IntKind.u32.wrap (s.length:Int)=s.length:=u32_in;refine sZ func241 ntmps241 ?_;exact Ii trivial trivial (kX2 @w @Ed.eq_1)
 refine sZ func241 ntmps241 ?_;exact Ii trivial trivial (kX3 @h0 @h1 @Ed.eq_1)
theorem arm_ok(t:TimD)(v:Int):AC prog 246 [.st t.row,uv v] (.st (WM v).row):=by
 refine sZ func246 ntmps246 ?_;exact wx1 trivial trivial @WM.eq_1
theorem bU(t:TimD):AC prog 172 [.st t.row] (.tup [.st (FG t).1.row,.bool (FG t).2]):=by
 refine sZ func172 ntmps172 ?_;exact wx1 trivial trivial @FG.eq_1
theorem Y4(t:TimD):AC prog 242 [.st t.row] (uv (SA t)):=by
 refine sZ func242 ntmps242 ?_;exact wx1 trivial trivial (kX2 @SA.eq_1 @b2w.eq_1)
theorem SB(t:TimD):AC prog 290 [.st t.row] (.bool t.fired):=by
 refine sZ func290 ntmps290 ?_;exact wx trivial trivial
theorem W8(d:DskD)(p:Int):AC prog 243 [.st d.row,iv p] (uv (OB d p)):=by
 refine sZ func243 ntmps243 ?_;exact wx1 trivial trivial @OB.eq_1
theorem KU(d:DskD):AC prog 292 [.st d.row] (.bool (CL d)):=by
 refine sZ func292 ntmps292 ?_;exact wx1 trivial trivial @CL.eq_1
theorem Ha(d:DskD)(k:Int):AC prog 104 [.st d.row,lv k] (.tup [.st (Ag d k).1.row,.bool (Ag d k).2]):=by
 refine sZ func104 ntmps104 ?_;exact wx1 trivial trivial @Ag.eq_1
theorem XK(n:NicD)(p:Int):AC prog 244 [.st n.row,iv p] (uv (OX n p)):=by
 refine sZ func244 ntmps244 ?_;exact wx1 trivial trivial (kX3 @OX.eq_1 @b2w.eq_1 @D5)
theorem R9(n:NicD):AC prog 293 [.st n.row] (.bool n.received):=by
 refine sZ func293 ntmps293 ?_;exact wx trivial trivial
theorem Dm(l:List Int)(f:Int)(h:W32 f):AC prog 228 [DO l,uv f] (.bool (decide (f<pagesD l))):=by
 have e1:IntKind.u64.wrap f=f:=u64_in h.1 (by have:=h.2;omega);have e2:IntKind.u64.wrap (pagesD l)=pagesD l:=u64_in (Ad l).1 (by have:=Ad l;omega);refine sZ func228 ntmps228 ?_;exact wx1 (qX1 (Cq l)) trivial (kX2 @e1 @e2)
theorem EU(l:List Int)(f:Int)(h:W32 f):AC prog 230 [DO l,uv f] (.bool (decide (f<pagesD l))):=by
 have e1:IntKind.u64.wrap f=f:=u64_in h.1 (by have:=h.2;omega);have e2:IntKind.u64.wrap (pagesD l)=pagesD l:=u64_in (Ad l).1 (by have:=Ad l;omega);refine sZ func230 ntmps230 ?_;exact wx1 (qX1 (Cq l)) trivial (kX2 @e1 @e2)
theorem HM{C D E G:Prop}(c:C)(d:D)(e:E)(t:C->D->E->G:=by intro c d e;(refine af1 e ?_;intros;apply wr);repeat' ((first|(refine AB rfl (fun h=>?_) (fun h=>?_)<;>(first|(simp[e]at h;done)|(simp[e]at h)|skip)<;>(first|(exfalso;omega)|skip))|((first|refine .inl ⟨1,_,d.1,?_⟩|refine⟨1,_,d.1,?_⟩);simp[C0,Cd,noX,Cx,C9,e];first|refine And.intro AQ ?_|skip)|((first|refine .inl ⟨1,_,d.2.1,?_⟩|refine⟨1,_,d.2.1,?_⟩);simp[C0,Cd,noX,Cx,C9,e];first|refine And.intro AQ ?_|skip)|refine cc1 c.1 e ?_|refine cc1 c.2.1 e ?_|refine cc1 c.2.2.1 e ?_|refine cc1 c.2.2.2.1 e ?_|refine cc1 c.2.2.2.2.1 e ?_|refine cc1 c.2.2.2.2.2.1 e ?_|(refine BH (.node 2 3 (.leaf [0,1,2,3,4] (bN [0,0,2,7,15]) [(3,([[],[],[1]],[(0,2)])),(1,([],[])),(1,([],[]))]) (.leaf [0,1,3,2,4] (bN [0,0,1,7,15]) [(3,([[],[],[0]],[(1,2)])),(1,([],[])),(1,([],[]))])) (by kernel_rfl) (by kernel_rfl) ?_;simp only[PT.run];repeat' (with_reducible apply And.intro);all_goals (simp only[CE,iI,List.map_nil,iC,iK]))|exact rt1 e|fail)<;>(refine af1 e ?_;intros;apply wr))):G:=t c d e
theorem DJ{C D E G:Prop}(c:C)(d:D)(e:E)(t:C->D->E->G:=by intro c d e;(refine af1 e ?_;intros;apply wr);repeat' ((first|(refine AB rfl (fun h=>?_) (fun h=>?_)<;>(first|(simp[e]at h;done)|(simp[e]at h)|skip)<;>(first|(exfalso;omega)|skip))|((first|refine .inl ⟨1,_,d.1,?_⟩|refine⟨1,_,d.1,?_⟩);simp[C0,Cd,noX,Cx,C9,e];first|refine And.intro AQ ?_|skip)|((first|refine .inl ⟨1,_,d.2.1,?_⟩|refine⟨1,_,d.2.1,?_⟩);simp[C0,Cd,noX,Cx,C9,e];first|refine And.intro AQ ?_|skip)|refine cc1 c.1 e ?_|refine cc1 c.2.1 e ?_|refine cc1 c.2.2.1 e ?_|refine cc1 c.2.2.2.1 e ?_|refine cc1 c.2.2.2.2.1 e ?_|refine cc1 c.2.2.2.2.2.1 e ?_|(refine AD 6 [0,0,2,7,15,31] [(3,([[],[],[1]],[(0,2)])),(1,([],[])),(1,([],[])),(1,([],[]))] ?_)|exact rt1 e|fail)<;>(refine af1 e ?_;intros;apply wr))):G:=t c d e
theorem HL{C D E G:Prop}(c:C)(d:D)(e:E)(t:C->D->E->G:=by intro c d e;(refine af1 e ?_;intros;apply wr);repeat' ((first|(refine AB rfl (fun h=>?_) (fun h=>?_)<;>(first|(simp[e]at h;done)|(simp[e]at h)|skip)<;>(first|(exfalso;omega)|skip))|((first|refine .inl ⟨1,_,d.1,?_⟩|refine⟨1,_,d.1,?_⟩);simp[C0,Cd,noX,Cx,C9,e];first|refine And.intro AQ ?_|skip)|((first|refine .inl ⟨1,_,d.2.1,?_⟩|refine⟨1,_,d.2.1,?_⟩);simp[C0,Cd,noX,Cx,C9,e];first|refine And.intro AQ ?_|skip)|refine cc1 c.1 e ?_|refine cc1 c.2.1 e ?_|refine cc1 c.2.2.1 e ?_|refine cc1 c.2.2.2.1 e ?_|refine cc1 c.2.2.2.2.1 e ?_|refine cc1 c.2.2.2.2.2.1 e ?_|(refine AD 7 [0,0,0,0,14,31,63] [(5,([[],[],[],[],[1,2,3]],[(0,4)])),(1,([],[])),(1,([],[]))] ?_)|exact rt1 e|fail)<;>(refine af1 e ?_;intros;apply wr))):G:=t c d e
theorem HK{C D E G:Prop}(c:C)(d:D)(e:E)(t:C->D->E->G:=by intro c d e;(refine af1 e ?_;intros;apply wr);repeat' ((first|(refine AB rfl (fun h=>?_) (fun h=>?_)<;>(first|(simp[e]at h;done)|(simp[e]at h)|skip)<;>(first|(exfalso;omega)|skip))|((first|refine .inl ⟨1,_,d.1,?_⟩|refine⟨1,_,d.1,?_⟩);simp[C0,Cd,noX,Cx,C9,e];first|refine And.intro AQ ?_|skip)|((first|refine .inl ⟨1,_,d.2.1,?_⟩|refine⟨1,_,d.2.1,?_⟩);simp[C0,Cd,noX,Cx,C9,e];first|refine And.intro AQ ?_|skip)|refine cc1 c.1 e ?_|refine cc1 c.2.1 e ?_|refine cc1 c.2.2.1 e ?_|refine cc1 c.2.2.2.1 e ?_|refine cc1 c.2.2.2.2.1 e ?_|refine cc1 c.2.2.2.2.2.1 e ?_|(refine AD (rid:=2) 6 [0,0,2,7,15,31] [(3,([[],[],[1]],[(0,2)])),(1,([],[])),(1,([],[])),(1,([],[]))] ?_)|(refine AD (rid:=4) 16 [0,0,2,6,0,0,0,64,224,496,1023,2047,4095,4095,8191,32767] [(10,([[],[],[1],[1,2],[],[],[],[6],[5,6,7],[4,5,6,7,8]],[])),(1,([],[])),(1,([],[])),(3,([[],[],[0]],[])),(1,([],[]))] ?_)|exact rt1 e|fail)<;>(refine af1 e ?_;intros;apply wr))):G:=t c d e
abbrev H7(l:List OutD):V:=.sl 4 false (outs l)
theorem O9(o:OutD):outs [o]=[o.row]:=rfl
theorem Wy(d:DskD)(l:List Int)(k t:Int)(hf:W32 d.frame):AC prog 310 [.st d.row,DO l,iv k,lv t] (.tup [.st (Am d l k t).1.row,H7 (Am d l k t).2]):=by
 have hp:=Ad l;by_cases h1:d.state=0
 ·by_cases h2:d.blocks<=d.block
  ·have hE:Am d l k t=({d with state:=3},[]):=by unfold Am;rw[nG,if_pos (.inl h2)]
   rw[hE];refine sZ func310 ntmps310 ?_;exact HM trivial trivial (kX2 @h1 @h2)
  by_cases h3:d.frame<pagesD l
  ·have hE:Am d l k t=({d with state:=1,cmd:=k,opBlock:=d.block,opFrame:=d.frame,opData:=if k=2 then Bh l d.frame else []},
    [(Ag {d with state:=1,cmd:=k,opBlock:=d.block,opFrame:=d.frame,opData:=if k=2 then Bh l d.frame else []} t).1]):=by
    unfold Am;rw[nG,nG]
   rw[hE];have w1:IntKind.i64.wrap d.frame=d.frame:=AA (by have:=hf.1;omega) (by omega);have hP:=Oa l d.frame hf.1 h3;by_cases hk:k=2
   ·have hr:=Ha {d with state:=1,cmd:=k,opBlock:=d.block,opFrame:=d.frame,opData:=Bh l d.frame} t;simp only[hk,if_true]at hr ⊢;refine sZ func310 ntmps310 ?_;exact HM (qX3 (Dm l d.frame hf) (hP) (hr)) trivial (kX6 @h1 @h2 @h3 @w1 @O9 @D5)
   have hr:=Ha {d with state:=1,cmd:=k,opBlock:=d.block,opFrame:=d.frame,opData:=[]} t;simp only[hk,if_false]at hr ⊢;refine sZ func310 ntmps310 ?_;exact HM (qX2 (Dm l d.frame hf) (hr)) trivial (kX7 @h1 @h2 @h3 @hk @w1 @O9 @D5)
  have hE:Am d l k t=({d with state:=3},[]):=by unfold Am;rw[nG,if_pos (.inr (by omega))]
  rw[hE];refine sZ func310 ntmps310 ?_;exact HM (qX1 (Dm l d.frame hf)) trivial (kX3 @h1 @h2 @h3)
 have hE:Am d l k t=(d,[]):=by unfold Am;rw[if_pos h1]
 rw[hE];refine sZ func310 ntmps310 ?_;exact HM trivial trivial @h1
theorem TC(d:DskD)(l:List Int)(p v t:Int)(hf:W32 d.frame)(hv:W32 v):AC prog 247 [.st d.row,DO l,iv p,uv v,lv t] (.tup [.st (Ak d l p v t).1.row,H7 (Ak d l p v t).2]):=by
 have w1:IntKind.i64.wrap v=v:=AA (by have:=hv.1;omega) (by have:=hv.2;omega);have hi:=Wy d l v t hf;by_cases h4:p=4
 ·subst h4;refine sZ func247 ntmps247 ?_;exact wx1 trivial trivial @Ak.eq_1
 by_cases h5:p=5
 ·subst h5;refine sZ func247 ntmps247 ?_;exact wx1 trivial trivial @Ak.eq_1
 by_cases h6:p=6
 ·subst h6;by_cases h1:v=1\/v=2
  ·have hE:Ak d l 6 v t=Am d l v t:=by simp[Ak,h1]
   rw[hE];generalize Am d l v t=R at *;refine sZ func247 ntmps247 ?_;exact wx1 (qX1 (hi)) trivial @w1
  have n1:¬v=1:=fun q=>h1 (.inl q);have n2:¬v=2:=fun q=>h1 (.inr q);refine sZ func247 ntmps247 ?_;exact wx1 (qX1 (KU d)) trivial (kX3 @n1 @n2 @Ak.eq_1)
 refine sZ func247 ntmps247 ?_;exact wx1 trivial trivial (kX4 @h4 @h5 @h6 @Ak.eq_1)
theorem Ov(l:List Int)(f:Int)(s:Str)(h0:0<=f)(h1:f<pagesD l)(hs:¬s.length=128):AC prog 229 [DO l,iv f,.str s] (.tup [DO l,.bool false]):=by
 have hp:=Ad l;have hl:=C4 (l:=l) (by omega);have hh:=HW l f;rw[show(decide (0<=f)&&decide (f<pagesD l))=true by simp[h0,h1]]at hh;have hs':¬(s.length:Int)=128:=by omega
 refine sZ func229 ntmps229 ?_
 (refine af1 @hs' ?_;intros;apply wr)
 repeat' ((first|(refine AB rfl (fun h=>?_) (fun h=>?_)<;>(first|(simp[hs']at h;done)|(simp[hs']at h)|skip)<;>(first|(exfalso;omega)|skip))|((first|refine .inl ⟨1,_,DL (ints .u32 l) false 1 (.inl rfl) (by rw[AN];omega),?_⟩|refine⟨1,_,DL (ints .u32 l) false 1 (.inl rfl) (by rw[AN];omega),?_⟩);simp[C0,Cd,noX,Cx,C9,hs'];first|refine And.intro AQ ?_|skip)|refine cc1 (hh) @hs' ?_|(refine AD 24 [0,0,0,6,0,16,48,0,128,384,896,2032,0,4096,12288,28672,65520,0,131072,393216,917504,2097136,4194303,8388607] [(22,([[],[],[],[1,2],[],[4],[4,5],[],[7],[7,8],[7,8,9],[4,5,6,7,8,9,10],[],[12],[12,13],[12,13,14],[4,5,6,7,8,9,10,11,12,13,14,15],[],[17],[17,18],[17,18,19],[4,5,6,7,8,9,10,11,12,13,14,15,16,17,18,19,20]],[])),(1,([],[])),(1,([],[]))] ?_)|exact rt1 @hs'|fail)<;>(refine af1 @hs' ?_;intros;apply wr))
theorem Nz(d:DskD)(l:List Int)(e:EvD)(hf:W32 d.opFrame)(hn:W32 e.n)(hb:l.length<=100000):
  AC prog 174 [.st d.row,DO l,.st e.row] (.tup [.st (AI d l e).1.row,DO (AI d l e).2.1,.bool (AI d l e).2.2]):=by
 have hp:=Ad l;have hcl:=DL (ints .u32 l) false 1 (.inl rfl) (by rw[AN];exact hb);by_cases h1:d.state≠1\/e.kind≠4\/1<e.n
 ·have hE:AI d l e=(d,l,false):=by unfold AI;rw[if_pos h1]
  rw[hE];rcases h1 with h1|h1|h1
  ·refine sZ func174 ntmps174 ?_;exact DJ (qX1 (hcl)) trivial @h1
  ·refine sZ func174 ntmps174 ?_;exact DJ (qX1 (hcl)) trivial @h1
  refine sZ func174 ntmps174 ?_;exact DJ (qX1 (hcl)) trivial @h1
 have s1:d.state=1:=by omega
 have s2:e.kind=4:=by omega
 have s3:¬1<e.n:=by omega
 by_cases h2:e.n=1/\d.cmd=1
 ·obtain⟨h2,h3⟩:=h2;by_cases h4:d.opFrame<pagesD l
  ·have w1:IntKind.i64.wrap d.opFrame=d.opFrame:=AA (by have:=hf.1;omega) (by omega);by_cases h5:e.data.length=128
   ·have hE:AI d l e=(doneD d e.n,Br l d.opFrame e.data,true):=by
     unfold AI;rw[if_neg h1,if_pos ⟨h2,h3⟩,if_pos ⟨h4,h5⟩]
    rw[hE];refine sZ func174 ntmps174 ?_;exact DJ (qX3 (hcl) (Dm l d.opFrame hf) (Hf l d.opFrame e.data hf.1 h4 h5)) trivial (kX7 @s1 @s2 @h2 @h3 @h4 @w1 @doneD.eq_1)
   have hE:AI d l e=(d,l,false):=by
    unfold AI;rw[if_neg h1,if_pos ⟨h2,h3⟩,if_neg (fun q=>h5 q.2)]
   rw[hE];refine sZ func174 ntmps174 ?_;exact DJ (qX3 (hcl) (Dm l d.opFrame hf) (Ov l d.opFrame e.data hf.1 h4 h5)) trivial (kX6 @s1 @s2 @h2 @h3 @h4 @w1)
  have hE:AI d l e=(d,l,false):=by
   unfold AI;rw[if_neg h1,if_pos ⟨h2,h3⟩,if_neg (fun q=>h4 q.1)]
  rw[hE];refine sZ func174 ntmps174 ?_;exact DJ (qX2 (hcl) (Dm l d.opFrame hf)) trivial (kX5 @s1 @s2 @h2 @h3 @h4)
 by_cases h6:e.data=[]
 ·have hE:AI d l e=(doneD d e.n,l,true):=by unfold AI;rw[if_neg h1,if_neg h2,if_pos h6]
  rw[hE];by_cases h7:e.n=1
  ·have h8:¬d.cmd=1:=fun q=>h2 ⟨h7,q⟩;refine sZ func174 ntmps174 ?_;exact DJ (qX1 (hcl)) trivial (kX6 @s1 @s2 @h6 @h7 @h8 @doneD.eq_1)
  refine sZ func174 ntmps174 ?_;exact DJ (qX1 (hcl)) trivial (kX6 @s1 @s2 @s3 @h6 @h7 @doneD.eq_1)
 have hE:AI d l e=(d,l,false):=by unfold AI;rw[if_neg h1,if_neg h2,if_neg h6]
 rw[hE];by_cases h7:e.n=1
 ·have h8:¬d.cmd=1:=fun q=>h2 ⟨h7,q⟩;refine sZ func174 ntmps174 ?_;exact DJ (qX1 (hcl)) trivial (kX5 @s1 @s2 @h6 @h7 @h8)
 refine sZ func174 ntmps174 ?_;exact DJ (qX1 (hcl)) trivial (kX5 @s1 @s2 @s3 @h6 @h7)
theorem FT{l:List Int}{f:Int}(h0:0<=f)(h1:f<pagesD l):(Bh l f).length=128:=by
 unfold Bh;rw[Mg,Gt h0 h1]
def IM(n:NicD)(l:List Int)(t:Int):List OutD:=if 1<=n.len/\n.len<=128/\n.frame<pagesD l then [⟨2,t,0,(Bh l n.frame).take n.len.toNat⟩]else []
theorem eX(n:NicD)(l:List Int)(t:Int)(hf:W32 n.frame)(hl:W32 n.len):AC prog 311 [.st n.row,DO l,lv t] (H7 (IM n l t)):=by
 have hp:=Ad l;by_cases h1:n.len<1
 ·have hE:IM n l t=[]:=by unfold IM;rw[nG]
  rw[hE];refine sZ func311 ntmps311 ?_;exact wx1 trivial trivial @h1
 by_cases h2:128<n.len
 ·have hE:IM n l t=[]:=by unfold IM;rw[nG]
  rw[hE];refine sZ func311 ntmps311 ?_;exact wx1 trivial trivial (kX2 @h1 @h2)
 by_cases h3:n.frame<pagesD l
 ·have hE:IM n l t=[⟨2,t,0,(Bh l n.frame).take n.len.toNat⟩]:=by unfold IM;rw[nH]
  rw[hE];have w1:IntKind.i64.wrap n.frame=n.frame:=AA (by have:=hf.1;omega) (by omega);have hL:=FT hf.1 h3;refine sZ func311 ntmps311 ?_;exact wx1 (qX2 (EU l n.frame hf) (Oa l n.frame hf.1 h3)) trivial (kX6 @h1 @h2 @h3 @w1 @hL @O9)
 have hE:IM n l t=[]:=by unfold IM;rw[nG]
 rw[hE];refine sZ func311 ntmps311 ?_;exact wx1 (qX1 (EU l n.frame hf)) trivial (kX3 @h1 @h2 @h3)
theorem UF(n:NicD)(l:List Int)(p v t:Int)(hf:W32 n.frame)(hl:W32 n.len):AC prog 248 [.st n.row,DO l,iv p,uv v,lv t] (.tup [.st (AZ n l p v t).1.row,H7 (AZ n l p v t).2]):=by
 have hs:=eX n l t hf hl;by_cases h7:p=7
 ·subst h7;refine sZ func248 ntmps248 ?_;exact HL trivial trivial @AZ.eq_1
 by_cases h8:p=8
 ·subst h8;refine sZ func248 ntmps248 ?_;exact HL trivial trivial @AZ.eq_1
 by_cases h9:p=9
 ·subst h9;by_cases h1:v=1
  ·subst h1;have hE:AZ n l 9 1 t=(n,IM n l t):=by simp[AZ,IM]
   rw[hE];generalize IM n l t=R at *;refine sZ func248 ntmps248 ?_
   (refine af ?_;intros;apply wr)
   repeat' ((first|(refine AB rfl (fun h=>?_) (fun h=>?_)<;>(first|(simp at h;done)|(simp at h)|skip)<;>(first|(exfalso;omega)|skip))|refine cc (hs) ?_|(refine AD 7 [0,0,0,0,14,31,63] [(5,([[],[],[],[],[1,2,3]],[(0,4)])),(1,([],[])),(1,([],[]))] ?_)|exact rt|fail)<;>(refine af ?_;intros;apply wr))
  by_cases h2:v=2
  ·subst h2;refine sZ func248 ntmps248 ?_;exact HL (qX1 (EU l n.frame hf)) trivial @AZ.eq_1
  refine sZ func248 ntmps248 ?_;exact HL trivial trivial (kX3 @h1 @h2 @AZ.eq_1)
 refine sZ func248 ntmps248 ?_;exact HL trivial trivial (kX4 @h7 @h8 @h9 @AZ.eq_1)
theorem Ra(n:NicD)(l:List Int)(s:Str)(hf:W32 n.buffer)(hs:s.length<=100000)(hb:l.length<=100000):
  AC prog 175 [.st n.row,DO l,.str s] (.tup [.st (Ah n l s).1.row,DO (Ah n l s).2.1,.bool (Ah n l s).2.2]):=by
 have hp:=Ad l;have hcl:=DL (ints .u32 l) false 1 (.inl rfl) (by rw[AN];exact hb);by_cases h1:n.posted=true
 ·by_cases h2:s.length<1
  ·have hE:Ah n l s=(n,l,false):=by unfold Ah;rw[nG]
   rw[hE];have h2':(s.length:Int)<1:=by omega
   refine sZ func175 ntmps175 ?_;exact HK (qX1 (hcl)) trivial (kX2 @h1 @h2')
  have h2':¬(s.length:Int)<1:=by omega
  by_cases h3:128<s.length
  ·have hE:Ah n l s=(n,l,false):=by unfold Ah;rw[nG]
   rw[hE];have h3':128<(s.length:Int):=by omega
   refine sZ func175 ntmps175 ?_;exact HK (qX1 (hcl)) trivial (kX3 @h1 @h2' @h3')
  have h3':¬128<(s.length:Int):=by omega
  by_cases h4:n.buffer<pagesD l
  ·have hE:Ah n l s=({n with posted:=false,buffer:=0,received:=true,got:=s.length},Br l n.buffer (s++(Bh l n.buffer).drop s.length),true):=by
    unfold Ah;rw[if_pos ⟨h1,by omega,by omega,h4⟩]
   rw[hE];have w1:IntKind.i64.wrap n.buffer=n.buffer:=AA (by have:=hf.1;omega) (by omega);have w2:IntKind.u32.wrap (s.length:Int)=s.length:=u32_in;have hL:=FT hf.1 h4;have hT:(Bh l n.buffer).take 128=Bh l n.buffer:=iZ (by omega);have hS:=Hf l n.buffer (s++(Bh l n.buffer).drop s.length) hf.1 h4 (by simp[hL];omega);refine sZ func175 ntmps175 ?_;exact HK (qX3 (EU l n.buffer hf) (Oa l n.buffer hf.1 h4) (hS)) trivial (kX9 @h1 @h2' @h3' @h4 @w1 @w2 @hL @hT @D5)
  have hE:Ah n l s=(n,l,false):=by unfold Ah;rw[nG]
  rw[hE];refine sZ func175 ntmps175 ?_;exact HK (qX2 (hcl) (EU l n.buffer hf)) trivial (kX4 @h1 @h2' @h3' @h4)
 have hE:Ah n l s=(n,l,false):=by unfold Ah;rw[if_neg (fun q=>h1 q.1)]
 rw[hE];refine sZ func175 ntmps175 ?_;exact HK (qX1 (hcl)) trivial @h1
end Go.Proofs.YtjkmhmepljamoaaGreat
end
