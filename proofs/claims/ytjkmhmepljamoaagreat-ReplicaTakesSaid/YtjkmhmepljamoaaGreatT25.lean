/- A part of the proof of ReplicaTakes. -/
import Derived.Test.YtjkmhmepljamoaaGreatT24
set_option linter.all false
set_option maxHeartbeats 16000000
set_option maxRecDepth 100000
section
namespace Go.Proofs.YtjkmhmepljamoaaGreat
open Go.Ab Go.RowKit Tryz
theorem Gy{C D E G:Prop}(c:C)(d:D)(e:E)(t:C->D->E->G:=by intro c d e;(refine af1 e ?_;intros;apply wr);repeat' ((first|(refine AB rfl (fun h=>?_) (fun h=>?_)<;>(first|(simp[e]at h;done)|(simp[e]at h)|skip)<;>(first|(exfalso;omega)|skip))|((first|refine .inl ⟨1,_,d.1,?_⟩|refine⟨1,_,d.1,?_⟩);simp[CZ,C9,noX,Ct,C5,e];first|refine And.intro AP ?_|skip)|((first|refine .inl ⟨1,_,d.2.1,?_⟩|refine⟨1,_,d.2.1,?_⟩);simp[CZ,C9,noX,Ct,C5,e];first|refine And.intro AP ?_|skip)|refine cc1 c.1 e ?_|refine cc1 c.2.1 e ?_|refine cc1 c.2.2.1 e ?_|refine cc1 c.2.2.2.1 e ?_|refine cc1 c.2.2.2.2.1 e ?_|refine cc1 c.2.2.2.2.2.1 e ?_|(refine An (.node 2 3 (.leaf [0,1,2,3,4] (bN [0,0,2,7,15]) [(3,([[],[],[1]],[(0,2)])),(1,([],[])),(1,([],[]))]) (.leaf [0,1,3,2,4] (bN [0,0,1,7,15]) [(3,([[],[],[0]],[(1,2)])),(1,([],[])),(1,([],[]))])) (by kernel_rfl) (by kernel_rfl) ?_;simp only[PT.run];repeat' (with_reducible apply And.intro);all_goals (simp only[Bo,fJ,gI,fC,fK]))|exact rt1 e|fail)<;>(refine af1 e ?_;intros;apply wr))):G:=t c d e
theorem DF{C D E G:Prop}(c:C)(d:D)(e:E)(t:C->D->E->G:=by intro c d e;(refine af1 e ?_;intros;apply wr);repeat' ((first|(refine AB rfl (fun h=>?_) (fun h=>?_)<;>(first|(simp[e]at h;done)|(simp[e]at h)|skip)<;>(first|(exfalso;omega)|skip))|((first|refine .inl ⟨1,_,d.1,?_⟩|refine⟨1,_,d.1,?_⟩);simp[CZ,C9,noX,Ct,C5,e];first|refine And.intro AP ?_|skip)|((first|refine .inl ⟨1,_,d.2.1,?_⟩|refine⟨1,_,d.2.1,?_⟩);simp[CZ,C9,noX,Ct,C5,e];first|refine And.intro AP ?_|skip)|refine cc1 c.1 e ?_|refine cc1 c.2.1 e ?_|refine cc1 c.2.2.1 e ?_|refine cc1 c.2.2.2.1 e ?_|refine cc1 c.2.2.2.2.1 e ?_|refine cc1 c.2.2.2.2.2.1 e ?_|(refine AG 6 [0,0,2,7,15,31] [(3,([[],[],[1]],[(0,2)])),(1,([],[])),(1,([],[])),(1,([],[]))] ?_)|exact rt1 e|fail)<;>(refine af1 e ?_;intros;apply wr))):G:=t c d e
theorem Gx{C D E G:Prop}(c:C)(d:D)(e:E)(t:C->D->E->G:=by intro c d e;(refine af1 e ?_;intros;apply wr);repeat' ((first|(refine AB rfl (fun h=>?_) (fun h=>?_)<;>(first|(simp[e]at h;done)|(simp[e]at h)|skip)<;>(first|(exfalso;omega)|skip))|((first|refine .inl ⟨1,_,d.1,?_⟩|refine⟨1,_,d.1,?_⟩);simp[CZ,C9,noX,Ct,C5,e];first|refine And.intro AP ?_|skip)|((first|refine .inl ⟨1,_,d.2.1,?_⟩|refine⟨1,_,d.2.1,?_⟩);simp[CZ,C9,noX,Ct,C5,e];first|refine And.intro AP ?_|skip)|refine cc1 c.1 e ?_|refine cc1 c.2.1 e ?_|refine cc1 c.2.2.1 e ?_|refine cc1 c.2.2.2.1 e ?_|refine cc1 c.2.2.2.2.1 e ?_|refine cc1 c.2.2.2.2.2.1 e ?_|(refine AG 7 [0,0,0,0,14,31,63] [(5,([[],[],[],[],[1,2,3]],[(0,4)])),(1,([],[])),(1,([],[]))] ?_)|exact rt1 e|fail)<;>(refine af1 e ?_;intros;apply wr))):G:=t c d e
theorem Gw{C D E G:Prop}(c:C)(d:D)(e:E)(t:C->D->E->G:=by intro c d e;(refine af1 e ?_;intros;apply wr);repeat' ((first|(refine AB rfl (fun h=>?_) (fun h=>?_)<;>(first|(simp[e]at h;done)|(simp[e]at h)|skip)<;>(first|(exfalso;omega)|skip))|((first|refine .inl ⟨1,_,d.1,?_⟩|refine⟨1,_,d.1,?_⟩);simp[CZ,C9,noX,Ct,C5,e];first|refine And.intro AP ?_|skip)|((first|refine .inl ⟨1,_,d.2.1,?_⟩|refine⟨1,_,d.2.1,?_⟩);simp[CZ,C9,noX,Ct,C5,e];first|refine And.intro AP ?_|skip)|refine cc1 c.1 e ?_|refine cc1 c.2.1 e ?_|refine cc1 c.2.2.1 e ?_|refine cc1 c.2.2.2.1 e ?_|refine cc1 c.2.2.2.2.1 e ?_|refine cc1 c.2.2.2.2.2.1 e ?_|(refine AG (rid:=2) 6 [0,0,2,7,15,31] [(3,([[],[],[1]],[(0,2)])),(1,([],[])),(1,([],[])),(1,([],[]))] ?_)|(refine AG (rid:=4) 16 [0,0,2,6,0,0,0,64,224,496,1023,2047,4095,4095,8191,32767] [(10,([[],[],[1],[1,2],[],[],[],[6],[5,6,7],[4,5,6,7,8]],[])),(1,([],[])),(1,([],[])),(3,([[],[],[0]],[])),(1,([],[]))] ?_)|exact rt1 e|fail)<;>(refine af1 e ?_;intros;apply wr))):G:=t c d e
abbrev HO(l:List OutD):V:=.sl 4 false (outs l)
theorem OR(o:OutD):outs [o]=[o.row]:=rfl
theorem Wa(d:DskD)(l:List Int)(k t:Int)(hf:W32 d.frame):AC prog 310 [.st d.row,DJ l,iv k,lv t] (.tup [.st (Ap d l k t).1.row,HO (Ap d l k t).2]):=by
 have hp:=Aa l;by_cases h1:d.state=0
 ·by_cases h2:d.blocks<=d.block
  ·have hE:Ap d l k t=({d with state:=3},[]):=by unfold Ap;rw[if_neg (by omega),if_pos (.inl h2)]
   rw[hE];refine sZ func310 ntmps310 ?_;exact Gy trivial trivial (kX2 @h1 @h2)
  by_cases h3:d.frame<pagesD l
  ·have hE:Ap d l k t=({d with state:=1,cmd:=k,opBlock:=d.block,opFrame:=d.frame,opData:=if k=2 then Bm l d.frame else []},
    [(BK {d with state:=1,cmd:=k,opBlock:=d.block,opFrame:=d.frame,opData:=if k=2 then Bm l d.frame else []} t).1]):=by
    unfold Ap;rw[if_neg (by omega),if_neg (by omega)]
   rw[hE];have w1:IntKind.i64.wrap d.frame=d.frame:=AA (by have:=hf.1;omega) (by omega);have hP:=OS l d.frame hf.1 h3;by_cases hk:k=2
   ·have hr:=KX {d with state:=1,cmd:=k,opBlock:=d.block,opFrame:=d.frame,opData:=Bm l d.frame} t;simp only[hk,if_true]at hr ⊢;refine sZ func310 ntmps310 ?_;exact Gy (qX3 (Dg l d.frame hf) (hP) (hr)) trivial (kX6 @h1 @h2 @h3 @w1 @OR @D4)
   have hr:=KX {d with state:=1,cmd:=k,opBlock:=d.block,opFrame:=d.frame,opData:=[]} t;simp only[hk,if_false]at hr ⊢;refine sZ func310 ntmps310 ?_;exact Gy (qX2 (Dg l d.frame hf) (hr)) trivial (kX7 @h1 @h2 @h3 @hk @w1 @OR @D4)
  have hE:Ap d l k t=({d with state:=3},[]):=by unfold Ap;rw[if_neg (by omega),if_pos (.inr (by omega))]
  rw[hE];refine sZ func310 ntmps310 ?_;exact Gy (qX1 (Dg l d.frame hf)) trivial (kX3 @h1 @h2 @h3)
 have hE:Ap d l k t=(d,[]):=by unfold Ap;rw[if_pos h1]
 rw[hE];refine sZ func310 ntmps310 ?_;exact Gy trivial trivial @h1
theorem Se(d:DskD)(l:List Int)(p v t:Int)(hf:W32 d.frame)(hv:W32 v):AC prog 247 [.st d.row,DJ l,iv p,uv v,lv t] (.tup [.st (Am d l p v t).1.row,HO (Am d l p v t).2]):=by
 have w1:IntKind.i64.wrap v=v:=AA (by have:=hv.1;omega) (by have:=hv.2;omega);have hi:=Wa d l v t hf;by_cases h4:p=4
 ·subst h4;refine sZ func247 ntmps247 ?_;exact wx1 trivial trivial @Am.eq_1
 by_cases h5:p=5
 ·subst h5;refine sZ func247 ntmps247 ?_;exact wx1 trivial trivial @Am.eq_1
 by_cases h6:p=6
 ·subst h6;by_cases h1:v=1\/v=2
  ·have hE:Am d l 6 v t=Ap d l v t:=by simp[Am,h1]
   rw[hE];generalize Ap d l v t=R at *;refine sZ func247 ntmps247 ?_;exact wx1 (qX1 (hi)) trivial @w1
  have n1:¬v=1:=fun q=>h1 (.inl q);have n2:¬v=2:=fun q=>h1 (.inr q);refine sZ func247 ntmps247 ?_;exact wx1 (qX1 (Jy d)) trivial (kX3 @n1 @n2 @Am.eq_1)
 refine sZ func247 ntmps247 ?_;exact wx1 trivial trivial (kX4 @h4 @h5 @h6 @Am.eq_1)
theorem O8(l:List Int)(f:Int)(s:Str)(h0:0<=f)(h1:f<pagesD l)(hs:¬s.length=128):AC prog 229 [DJ l,iv f,.str s] (.tup [DJ l,.bool false]):=by
 have hp:=Aa l;have hl:=C0 (l:=l) (by omega);have hh:=HG l f;rw[show(decide (0<=f)&&decide (f<pagesD l))=true by simp[h0,h1]]at hh;have hs':¬(s.length:Int)=128:=by omega
 refine sZ func229 ntmps229 ?_
 (refine af1 @hs' ?_;intros;apply wr)
 repeat' ((first|(refine AB rfl (fun h=>?_) (fun h=>?_)<;>(first|(simp[hs']at h;done)|(simp[hs']at h)|skip)<;>(first|(exfalso;omega)|skip))|((first|refine .inl ⟨1,_,D2 (ints .u32 l) false 1 (.inl rfl) (by rw[AM];omega),?_⟩|refine⟨1,_,D2 (ints .u32 l) false 1 (.inl rfl) (by rw[AM];omega),?_⟩);simp[CZ,C9,noX,Ct,C5,hs'];first|refine And.intro AP ?_|skip)|refine cc1 (hh) @hs' ?_|(refine AG 24 [0,0,0,6,0,16,48,0,128,384,896,2032,0,4096,12288,28672,65520,0,131072,393216,917504,2097136,4194303,8388607] [(22,([[],[],[],[1,2],[],[4],[4,5],[],[7],[7,8],[7,8,9],[4,5,6,7,8,9,10],[],[12],[12,13],[12,13,14],[4,5,6,7,8,9,10,11,12,13,14,15],[],[17],[17,18],[17,18,19],[4,5,6,7,8,9,10,11,12,13,14,15,16,17,18,19,20]],[])),(1,([],[])),(1,([],[]))] ?_)|exact rt1 @hs'|fail)<;>(refine af1 @hs' ?_;intros;apply wr))
theorem Nh(d:DskD)(l:List Int)(e:EvD)(hf:W32 d.opFrame)(hn:W32 e.n)(hb:l.length<=100000):
  AC prog 174 [.st d.row,DJ l,.st e.row] (.tup [.st (AK d l e).1.row,DJ (AK d l e).2.1,.bool (AK d l e).2.2]):=by
 have hp:=Aa l;have hcl:=D2 (ints .u32 l) false 1 (.inl rfl) (by rw[AM];exact hb);by_cases h1:d.state≠1\/e.kind≠4\/1<e.n
 ·have hE:AK d l e=(d,l,false):=by unfold AK;rw[if_pos h1]
  rw[hE];rcases h1 with h1|h1|h1
  ·refine sZ func174 ntmps174 ?_;exact DF (qX1 (hcl)) trivial @h1
  ·refine sZ func174 ntmps174 ?_;exact DF (qX1 (hcl)) trivial @h1
  refine sZ func174 ntmps174 ?_;exact DF (qX1 (hcl)) trivial @h1
 have s1:d.state=1:=by omega
 have s2:e.kind=4:=by omega
 have s3:¬1<e.n:=by omega
 by_cases h2:e.n=1/\d.cmd=1
 ·obtain⟨h2,h3⟩:=h2;by_cases h4:d.opFrame<pagesD l
  ·have w1:IntKind.i64.wrap d.opFrame=d.opFrame:=AA (by have:=hf.1;omega) (by omega);by_cases h5:e.data.length=128
   ·have hE:AK d l e=(doneD d e.n,Bq l d.opFrame e.data,true):=by
     unfold AK;rw[if_neg h1,if_pos ⟨h2,h3⟩,if_pos ⟨h4,h5⟩]
    rw[hE];refine sZ func174 ntmps174 ?_;exact DF (qX3 (hcl) (Dg l d.opFrame hf) (HW l d.opFrame e.data hf.1 h4 h5)) trivial (kX7 @s1 @s2 @h2 @h3 @h4 @w1 @doneD.eq_1)
   have hE:AK d l e=(d,l,false):=by
    unfold AK;rw[if_neg h1,if_pos ⟨h2,h3⟩,if_neg (fun q=>h5 q.2)]
   rw[hE];refine sZ func174 ntmps174 ?_;exact DF (qX3 (hcl) (Dg l d.opFrame hf) (O8 l d.opFrame e.data hf.1 h4 h5)) trivial (kX6 @s1 @s2 @h2 @h3 @h4 @w1)
  have hE:AK d l e=(d,l,false):=by
   unfold AK;rw[if_neg h1,if_pos ⟨h2,h3⟩,if_neg (fun q=>h4 q.1)]
  rw[hE];refine sZ func174 ntmps174 ?_;exact DF (qX2 (hcl) (Dg l d.opFrame hf)) trivial (kX5 @s1 @s2 @h2 @h3 @h4)
 by_cases h6:e.data=[]
 ·have hE:AK d l e=(doneD d e.n,l,true):=by unfold AK;rw[if_neg h1,if_neg h2,if_pos h6]
  rw[hE];by_cases h7:e.n=1
  ·have h8:¬d.cmd=1:=fun q=>h2 ⟨h7,q⟩;refine sZ func174 ntmps174 ?_;exact DF (qX1 (hcl)) trivial (kX6 @s1 @s2 @h6 @h7 @h8 @doneD.eq_1)
  refine sZ func174 ntmps174 ?_;exact DF (qX1 (hcl)) trivial (kX6 @s1 @s2 @s3 @h6 @h7 @doneD.eq_1)
 have hE:AK d l e=(d,l,false):=by unfold AK;rw[if_neg h1,if_neg h2,if_neg h6]
 rw[hE];by_cases h7:e.n=1
 ·have h8:¬d.cmd=1:=fun q=>h2 ⟨h7,q⟩;refine sZ func174 ntmps174 ?_;exact DF (qX1 (hcl)) trivial (kX5 @s1 @s2 @h6 @h7 @h8)
 refine sZ func174 ntmps174 ?_;exact DF (qX1 (hcl)) trivial (kX5 @s1 @s2 @s3 @h6 @h7)
theorem FP{l:List Int}{f:Int}(h0:0<=f)(h1:f<pagesD l):(Bm l f).length=128:=by
 unfold Bm;rw[MX,Gd h0 h1]
def Hy(n:NicD)(l:List Int)(t:Int):List OutD:=if 1<=n.len/\n.len<=128/\n.frame<pagesD l then [⟨2,t,0,(Bm l n.frame).take n.len.toNat⟩]else []
theorem dJ(n:NicD)(l:List Int)(t:Int)(hf:W32 n.frame)(hl:W32 n.len):AC prog 311 [.st n.row,DJ l,lv t] (HO (Hy n l t)):=by
 have hp:=Aa l;by_cases h1:n.len<1
 ·have hE:Hy n l t=[]:=by unfold Hy;rw[if_neg (by omega)]
  rw[hE];refine sZ func311 ntmps311 ?_;exact wx1 trivial trivial @h1
 by_cases h2:128<n.len
 ·have hE:Hy n l t=[]:=by unfold Hy;rw[if_neg (by omega)]
  rw[hE];refine sZ func311 ntmps311 ?_;exact wx1 trivial trivial (kX2 @h1 @h2)
 by_cases h3:n.frame<pagesD l
 ·have hE:Hy n l t=[⟨2,t,0,(Bm l n.frame).take n.len.toNat⟩]:=by unfold Hy;rw[if_pos (by omega)]
  rw[hE];have w1:IntKind.i64.wrap n.frame=n.frame:=AA (by have:=hf.1;omega) (by omega);have hL:=FP hf.1 h3;refine sZ func311 ntmps311 ?_;exact wx1 (qX2 (EV l n.frame hf) (OS l n.frame hf.1 h3)) trivial (kX6 @h1 @h2 @h3 @w1 @hL @OR)
 have hE:Hy n l t=[]:=by unfold Hy;rw[if_neg (by omega)]
 rw[hE];refine sZ func311 ntmps311 ?_;exact wx1 (qX1 (EV l n.frame hf)) trivial (kX3 @h1 @h2 @h3)
theorem Tl(n:NicD)(l:List Int)(p v t:Int)(hf:W32 n.frame)(hl:W32 n.len):AC prog 248 [.st n.row,DJ l,iv p,uv v,lv t] (.tup [.st (Ag n l p v t).1.row,HO (Ag n l p v t).2]):=by
 have hs:=dJ n l t hf hl;by_cases h7:p=7
 ·subst h7;refine sZ func248 ntmps248 ?_;exact Gx trivial trivial @Ag.eq_1
 by_cases h8:p=8
 ·subst h8;refine sZ func248 ntmps248 ?_;exact Gx trivial trivial @Ag.eq_1
 by_cases h9:p=9
 ·subst h9;by_cases h1:v=1
  ·subst h1;have hE:Ag n l 9 1 t=(n,Hy n l t):=by simp[Ag,Hy]
   rw[hE];generalize Hy n l t=R at *;refine sZ func248 ntmps248 ?_
   (refine af ?_;intros;apply wr)
   repeat' ((first|(refine AB rfl (fun h=>?_) (fun h=>?_)<;>(first|(simp at h;done)|(simp at h)|skip)<;>(first|(exfalso;omega)|skip))|refine cc (hs) ?_|(refine AG 7 [0,0,0,0,14,31,63] [(5,([[],[],[],[],[1,2,3]],[(0,4)])),(1,([],[])),(1,([],[]))] ?_)|exact rt|fail)<;>(refine af ?_;intros;apply wr))
  by_cases h2:v=2
  ·subst h2;refine sZ func248 ntmps248 ?_;exact Gx (qX1 (EV l n.frame hf)) trivial @Ag.eq_1
  refine sZ func248 ntmps248 ?_;exact Gx trivial trivial (kX3 @h1 @h2 @Ag.eq_1)
 refine sZ func248 ntmps248 ?_;exact Gx trivial trivial (kX4 @h7 @h8 @h9 @Ag.eq_1)
theorem RD(n:NicD)(l:List Int)(s:Str)(hf:W32 n.buffer)(hs:s.length<=100000)(hb:l.length<=100000):
  AC prog 175 [.st n.row,DJ l,.str s] (.tup [.st (Ah n l s).1.row,DJ (Ah n l s).2.1,.bool (Ah n l s).2.2]):=by
 have hp:=Aa l;have hcl:=D2 (ints .u32 l) false 1 (.inl rfl) (by rw[AM];exact hb);by_cases h1:n.posted=true
 ·by_cases h2:s.length<1
  ·have hE:Ah n l s=(n,l,false):=by unfold Ah;rw[if_neg (by omega)]
   rw[hE];have h2':(s.length:Int)<1:=by omega
   refine sZ func175 ntmps175 ?_;exact Gw (qX1 (hcl)) trivial (kX2 @h1 @h2')
  have h2':¬(s.length:Int)<1:=by omega
  by_cases h3:128<s.length
  ·have hE:Ah n l s=(n,l,false):=by unfold Ah;rw[if_neg (by omega)]
   rw[hE];have h3':128<(s.length:Int):=by omega
   refine sZ func175 ntmps175 ?_;exact Gw (qX1 (hcl)) trivial (kX3 @h1 @h2' @h3')
  have h3':¬128<(s.length:Int):=by omega
  by_cases h4:n.buffer<pagesD l
  ·have hE:Ah n l s=({n with posted:=false,buffer:=0,received:=true,got:=s.length},Bq l n.buffer (s++(Bm l n.buffer).drop s.length),true):=by
    unfold Ah;rw[if_pos ⟨h1,by omega,by omega,h4⟩]
   rw[hE];have w1:IntKind.i64.wrap n.buffer=n.buffer:=AA (by have:=hf.1;omega) (by omega);have w2:IntKind.u32.wrap (s.length:Int)=s.length:=u32_in (by omega) (by omega);have hL:=FP hf.1 h4;have hT:(Bm l n.buffer).take 128=Bm l n.buffer:=fZ (by omega);have hS:=HW l n.buffer (s++(Bm l n.buffer).drop s.length) hf.1 h4 (by simp[hL];omega);refine sZ func175 ntmps175 ?_;exact Gw (qX3 (EV l n.buffer hf) (OS l n.buffer hf.1 h4) (hS)) trivial (kX9 @h1 @h2' @h3' @h4 @w1 @w2 @hL @hT @D4)
  have hE:Ah n l s=(n,l,false):=by unfold Ah;rw[if_neg (by omega)]
  rw[hE];refine sZ func175 ntmps175 ?_;exact Gw (qX2 (hcl) (EV l n.buffer hf)) trivial (kX4 @h1 @h2' @h3' @h4)
 have hE:Ah n l s=(n,l,false):=by unfold Ah;rw[if_neg (fun q=>h1 q.1)]
 rw[hE];refine sZ func175 ntmps175 ?_;exact Gw (qX1 (hcl)) trivial @h1
end Go.Proofs.YtjkmhmepljamoaaGreat
end
