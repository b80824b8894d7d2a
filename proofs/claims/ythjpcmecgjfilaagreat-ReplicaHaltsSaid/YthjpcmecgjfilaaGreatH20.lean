/- A part of the proof of ReplicaHalts. -/
import Derived.Test.YthjpcmecgjfilaaGreatH04
import Derived.Test.YthjpcmecgjfilaaGreatH12
import Derived.Test.YthjpcmecgjfilaaGreatH19
import Derived.Shelf.Strings.Repeat
set_option linter.unusedSimpArgs false
set_option linter.unusedVariables false
set_option maxHeartbeats 16000000
set_option maxRecDepth 100000
section
namespace Go.Proofs.YthjpcmecgjfilaaGreat
open Go.Ab Go.RowKit Tryz
theorem zE3 {C D E G:Prop} (c:C) (d:D) (e:E) (t:C->D->E->G:=by intro c d e;(refine af1 e ?_;intros;apply wr);repeat' ((first|(refine zAC rfl (fun h=>?_) (fun h=>?_)<;>(first|(simp [e] at h;done)|(simp [e] at h)|skip)<;>(first|(exfalso;omega)|skip))|((first|refine .inl ⟨1,_,d.1,?_⟩|refine ⟨1,_,d.1,?_⟩);simp [aftC,aftE,noX,noXc,noX1,e];first|refine And.intro zAM ?_|skip)|((first|refine .inl ⟨1,_,d.2.1,?_⟩|refine ⟨1,_,d.2.1,?_⟩);simp [aftC,aftE,noX,noXc,noX1,e];first|refine And.intro zAM ?_|skip)|refine cc1 c.1 e ?_|refine cc1 c.2.1 e ?_|refine cc1 c.2.2.1 e ?_|refine cc1 c.2.2.2.1 e ?_|refine cc1 c.2.2.2.2.1 e ?_|refine cc1 c.2.2.2.2.2.1 e ?_|(refine zCJ (.node 2 3 (.leaf [0,1,2,3,4] (bN [0,0,2,7,15]) [(3,([[],[],[1]],[(0,2)])),(1,([],[])),(1,([],[]))]) (.leaf [0,1,3,2,4] (bN [0,0,1,7,15]) [(3,([[],[],[0]],[(1,2)])),(1,([],[])),(1,([],[]))])) (by kernel_rfl) (by kernel_rfl) ?_;simp only [PT.run];repeat' (with_reducible apply And.intro);all_goals (simp only [zCO,zWP,List.map_nil,zWN,List.getD_cons_succ]))|exact rt1 e|fail)<;>(refine af1 e ?_;intros;apply wr))):G:=t c d e
theorem zB6 {C D E G:Prop} (c:C) (d:D) (e:E) (t:C->D->E->G:=by intro c d e;(refine af1 e ?_;intros;apply wr);repeat' ((first|(refine zAC rfl (fun h=>?_) (fun h=>?_)<;>(first|(simp [e] at h;done)|(simp [e] at h)|skip)<;>(first|(exfalso;omega)|skip))|((first|refine .inl ⟨1,_,d.1,?_⟩|refine ⟨1,_,d.1,?_⟩);simp [aftC,aftE,noX,noXc,noX1,e];first|refine And.intro zAM ?_|skip)|((first|refine .inl ⟨1,_,d.2.1,?_⟩|refine ⟨1,_,d.2.1,?_⟩);simp [aftC,aftE,noX,noXc,noX1,e];first|refine And.intro zAM ?_|skip)|refine cc1 c.1 e ?_|refine cc1 c.2.1 e ?_|refine cc1 c.2.2.1 e ?_|refine cc1 c.2.2.2.1 e ?_|refine cc1 c.2.2.2.2.1 e ?_|refine cc1 c.2.2.2.2.2.1 e ?_|(refine zAE 6 [0,0,2,7,15,31] [(3,([[],[],[1]],[(0,2)])),(1,([],[])),(1,([],[])),(1,([],[]))] ?_)|exact rt1 e|fail)<;>(refine af1 e ?_;intros;apply wr))):G:=t c d e
theorem zE2 {C D E G:Prop} (c:C) (d:D) (e:E) (t:C->D->E->G:=by intro c d e;(refine af1 e ?_;intros;apply wr);repeat' ((first|(refine zAC rfl (fun h=>?_) (fun h=>?_)<;>(first|(simp [e] at h;done)|(simp [e] at h)|skip)<;>(first|(exfalso;omega)|skip))|((first|refine .inl ⟨1,_,d.1,?_⟩|refine ⟨1,_,d.1,?_⟩);simp [aftC,aftE,noX,noXc,noX1,e];first|refine And.intro zAM ?_|skip)|((first|refine .inl ⟨1,_,d.2.1,?_⟩|refine ⟨1,_,d.2.1,?_⟩);simp [aftC,aftE,noX,noXc,noX1,e];first|refine And.intro zAM ?_|skip)|refine cc1 c.1 e ?_|refine cc1 c.2.1 e ?_|refine cc1 c.2.2.1 e ?_|refine cc1 c.2.2.2.1 e ?_|refine cc1 c.2.2.2.2.1 e ?_|refine cc1 c.2.2.2.2.2.1 e ?_|(refine zAE 7 [0,0,0,0,14,31,63] [(5,([[],[],[],[],[1,2,3]],[(0,4)])),(1,([],[])),(1,([],[]))] ?_)|exact rt1 e|fail)<;>(refine af1 e ?_;intros;apply wr))):G:=t c d e
theorem zE1 {C D E G:Prop} (c:C) (d:D) (e:E) (t:C->D->E->G:=by intro c d e;(refine af1 e ?_;intros;apply wr);repeat' ((first|(refine zAC rfl (fun h=>?_) (fun h=>?_)<;>(first|(simp [e] at h;done)|(simp [e] at h)|skip)<;>(first|(exfalso;omega)|skip))|((first|refine .inl ⟨1,_,d.1,?_⟩|refine ⟨1,_,d.1,?_⟩);simp [aftC,aftE,noX,noXc,noX1,e];first|refine And.intro zAM ?_|skip)|((first|refine .inl ⟨1,_,d.2.1,?_⟩|refine ⟨1,_,d.2.1,?_⟩);simp [aftC,aftE,noX,noXc,noX1,e];first|refine And.intro zAM ?_|skip)|refine cc1 c.1 e ?_|refine cc1 c.2.1 e ?_|refine cc1 c.2.2.1 e ?_|refine cc1 c.2.2.2.1 e ?_|refine cc1 c.2.2.2.2.1 e ?_|refine cc1 c.2.2.2.2.2.1 e ?_|(refine zAE (rid:=2) 6 [0,0,2,7,15,31] [(3,([[],[],[1]],[(0,2)])),(1,([],[])),(1,([],[])),(1,([],[]))] ?_)|(refine zAE (rid:=4) 16 [0,0,2,6,0,0,0,64,224,496,1023,2047,4095,4095,8191,32767] [(10,([[],[],[1],[1,2],[],[],[],[6],[5,6,7],[4,5,6,7,8]],[])),(1,([],[])),(1,([],[])),(3,([[],[],[0]],[])),(1,([],[]))] ?_)|exact rt1 e|fail)<;>(refine af1 e ?_;intros;apply wr))):G:=t c d e
abbrev zLI (l:List OutD):V:=.sl 4 false (outs l)
theorem zR3 (o:OutD):outs [o]=[o.row]:=rfl
theorem zRk (d:DskD) (l:List Int) (k t:Int) (hf:W32 d.frame):zAD prog 309 [.st d.row,memV l,iv k,lv t] (.tup [.st (zBP d l k t).1.row,zLI (zBP d l k t).2]):=by
 have hp:=zAf l;by_cases h1:d.state=0
 ·by_cases h2:d.blocks<=d.block
  ·have hE:zBP d l k t=({d with state:=3},[]):=by unfold zBP;rw [if_neg (by omega),if_pos (.inl h2)]
   rw [hE];refine sZ func309 ntmps309 ?_;exact zE3 trivial trivial (kX2 @h1 @h2)
  by_cases h3:d.frame<pagesD l
  ·have hE:zBP d l k t=({d with state:=1,cmd:=k,opBlock:=d.block,opFrame:=d.frame,opData:=if k=2 then zCx l d.frame else []},
    [(zBW {d with state:=1,cmd:=k,opBlock:=d.block,opFrame:=d.frame,opData:=if k=2 then zCx l d.frame else []} t).1]):=by
    unfold zBP;rw [if_neg (by omega),if_neg (by omega)]
   rw [hE];have w1:IntKind.i64.wrap d.frame=d.frame:=zAA (by have:=hf.1;omega) (by omega)
   have hP:=zLJ l d.frame hf.1 h3;by_cases hk:k=2
   ·have hr:=zFS {d with state:=1,cmd:=k,opBlock:=d.block,opFrame:=d.frame,opData:=zCx l d.frame} t
    simp only [hk,if_true] at hr ⊢;refine sZ func309 ntmps309 ?_;exact zE3 (qX3 (zCW l d.frame hf) (hP) (hr)) trivial (kX6 @h1 @h2 @h3 @w1 @zR3 @u32c)
   have hr:=zFS {d with state:=1,cmd:=k,opBlock:=d.block,opFrame:=d.frame,opData:=[]} t
   simp only [hk,if_false] at hr ⊢;refine sZ func309 ntmps309 ?_;exact zE3 (qX2 (zCW l d.frame hf) (hr)) trivial (kX7 @h1 @h2 @h3 @hk @w1 @zR3 @u32c)
  have hE:zBP d l k t=({d with state:=3},[]):=by unfold zBP;rw [if_neg (by omega),if_pos (.inr (by omega))]
  rw [hE];refine sZ func309 ntmps309 ?_;exact zE3 (qX1 (zCW l d.frame hf)) trivial (kX3 @h1 @h2 @h3)
 have hE:zBP d l k t=(d,[]):=by unfold zBP;rw [if_pos h1]
 rw [hE];refine sZ func309 ntmps309 ?_;exact zE3 trivial trivial @h1
theorem zOY (d:DskD) (l:List Int) (p v t:Int) (hf:W32 d.frame) (hv:W32 v):zAD prog 247 [.st d.row,memV l,iv p,uv v,lv t] (.tup [.st (zBI d l p v t).1.row,zLI (zBI d l p v t).2]):=by
 have w1:IntKind.i64.wrap v=v:=zAA (by have:=hv.1;omega) (by have:=hv.2;omega)
 have hi:=zRk d l v t hf;by_cases h4:p=4
 ·subst h4;refine sZ func247 ntmps247 ?_;exact wx1 trivial trivial @zBI.eq_1
 by_cases h5:p=5
 ·subst h5;refine sZ func247 ntmps247 ?_;exact wx1 trivial trivial @zBI.eq_1
 by_cases h6:p=6
 ·subst h6;by_cases h1:v=1\/v=2
  ·have hE:zBI d l 6 v t=zBP d l v t:=by simp [zBI,h1]
   rw [hE];generalize zBP d l v t=R at *
   refine sZ func247 ntmps247 ?_;exact wx1 (qX1 (hi)) trivial @w1
  have n1:¬ v=1:=fun q=>h1 (.inl q)
  have n2:¬ v=2:=fun q=>h1 (.inr q)
  refine sZ func247 ntmps247 ?_;exact wx1 (qX1 (zHw d)) trivial (kX3 @n1 @n2 @zBI.eq_1)
 refine sZ func247 ntmps247 ?_;exact wx1 trivial trivial (kX4 @h4 @h5 @h6 @zBI.eq_1)
theorem zLU (l:List Int) (f:Int) (s:Str) (h0:0<=f) (h1:f<pagesD l) (hs:¬ s.length=128):zAD prog 229 [memV l,iv f,.str s] (.tup [memV l,.bool false]):=by
 have hp:=zAf l;have hl:=zC4 (l:=l) (by omega)
 have hh:=zFJ l f;rw [show (decide (0<=f)&&decide (f<pagesD l))=true by simp [h0,h1]] at hh
 have hs':¬ (s.length:Int)=128:=by omega
 refine sZ func229 ntmps229 ?_
 (refine af1 @hs' ?_;intros;apply wr)
 repeat' ((first|(refine zAC rfl (fun h=>?_) (fun h=>?_)<;>(first|(simp [hs'] at h;done)|(simp [hs'] at h)|skip)<;>(first|(exfalso;omega)|skip))|((first|refine .inl ⟨1,_,zCH (ints .u32 l) false 1 (.inl rfl) (by rw [zAN];omega),?_⟩|refine ⟨1,_,zCH (ints .u32 l) false 1 (.inl rfl) (by rw [zAN];omega),?_⟩);simp [aftC,aftE,noX,noXc,noX1,hs'];first|refine And.intro zAM ?_|skip)|refine cc1 (hh) @hs' ?_|(refine zAE 24 [0,0,0,6,0,16,48,0,128,384,896,2032,0,4096,12288,28672,65520,0,131072,393216,917504,2097136,4194303,8388607] [(22,([[],[],[],[1,2],[],[4],[4,5],[],[7],[7,8],[7,8,9],[4,5,6,7,8,9,10],[],[12],[12,13],[12,13,14],[4,5,6,7,8,9,10,11,12,13,14,15],[],[17],[17,18],[17,18,19],[4,5,6,7,8,9,10,11,12,13,14,15,16,17,18,19,20]],[])),(1,([],[])),(1,([],[]))] ?_)|exact rt1 @hs'|fail)<;>(refine af1 @hs' ?_;intros;apply wr))
theorem zKs (d:DskD) (l:List Int) (e:EvD) (hf:W32 d.opFrame) (hn:W32 e.n) (hb:l.length<=100000) :
  zAD prog 175 [.st d.row,memV l,.st e.row] (.tup [.st (zAO d l e).1.row,memV (zAO d l e).2.1,.bool (zAO d l e).2.2]):=by
 have hp:=zAf l;have hcl:=zCH (ints .u32 l) false 1 (.inl rfl) (by rw [zAN];exact hb)
 by_cases h1:d.state≠1\/e.kind≠4\/1<e.n
 ·have hE:zAO d l e=(d,l,false):=by unfold zAO;rw [if_pos h1]
  rw [hE];rcases h1 with h1|h1|h1
  ·refine sZ func175 ntmps175 ?_;exact zB6 (qX1 (hcl)) trivial @h1
  ·refine sZ func175 ntmps175 ?_;exact zB6 (qX1 (hcl)) trivial @h1
  refine sZ func175 ntmps175 ?_;exact zB6 (qX1 (hcl)) trivial @h1
 have s1:d.state=1:=by omega
 have s2:e.kind=4:=by omega
 have s3:¬ 1<e.n:=by omega
 by_cases h2:e.n=1/\d.cmd=1
 ·obtain ⟨h2,h3⟩:=h2;by_cases h4:d.opFrame<pagesD l
  ·have w1:IntKind.i64.wrap d.opFrame=d.opFrame:=zAA (by have:=hf.1;omega) (by omega)
   by_cases h5:e.data.length=128
   ·have hE:zAO d l e=(doneD d e.n,zBd l d.opFrame e.data,true):=by
     unfold zAO;rw [if_neg h1,if_pos ⟨h2,h3⟩,if_pos ⟨h4,h5⟩]
    rw [hE];refine sZ func175 ntmps175 ?_;exact zB6 (qX3 (hcl) (zCW l d.opFrame hf) (zFX l d.opFrame e.data hf.1 h4 h5)) trivial (kX7 @s1 @s2 @h2 @h3 @h4 @w1 @doneD.eq_1)
   have hE:zAO d l e=(d,l,false):=by
    unfold zAO;rw [if_neg h1,if_pos ⟨h2,h3⟩,if_neg (fun q=>h5 q.2)]
   rw [hE];refine sZ func175 ntmps175 ?_;exact zB6 (qX3 (hcl) (zCW l d.opFrame hf) (zLU l d.opFrame e.data hf.1 h4 h5)) trivial (kX6 @s1 @s2 @h2 @h3 @h4 @w1)
  have hE:zAO d l e=(d,l,false):=by
   unfold zAO;rw [if_neg h1,if_pos ⟨h2,h3⟩,if_neg (fun q=>h4 q.1)]
  rw [hE];refine sZ func175 ntmps175 ?_;exact zB6 (qX2 (hcl) (zCW l d.opFrame hf)) trivial (kX5 @s1 @s2 @h2 @h3 @h4)
 by_cases h6:e.data=[]
 ·have hE:zAO d l e=(doneD d e.n,l,true):=by unfold zAO;rw [if_neg h1,if_neg h2,if_pos h6]
  rw [hE];by_cases h7:e.n=1
  ·have h8:¬ d.cmd=1:=fun q=>h2 ⟨h7,q⟩
   refine sZ func175 ntmps175 ?_;exact zB6 (qX1 (hcl)) trivial (kX6 @s1 @s2 @h6 @h7 @h8 @doneD.eq_1)
  refine sZ func175 ntmps175 ?_;exact zB6 (qX1 (hcl)) trivial (kX6 @s1 @s2 @s3 @h6 @h7 @doneD.eq_1)
 have hE:zAO d l e=(d,l,false):=by unfold zAO;rw [if_neg h1,if_neg h2,if_neg h6]
 rw [hE];by_cases h7:e.n=1
 ·have h8:¬ d.cmd=1:=fun q=>h2 ⟨h7,q⟩
  refine sZ func175 ntmps175 ?_;exact zB6 (qX1 (hcl)) trivial (kX5 @s1 @s2 @h6 @h7 @h8)
 refine sZ func175 ntmps175 ?_;exact zB6 (qX1 (hcl)) trivial (kX5 @s1 @s2 @s3 @h6 @h7)
theorem zGx {l:List Int} {f:Int} (h0:0<=f) (h1:f<pagesD l):(zCx l f).length=128:=by
 unfold zCx;rw [zOw,zMP h0 h1]
def zFy (n:NicD) (l:List Int) (t:Int):List OutD:=if 1<=n.len/\n.len<=128/\n.frame<pagesD l then [⟨2,t,0,(zCx l n.frame).take n.len.toNat⟩] else []
theorem zVX (n:NicD) (l:List Int) (t:Int) (hf:W32 n.frame) (hl:W32 n.len):zAD prog 310 [.st n.row,memV l,lv t] (zLI (zFy n l t)):=by
 have hp:=zAf l;by_cases h1:n.len<1
 ·have hE:zFy n l t=[]:=by unfold zFy;rw [if_neg (by omega)]
  rw [hE];refine sZ func310 ntmps310 ?_;exact wx1 trivial trivial @h1
 by_cases h2:128<n.len
 ·have hE:zFy n l t=[]:=by unfold zFy;rw [if_neg (by omega)]
  rw [hE];refine sZ func310 ntmps310 ?_;exact wx1 trivial trivial (kX2 @h1 @h2)
 by_cases h3:n.frame<pagesD l
 ·have hE:zFy n l t=[⟨2,t,0,(zCx l n.frame).take n.len.toNat⟩]:=by unfold zFy;rw [if_pos (by omega)]
  rw [hE];have w1:IntKind.i64.wrap n.frame=n.frame:=zAA (by have:=hf.1;omega) (by omega)
  have hL:=zGx hf.1 h3;refine sZ func310 ntmps310 ?_;exact wx1 (qX2 (zC3 l n.frame hf) (zLJ l n.frame hf.1 h3)) trivial (kX6 @h1 @h2 @h3 @w1 @hL @zR3)
 have hE:zFy n l t=[]:=by unfold zFy;rw [if_neg (by omega)]
 rw [hE];refine sZ func310 ntmps310 ?_;exact wx1 (qX1 (zC3 l n.frame hf)) trivial (kX3 @h1 @h2 @h3)
theorem zPW (n:NicD) (l:List Int) (p v t:Int) (hf:W32 n.frame) (hl:W32 n.len):zAD prog 248 [.st n.row,memV l,iv p,uv v,lv t] (.tup [.st (zAa n l p v t).1.row,zLI (zAa n l p v t).2]):=by
 have hs:=zVX n l t hf hl;by_cases h7:p=7
 ·subst h7;refine sZ func248 ntmps248 ?_;exact zE2 trivial trivial @zAa.eq_1
 by_cases h8:p=8
 ·subst h8;refine sZ func248 ntmps248 ?_;exact zE2 trivial trivial @zAa.eq_1
 by_cases h9:p=9
 ·subst h9;by_cases h1:v=1
  ·subst h1;have hE:zAa n l 9 1 t=(n,zFy n l t):=by simp [zAa,zFy]
   rw [hE];generalize zFy n l t=R at *
   refine sZ func248 ntmps248 ?_
   (refine af ?_;intros;apply wr)
   repeat' ((first|(refine zAC rfl (fun h=>?_) (fun h=>?_)<;>(first|(simp at h;done)|(simp at h)|skip)<;>(first|(exfalso;omega)|skip))|refine cc (hs) ?_|(refine zAE 7 [0,0,0,0,14,31,63] [(5,([[],[],[],[],[1,2,3]],[(0,4)])),(1,([],[])),(1,([],[]))] ?_)|exact rt|fail)<;>(refine af ?_;intros;apply wr))
  by_cases h2:v=2
  ·subst h2;refine sZ func248 ntmps248 ?_;exact zE2 (qX1 (zC3 l n.frame hf)) trivial @zAa.eq_1
  refine sZ func248 ntmps248 ?_;exact zE2 trivial trivial (kX3 @h1 @h2 @zAa.eq_1)
 refine sZ func248 ntmps248 ?_;exact zE2 trivial trivial (kX4 @h7 @h8 @h9 @zAa.eq_1)
theorem zNc (n:NicD) (l:List Int) (s:Str) (hf:W32 n.buffer) (hs:s.length<=100000) (hb:l.length<=100000) :
  zAD prog 176 [.st n.row,memV l,.str s] (.tup [.st (zAi n l s).1.row,memV (zAi n l s).2.1,.bool (zAi n l s).2.2]):=by
 have hp:=zAf l;have hcl:=zCH (ints .u32 l) false 1 (.inl rfl) (by rw [zAN];exact hb)
 by_cases h1:n.posted=true
 ·by_cases h2:s.length<1
  ·have hE:zAi n l s=(n,l,false):=by unfold zAi;rw [if_neg (by omega)]
   rw [hE];have h2':(s.length:Int)<1:=by omega
   refine sZ func176 ntmps176 ?_;exact zE1 (qX1 (hcl)) trivial (kX2 @h1 @h2')
  have h2':¬ (s.length:Int)<1:=by omega
  by_cases h3:128<s.length
  ·have hE:zAi n l s=(n,l,false):=by unfold zAi;rw [if_neg (by omega)]
   rw [hE];have h3':128<(s.length:Int):=by omega
   refine sZ func176 ntmps176 ?_;exact zE1 (qX1 (hcl)) trivial (kX3 @h1 @h2' @h3')
  have h3':¬ 128<(s.length:Int):=by omega
  by_cases h4:n.buffer<pagesD l
  ·have hE:zAi n l s=({n with posted:=false,buffer:=0,received:=true,got:=s.length},zBd l n.buffer (s++(zCx l n.buffer).drop s.length),true):=by
    unfold zAi;rw [if_pos ⟨h1,by omega,by omega,h4⟩]
   rw [hE];have w1:IntKind.i64.wrap n.buffer=n.buffer:=zAA (by have:=hf.1;omega) (by omega)
   have w2:IntKind.u32.wrap (s.length:Int)=s.length:=u32_in (by omega) (by omega)
   have hL:=zGx hf.1 h4;have hT:(zCx l n.buffer).take 128=zCx l n.buffer:=List.take_of_length_le (by omega)
   have hS:=zFX l n.buffer (s++(zCx l n.buffer).drop s.length) hf.1 h4 (by simp [hL];omega)
   refine sZ func176 ntmps176 ?_;exact zE1 (qX3 (zC3 l n.buffer hf) (zLJ l n.buffer hf.1 h4) (hS)) trivial (kX9 @h1 @h2' @h3' @h4 @w1 @w2 @hL @hT @u32c)
  have hE:zAi n l s=(n,l,false):=by unfold zAi;rw [if_neg (by omega)]
  rw [hE];refine sZ func176 ntmps176 ?_;exact zE1 (qX2 (hcl) (zC3 l n.buffer hf)) trivial (kX4 @h1 @h2' @h3' @h4)
 have hE:zAi n l s=(n,l,false):=by unfold zAi;rw [if_neg (fun q=>h1 q.1)]
 rw [hE];refine sZ func176 ntmps176 ?_;exact zE1 (qX1 (hcl)) trivial @h1
def popB (x:Int):Int:=x % 2+x / 2 % 2+x / 4 % 2+x / 8 % 2+x / 16 % 2+x / 32 % 2+x / 64 % 2+x / 128 % 2
theorem popf:∀ k:Fin 256,(((([0,1,1,2,1,2,2,3,1,2,2,3,2,3,3,4,1,2,2,3,2,3,3,4,2,3,3,4,3,4,4,5,1,2,2,3,2,3,3,4,2,3,3,4,3,4,4,5,2,3,3,4,3,4,4,5,3,4,4,5,4,5,5,6,1,2,2,3,2,3,3,4,2,3,3,4,3,4,4,5,2,3,3,4,3,4,4,5,3,4,4,5,4,5,5,6,2,3,3,4,3,4,4,5,3,4,4,5,4,5,5,6,3,4,4,5,4,5,5,6,4,5,5,6,5,6,6,7,1,2,2,3,2,3,3,4,2,3,3,4,3,4,4,5,2,3,3,4,3,4,4,5,3,4,4,5,4,5,5,6,2,3,3,4,3,4,4,5,3,4,4,5,4,5,5,6,3,4,4,5,4,5,5,6,4,5,5,6,5,6,6,7,2,3,3,4,3,4,4,5,3,4,4,5,4,5,5,6,3,4,4,5,4,5,5,6,4,5,5,6,5,6,6,7,3,4,4,5,4,5,5,6,4,5,5,6,5,6,6,7,4,5,5,6,5,6,6,7,5,6,6,7,6,7,7,8]:List UInt8))[k.val]?.getD 0).toNat:Int)=popB (k.val:Int):=by decide +kernel
theorem zMT {x:Int} (h0:0<=x) (h1:x<256):(((([0,1,1,2,1,2,2,3,1,2,2,3,2,3,3,4,1,2,2,3,2,3,3,4,2,3,3,4,3,4,4,5,1,2,2,3,2,3,3,4,2,3,3,4,3,4,4,5,2,3,3,4,3,4,4,5,3,4,4,5,4,5,5,6,1,2,2,3,2,3,3,4,2,3,3,4,3,4,4,5,2,3,3,4,3,4,4,5,3,4,4,5,4,5,5,6,2,3,3,4,3,4,4,5,3,4,4,5,4,5,5,6,3,4,4,5,4,5,5,6,4,5,5,6,5,6,6,7,1,2,2,3,2,3,3,4,2,3,3,4,3,4,4,5,2,3,3,4,3,4,4,5,3,4,4,5,4,5,5,6,2,3,3,4,3,4,4,5,3,4,4,5,4,5,5,6,3,4,4,5,4,5,5,6,4,5,5,6,5,6,6,7,2,3,3,4,3,4,4,5,3,4,4,5,4,5,5,6,3,4,4,5,4,5,5,6,4,5,5,6,5,6,6,7,3,4,4,5,4,5,5,6,4,5,5,6,5,6,6,7,4,5,5,6,5,6,6,7,5,6,6,7,6,7,7,8]:List UInt8))[x.toNat]?.getD 0).toNat:Int)=popB x:=by
 have h:=popf ⟨x.toNat,by omega⟩
 rwa [show ((⟨x.toNat,by omega⟩:Fin 256).val:Int)=x by simp;omega] at h
theorem zFn (x:Int):0<=popB x/\popB x<=8:=by unfold popB;omega
theorem pb0 (g:Int):g % 256 % 2=g % 2:=by omega
theorem pb1 (g:Int):g % 256 / 2 % 2=g / 2 % 2:=by omega
theorem pb2 (g:Int):g % 256 / 4 % 2=g / 4 % 2:=by omega
theorem pb3 (g:Int):g % 256 / 8 % 2=g / 8 % 2:=by omega
theorem pb4 (g:Int):g % 256 / 16 % 2=g / 16 % 2:=by omega
theorem pb5 (g:Int):g % 256 / 32 % 2=g / 32 % 2:=by omega
theorem pb6 (g:Int):g % 256 / 64 % 2=g / 64 % 2:=by omega
theorem pb7 (g:Int):g % 256 / 128 % 2=g / 128 % 2:=by omega
theorem pb9 (g:Int):g / 256 / 2 % 2=g / 512 % 2:=by omega
theorem pb10 (g:Int):g / 256 / 4 % 2=g / 1024 % 2:=by omega
theorem pb11 (g:Int):g / 256 / 8 % 2=g / 2048 % 2:=by omega
theorem pb12 (g:Int):g / 256 / 16 % 2=g / 4096 % 2:=by omega
theorem pb13 (g:Int):g / 256 / 32 % 2=g / 8192 % 2:=by omega
theorem pb14 (g:Int):g / 256 / 64 % 2=g / 16384 % 2:=by omega
theorem pb15 (g:Int):g / 256 / 128 % 2=g / 32768 % 2:=by omega
theorem pb17 (g:Int):g / 65536 / 2 % 2=g / 131072 % 2:=by omega
theorem pb18 (g:Int):g / 65536 / 4 % 2=g / 262144 % 2:=by omega
theorem pb19 (g:Int):g / 65536 / 8 % 2=g / 524288 % 2:=by omega
theorem pb20 (g:Int):g / 65536 / 16 % 2=g / 1048576 % 2:=by omega
theorem pb21 (g:Int):g / 65536 / 32 % 2=g / 2097152 % 2:=by omega
theorem pb22 (g:Int):g / 65536 / 64 % 2=g / 4194304 % 2:=by omega
theorem pb23 (g:Int):g / 65536 / 128 % 2=g / 8388608 % 2:=by omega
theorem pb25 (g:Int):g / 16777216 / 2 % 2=g / 33554432 % 2:=by omega
theorem pb26 (g:Int):g / 16777216 / 4 % 2=g / 67108864 % 2:=by omega
theorem pb27 (g:Int):g / 16777216 / 8 % 2=g / 134217728 % 2:=by omega
theorem pb28 (g:Int):g / 16777216 / 16 % 2=g / 268435456 % 2:=by omega
theorem pb29 (g:Int):g / 16777216 / 32 % 2=g / 536870912 % 2:=by omega
theorem pb30 (g:Int):g / 16777216 / 64 % 2=g / 1073741824 % 2:=by omega
theorem pb31 (g:Int):g / 16777216 / 128 % 2=g / 2147483648 % 2:=by omega
theorem zJb {g:Int} (h:W32 g):popB (g / 16777216)+popB (g / 65536 % 256)+popB (g / 256 % 256)+popB (g % 256)=countB g:=by
 have e:countB g=g % 2+g / 2 % 2+g / 4 % 2+g / 8 % 2+g / 16 % 2+g / 32 % 2+g / 64 % 2+g / 128 % 2+g / 256 % 2+g / 512 % 2+g / 1024 % 2+g / 2048 % 2+g / 4096 % 2+g / 8192 % 2+g / 16384 % 2+g / 32768 % 2+g / 65536 % 2+g / 131072 % 2+g / 262144 % 2+g / 524288 % 2+g / 1048576 % 2+g / 2097152 % 2+g / 4194304 % 2+g / 8388608 % 2+g / 16777216 % 2+g / 33554432 % 2+g / 67108864 % 2+g / 134217728 % 2+g / 268435456 % 2+g / 536870912 % 2+g / 1073741824 % 2+g / 2147483648 % 2:=by simp [countB,List.range,List.range.loop]
 rw [e];unfold popB;simp only [pb0,pb1,pb2,pb3,pb4,pb5,pb6,pb7,pb9,pb10,pb11,pb12,pb13,pb14,pb15,pb17,pb18,pb19,pb20,pb21,pb22,pb23,pb25,pb26,pb27,pb28,pb29,pb30,pb31];clear e;generalize g % 2=x0;generalize g / 2 % 2=x1;generalize g / 4 % 2=x2;generalize g / 8 % 2=x3;generalize g / 16 % 2=x4;generalize g / 32 % 2=x5;generalize g / 64 % 2=x6;generalize g / 128 % 2=x7;generalize g / 256 % 2=x8;generalize g / 512 % 2=x9;generalize g / 1024 % 2=x10;generalize g / 2048 % 2=x11;generalize g / 4096 % 2=x12;generalize g / 8192 % 2=x13;generalize g / 16384 % 2=x14;generalize g / 32768 % 2=x15;generalize g / 65536 % 2=x16;generalize g / 131072 % 2=x17;generalize g / 262144 % 2=x18;generalize g / 524288 % 2=x19;generalize g / 1048576 % 2=x20;generalize g / 2097152 % 2=x21;generalize g / 4194304 % 2=x22;generalize g / 8388608 % 2=x23;generalize g / 16777216 % 2=x24;generalize g / 33554432 % 2=x25;generalize g / 67108864 % 2=x26;generalize g / 134217728 % 2=x27;generalize g / 268435456 % 2=x28;generalize g / 536870912 % 2=x29;generalize g / 1073741824 % 2=x30;generalize g / 2147483648 % 2=x31;omega
theorem zDx {g:Int} (h:W32 g):0<=countB g/\countB g<=32:=by
 rw [<- zJb h];have:=zFn (g / 16777216);have:=zFn (g / 65536 % 256);have:=zFn (g / 256 % 256);have:=zFn (g % 256);omega
theorem u8_in {n:Int} (h0:0<=n) (h1:n<256):IntKind.u8.wrap n=n:=by rw [IntKind.wrap_u8];omega
theorem zUy (g:Int) (h:W32 g):zAD prog 329 [uv g] (iv (countB g)):=by
 have h0:=h.1;have h1:=h.2;have q1:=zMT (x:=g / 16777216) (by omega) (by omega)
 have q2:=zMT (x:=g / 65536 % 256) (by omega) (by omega)
 have q3:=zMT (x:=g / 256 % 256) (by omega) (by omega)
 have q4:=zMT (x:=g % 256) (by omega) (by omega)
 have r1:=zFn (g / 16777216);have r2:=zFn (g / 65536 % 256);have r3:=zFn (g / 256 % 256);have r4:=zFn (g % 256);have e1:IntKind.u8.wrap (popB (g / 16777216)+popB (g / 65536 % 256))=popB (g / 16777216)+popB (g / 65536 % 256):=u8_in (by omega) (by omega)
 have e2:IntKind.u8.wrap (popB (g / 16777216)+popB (g / 65536 % 256)+popB (g / 256 % 256))=popB (g / 16777216)+popB (g / 65536 % 256)+popB (g / 256 % 256):=u8_in (by omega) (by omega)
 have e3:IntKind.u8.wrap (popB (g / 16777216)+popB (g / 65536 % 256)+popB (g / 256 % 256)+popB (g % 256))=countB g:=by rw [zJb h];have:=zDx h;exact u8_in (by omega) (by omega)
 have e4:IntKind.i64.wrap (countB g)=countB g:=by have:=zDx h;exact zAA (by omega) (by omega)
 refine sZ func329 ntmps329 ?_
 (refine af1 (kX12 @zNK @zFI @zBx @zBz @q1 @q2 @q3 @q4 @e1 @e2 @e3 @e4) ?_;intros;apply wr)
 repeat' ((first|(refine zAC rfl (fun h=>?_) (fun h=>?_)<;>(first|(simp [zNK,zFI,zBx,zBz,q1,q2,q3,q4,e1,e2,e3,e4] at h;done)|(simp [zNK,zFI,zBx,zBz,q1,q2,q3,q4,e1,e2,e3,e4] at h)|skip)<;>(first|(exfalso;omega)|skip))|(refine zAE 19 [0,1,3,0,8,24,56,127,0,256,768,1792,4095,0,8192,24576,65535,131071,262143] [(16,([[],[0],[0,1],[],[3],[3,4],[3,4,5],[0,1,2,3,4,5,6],[],[8],[8,9],[8,9,10],[0,1,2,3,4,5,6,7,8,9,10,11],[],[13],[13,14]],[])),(1,([],[])),(1,([],[])),(1,([],[]))] ?_)|exact rt1 (kX12 @zNK @zFI @zBx @zBz @q1 @q2 @q3 @q4 @e1 @e2 @e3 @e4)|fail)<;>(refine af1 (kX12 @zNK @zFI @zBx @zBz @q1 @q2 @q3 @q4 @e1 @e2 @e3 @e4) ?_;intros;apply wr))
theorem zJN (t g:Int) (hw:W32 g):zAD prog 308 [.st [uv t,uv g]] (iv (countB g)):=by
 refine sZ func308 ntmps308 ?_;exact wx (qX1 (zUy g hw)) trivial
theorem zM8 (t g:Int) (hw:W32 g):zAD prog 293 [.st [uv t,uv g]] (.bool (zA8 t g)):=by
 have e:IntKind.u32.wrap (countB g)=countB g:=by have:=zDx hw;exact u32_in (by omega) (by omega)
 refine sZ func293 ntmps293 ?_
 (refine af1 (kX2 @e @zA8.eq_1) ?_;intros;apply wr)
 repeat' ((first|(refine zAC rfl (fun h=>?_) (fun h=>?_)<;>(first|(simp [e,zA8] at h;done)|(simp [e,zA8] at h)|skip)<;>(first|(exfalso;omega)|skip))|refine cc1 (zJN t g hw) (kX2 @e @zA8.eq_1) ?_|(refine zAE 7 [0,1,3,0,8,31,63] [(5,([[],[0],[0,1],[],[3]],[(4,1)])),(1,([],[])),(1,([],[]))] ?_)|exact rt1 (kX2 @e @zA8.eq_1)|fail)<;>(refine af1 (kX2 @e @zA8.eq_1) ?_;intros;apply wr))
theorem zQ2 (t g p:Int) (hw:W32 g):zAD prog 245 [.st [uv t,uv g],iv p] (uv (zQ1 t g p)):=by
 have e:IntKind.u32.wrap (countB g)=countB g:=by have:=zDx hw;exact u32_in (by omega) (by omega)
 refine sZ func245 ntmps245 ?_;exact wx1 (qX1 (zJN t g hw)) trivial (kX2 @e @zQ1.eq_1)
end Go.Proofs.YthjpcmecgjfilaaGreat
end
section
namespace Go.Proofs.YthjpcmecgjfilaaGreat
open Go.Ab Go.RowKit Tryz
open Go.Proofs (Any.strings_Repeat)
theorem zEE {C D E G:Prop} (c:C) (d:D) (e:E) (t:C->D->E->G:=by intro c d e;(refine af1 e ?_;intros;apply wr);repeat' ((first|(refine zAC rfl (fun h=>?_) (fun h=>?_)<;>(first|(simp [e] at h;done)|(simp [e] at h)|skip)<;>(first|(exfalso;omega)|skip))|((first|refine .inl ⟨1,_,d.1,?_⟩|refine ⟨1,_,d.1,?_⟩);simp [aftC,aftE,noX,noXc,noX1,e];first|refine And.intro zAM ?_|skip)|((first|refine .inl ⟨1,_,d.2.1,?_⟩|refine ⟨1,_,d.2.1,?_⟩);simp [aftC,aftE,noX,noXc,noX1,e];first|refine And.intro zAM ?_|skip)|refine cc1 c.1 e ?_|refine cc1 c.2.1 e ?_|refine cc1 c.2.2.1 e ?_|refine cc1 c.2.2.2.1 e ?_|refine cc1 c.2.2.2.2.1 e ?_|refine cc1 c.2.2.2.2.2.1 e ?_|(refine zAE (rid:=2) 5 [0,0,2,7,15] [(3,([[],[],[1]],[(0,2)])),(1,([],[])),(1,([],[]))] ?_)|(refine zAE (rid:=12) 5 [0,0,2,7,15] [(3,([[],[],[1]],[(0,2)])),(1,([],[])),(1,([],[]))] ?_)|exact rt1 e|fail)<;>(refine af1 e ?_;intros;apply wr))):G:=t c d e
theorem bldX:Builder.Extra prog repLays_ren:={sizeBuilder:=by kernel_rfl,liesBuilder:=by kernel_rfl,t5:=Tryz.underlying5,a5:=Tryz.isAgg5,z5:=Tryz.sizeOf5,v5:=Tryz.zeroValue5,infoByte:=by kernel_rfl,cellsByte:=by kernel_rfl,sizeByte:=by kernel_rfl,neB5:=by decide}
theorem vals2 {a b:Value} {vals:Array Value} (hs:vals.size=2) (h0:vals.getD 0 undef=a) (h1:vals.getD 1 undef=b):vals=#[a,b]:=by
 apply Array.ext
 ·simpa using hs
 intro i hi hi'
 have:i=0\/i=1:=by simp at hi';omega
 rcases this with rfl|rfl
 ·simpa [Array.getD,hi] using h0
 simpa [Array.getD,hi] using h1
theorem zSN (n:Nat):Lib.repeatL ([0]:Str) n=List.replicate n 0:=by
 induction n with
 | zero=>rfl
 | succ n ih=>simp [Lib.repeatL,List.replicate_succ,ih]
theorem rep_ok:zAD prog 311 [.str [0],iv 128] (.str zE5):=by
 refine ⟨by kernel_rfl,fun w Xa vals M hXa hs hrr=>?_⟩
 obtain rfl:=vals2 hs (zDC (hrr 0 _ rfl)) (zB7 (hrr 1 _ rfl));have h:=Any.strings_Repeat repLays bldX ⟨[0].toArray⟩ 128 w (by omega) (by simp [ByteArray.size])
 refine h.mono ?_;rintro e w' ⟨rfl,hb⟩;have he:Lib.repeatL (⟨[0].toArray⟩:ByteArray).data.toList 128=zE5:=zSN 128
 rw [he];refine ⟨_,rfl,hb,fun M n' hM=>⟨.str _ _,fun id o ho=>?_,fun id id' o o' g ho=>?_⟩⟩
 ·simp [V.fcells,V.cells,obsL,lookO] at ho
 simp [V.fcells,V.cells,obsL,lookO] at ho
theorem pow_in {v:Int} (h0:0<=v) (h1:v<32):IntKind.u32.wrap (1*2 ^ min v.toNat 32)=2 ^ v.toNat:=by
 have h:∀ k:Fin 32,IntKind.u32.wrap (1*2 ^ min k.val 32)=2 ^ k.val:=by decide +kernel
 exact h ⟨v.toNat,by omega⟩
theorem zN9 (t g:Int) (l:List Int) (p v:Int) (hg:W32 g) (hv:W32 v) (hb:l.length<=100000) :
  zAD prog 249 [.st [uv t,uv g],memV l,iv p,uv v] (.tup [.st [uv t,uv (zA7 g l p v).1],memV (zA7 g l p v).2]):=by
 have hp:=zAf l;have hcl:=zCH (ints .u32 l) false 1 (.inl rfl) (by rw [zAN];exact hb)
 by_cases h32:32<=v
 ·have hE:zA7 g l p v=(g,l):=by unfold zA7;rw [if_pos h32]
  rw [hE];refine sZ func249 ntmps249 ?_;exact zEE (qX1 (hcl)) trivial @h32
 have hpw:=pow_in hv.1 (by omega:v<32)
 simp at hpw;have hw1:IntKind.i64.wrap v=v:=zAA (by have:=hv.1;omega) (by omega)
 have hia:=zRe hg v.toNat (by omega)
 by_cases h10:p=10
 ·subst h10;by_cases hpg:v<pagesD l
  ·by_cases hbit:g / 2 ^ v.toNat % 2=0
   ·have hE:zA7 g l 10 v=(ior .u32 g (2 ^ v.toNat),zBd l v zE5):=by unfold zA7;rw [if_neg h32,if_pos rfl,if_pos ⟨hpg,hbit⟩]
    rw [hE];refine sZ func249 ntmps249 ?_;exact zEE (qX3 (zBo l) (rep_ok) (zFX l v zE5 hv.1 hpg (by simp [zE5]))) trivial (kX6 @h32 @hpw @hw1 @hia @hpg @hbit)
   have hE:zA7 g l 10 v=(g,l):=by unfold zA7;rw [if_neg h32,if_pos rfl,if_neg (fun q=>hbit q.2)]
   rw [hE];refine sZ func249 ntmps249 ?_;exact zEE (qX2 (zBo l) (hcl)) trivial (kX6 @h32 @hpw @hw1 @hia @hpg @hbit)
  have hE:zA7 g l 10 v=(g,l):=by unfold zA7;rw [if_neg h32,if_pos rfl,if_neg (fun q=>hpg q.1)]
  rw [hE];refine sZ func249 ntmps249 ?_;exact zEE (qX2 (zBo l) (hcl)) trivial (kX4 @h32 @hpw @hw1 @hpg)
 by_cases h11:p=11
 ·subst h11;have hE:zA7 g l 11 v=(zCi .u32 g (2 ^ v.toNat),l):=by unfold zA7;rw [if_neg h32];simp
  rw [hE];refine sZ func249 ntmps249 ?_;exact zEE (qX1 (hcl)) trivial (kX2 @h32 @hpw)
 have hE:zA7 g l p v=(g,l):=by unfold zA7;rw [if_neg h32,if_neg h10,if_neg h11]
 rw [hE];refine sZ func249 ntmps249 ?_;exact zEE (qX1 (hcl)) trivial (kX4 @h32 @hpw @h10 @h11)
end Go.Proofs.YthjpcmecgjfilaaGreat
end
