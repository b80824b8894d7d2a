/- A part of the proof of ReplicaBare+ReplicaWindow. -/
import Derived.Test.YtoondlebmacanaaGreatB45
set_option linter.unusedSimpArgs false
set_option linter.unusedVariables false
set_option maxHeartbeats 16000000
set_option maxRecDepth 100000
section
namespace Go.Proofs.YtoondlebmacanaaGreat
open Go.Ab Go.RowKit
theorem zBa {C D E G:Prop} (c:C) (d:D) (e:E) (t:C→D→E→G:=by intro c d e;(refine af1 e ?_;intros;apply wr);repeat' ((first|(refine zAC rfl (fun h=>?_) (fun h=>?_)<;>(first|(simp [e] at h;done)|(simp [e] at h)|skip)<;>(first|(exfalso;omega)|skip))|((first|refine .inl ⟨1,_,d.1,?_⟩|refine ⟨1,_,d.1,?_⟩);simp [aftC,aftE,noX,noXc,noX1,e];first|refine And.intro zAP ?_|skip)|((first|refine .inl ⟨1,_,d.2.1,?_⟩|refine ⟨1,_,d.2.1,?_⟩);simp [aftC,aftE,noX,noXc,noX1,e];first|refine And.intro zAP ?_|skip)|refine cc1 c.1 e ?_|refine cc1 c.2.1 e ?_|refine cc1 c.2.2.1 e ?_|refine cc1 c.2.2.2.1 e ?_|refine cc1 c.2.2.2.2.1 e ?_|refine cc1 c.2.2.2.2.2.1 e ?_|(refine zAv (.node 2 3 (.leaf [0,1,2,3,4] (bN [0,0,2,7,15]) [(3,([[],[],[1]],[(0,2)])),(1,([],[])),(1,([],[]))]) (.leaf [0,1,3,2,4] (bN [0,0,1,7,15]) [(3,([[],[],[0]],[(1,2)])),(1,([],[])),(1,([],[]))])) (by kernel_rfl) (by kernel_rfl) ?_;simp only [PT.run];repeat' (with_reducible apply And.intro);all_goals (simp only [zBZ,zWq,List.map_nil,zWi,zWn]))|exact rt1 e|fail)<;>(refine af1 e ?_;intros;apply wr))):G:=t c d e
abbrev zFq (d:DskD) (l:List Int) (p v t:Int):Prop:=zAD Tryz.prog 202 [.st d.row,memV l,iv p,uv v,lv t] (.tup [.st (zAn d l p v t).1.row,zFb (zAn d l p v t).2])
theorem zP7 (d:DskD) (l:List Int) (p v t:Int) (h6:¬ p=6):zFq d l p v t:=by
 unfold zFq;by_cases h4:p=4
 ·subst h4;refine sZ Tryz.func202 Tryz.ntmps202 ?_;exact zBa trivial trivial @zAn.eq_1
 by_cases h5:p=5
 ·subst h5;refine sZ Tryz.func202 Tryz.ntmps202 ?_;exact zBa trivial trivial @zAn.eq_1
 refine sZ Tryz.func202 Tryz.ntmps202 ?_;exact zBa trivial trivial (kX4 @h4 @h5 @h6 @zAn.eq_1)
theorem zP8 (d:DskD) (l:List Int) (v t:Int) (n1:¬ v=1) (n2:¬ v=2):zFq d l 6 v t:=by
 unfold zFq;by_cases h0:v=0
 ·subst h0;by_cases hp:zBj d=true
  ·have hE:zAn d l 6 0 t=({d with state:=0},[]):=by simp [zAn,hp]
   rw [hE];have hq:(d.state=2∨d.state=3):=by simpa [zBj] using hp
   rcases hq with q|q
   ·refine sZ Tryz.func202 Tryz.ntmps202 ?_;exact zBa trivial trivial @q
   refine sZ Tryz.func202 Tryz.ntmps202 ?_;exact zBa trivial trivial @q
  have hE:zAn d l 6 0 t=(d,[]):=by simp [zAn,hp]
  rw [hE];have hq:¬ d.state=2∧¬ d.state=3:=by simpa [zBj] using hp
  refine sZ Tryz.func202 Tryz.ntmps202 ?_;exact zBa trivial trivial (kX2 @hq.1 @hq.2)
 have hE:zAn d l 6 v t=(d,[]):=by simp [zAn,n1,n2,h0]
 rw [hE];refine sZ Tryz.func202 Tryz.ntmps202 ?_;exact zBa trivial trivial (kX3 @h0 @n1 @n2)
theorem zP9 (d:DskD) (l:List Int) (v t:Int) (hf:W32 d.frame) (hv:v=1∨v=2):zFq d l 6 v t:=by
 unfold zFq;have hp:=zAb l;have hg:=zCP l d.frame hf;have w1:IntKind.i64.wrap v=v:=by rcases hv with rfl|rfl<;>decide
 have w2:IntKind.i64.wrap d.frame=d.frame:=zAB (by have:=hf.1;omega) (by have:=hf.2;omega)
 have hE0:zAn d l 6 v t=zAo d l v t:=by rcases hv with rfl|rfl<;>simp [zAn]
 rw [hE0];by_cases hs:d.state=0
 ·by_cases hb:d.blocks≤d.block
  ·have hE:zAo d l v t=({d with state:=3},[]):=by unfold zAo;rw [if_neg (by simp [hs]),if_pos (.inl hb)]
   rw [hE];rcases hv with rfl|rfl
   ·refine sZ Tryz.func202 Tryz.ntmps202 ?_;exact zBa (qX1 (hg)) trivial (kX2 @hs @hb)
   refine sZ Tryz.func202 Tryz.ntmps202 ?_;exact zBa (qX1 (hg)) trivial (kX2 @hs @hb)
  by_cases hq:d.frame<pagesD l
  ·have hB:=zFB l d.frame hf.1 hq;rcases hv with rfl|rfl
   ·have hE:zAo d l 1 t=({d with state:=1,cmd:=1,opBlock:=d.block,opFrame:=d.frame,opData:=[]},[⟨3,t,d.block,[]⟩]):=by
     unfold zAo zA3;rw [if_neg (by simp [hs]),if_neg (by omega)];simp
    rw [hE];have hR:=zIk {d with state:=1,cmd:=1,opBlock:=d.block,opFrame:=d.frame,opData:=[]} t
    simp [zA3] at hR;refine sZ Tryz.func202 Tryz.ntmps202 ?_;exact zBa (qX2 (hg) (hR)) trivial (kX4 @hs @hb @hq @zK0)
   have hE:zAo d l 2 t=({d with state:=1,cmd:=2,opBlock:=d.block,opFrame:=d.frame,opData:=zBS l d.frame},[⟨4,t,d.block,zBS l d.frame⟩]):=by
    unfold zAo zA3;rw [if_neg (by simp [hs]),if_neg (by omega)];simp
   rw [hE];have hR:=zIk {d with state:=1,cmd:=2,opBlock:=d.block,opFrame:=d.frame,opData:=zBS l d.frame} t
   simp [zA3] at hR;refine sZ Tryz.func202 Tryz.ntmps202 ?_;exact zBa (qX3 (hg) (hB) (hR)) trivial (kX5 @hs @hb @hq @w2 @zK0)
  have hE:zAo d l v t=({d with state:=3},[]):=by unfold zAo;rw [if_neg (by simp [hs]),if_pos (.inr (by omega))]
  rw [hE];rcases hv with rfl|rfl
  ·refine sZ Tryz.func202 Tryz.ntmps202 ?_;exact zBa (qX1 (hg)) trivial (kX3 @hs @hb @hq)
  refine sZ Tryz.func202 Tryz.ntmps202 ?_;exact zBa (qX1 (hg)) trivial (kX3 @hs @hb @hq)
 have hE:zAo d l v t=(d,[]):=by unfold zAo;rw [if_pos hs]
 rw [hE];rcases hv with rfl|rfl
 ·refine sZ Tryz.func202 Tryz.ntmps202 ?_;exact zBa trivial trivial @hs
 refine sZ Tryz.func202 Tryz.ntmps202 ?_;exact zBa trivial trivial @hs
theorem zNm (d:DskD) (l:List Int) (p v t:Int) (hf:W32 d.frame):zFq d l p v t:=by
 by_cases h6:p=6
 ·subst h6;by_cases hv:v=1∨v=2
  ·exact zP9 d l v t hf hv
  exact zP8 d l v t (fun q=>hv (.inl q)) (fun q=>hv (.inr q))
 exact zP7 d l p v t h6
end Go.Proofs.YtoondlebmacanaaGreat
end
