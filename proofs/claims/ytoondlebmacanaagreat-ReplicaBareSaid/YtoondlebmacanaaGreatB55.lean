/- A part of the proof of ReplicaBare+ReplicaWindow. -/
import Derived.Test.YtoondlebmacanaaGreatB06
import Derived.Test.YtoondlebmacanaaGreatB20
import Derived.Test.YtoondlebmacanaaGreatB31
set_option linter.unusedSimpArgs false
set_option linter.unusedVariables false
set_option maxHeartbeats 16000000
set_option maxRecDepth 100000
section
namespace Go.Proofs.YtoondlebmacanaaGreat
open Go.Ab Go.RowKit
theorem zLf (n k:Int) (hk:k≤1000):zAD Tryz.prog 30 [iv n,iv k] (.str (zCn n k.toNat)):=by
 refine sX Tryz.func30 Tryz.ntmps30 ?_;intros;apply wr;refine zAW 5 5 1 (by decide) rfl ?_
 obtain ⟨I,hI⟩:∃ I:Nat→St→Prop,I=(fun kk ss=>∃ (i:Nat) ,i≤k.toNat∧kk=k.toNat-i∧(True)∧ss=⟨22,[(6,.int .i64 i),(5,.own 0),(1,iv k),(0,iv n)],1,[(0,some ⟨5,1,false,false,zAU (zCn n i)⟩)],0⟩):=⟨_,rfl⟩
 refine lX I (id) (by rw [hI];exact ⟨0,by simp,rfl,trivial,rfl⟩) ?_
 intro kk ss hIk _
 rw [hI] at hIk;obtain ⟨i,hi,rfl,hx,rfl⟩:=hIk;refine au ?_;intros;apply wr;refine zAC rfl (fun h=>?_) (fun h=>?_)
 ·simp at h;have hl:=zTi n i;have hb:=zLY n i;have hw:IntKind.i64.wrap ((i:Int) / 9)=(i:Int) / 9:=zAB (by omega) (by omega)
  refine au1 @hw ?_;intros;apply wr;refine ccm1 (zL9 n ((i:Int) / 9)) (kX3 @hl @hb @maxLen.eq_1) ?_;refine aum1 (kX3 @hl @hb @maxLen.eq_1) ?_;intros;apply wr;exact aX (fun x=>if x=0 then 3 else x) (by rw [hI];exact ⟨i+1,by omega,rfl,trivial,rfl⟩) (kX2 (zAB (n:=(i:Int)+1) (by omega) (by omega)) @zHf)
 simp at h;have hi:i=k.toNat:=by omega
 subst hi;have hs:=zCg (zCn n k.toNat);have hB:=zCf (zCn n k.toNat);refine aum1 (kX2 @hs @hB) ?_;intros;apply wr;refine zAA ?_;simp
theorem zRk (n:Int):∃ e:EvD,W32 e.n∧e.data.length≤1000∧zAD Tryz.prog 8 [iv n] (.st e.row):=by
 have hm:=zL9 n 2;generalize mixA n 2=v at hm;have w1:W32 1:=⟨by decide,by decide⟩
 have e8:v.fdiv (2 ^ min 8 IntKind.i64.bits)=v.fdiv 256:=rfl;by_cases h0:v.tmod 7=0
 ·refine ⟨⟨2,0,[]⟩,⟨by decide,by decide⟩,by simp,?_⟩
  refine sZ Tryz.func8 Tryz.ntmps8 ?_;exact wx1 (qX1 (hm)) trivial @h0
 by_cases h1:v.tmod 7=1
 ·refine ⟨⟨3,IntKind.u32.wrap (iand .i64 (v.fdiv 256) 255),[]⟩,uw_w _,by simp,?_⟩
  refine sZ Tryz.func8 Tryz.ntmps8 ?_;exact wx1 (qX1 (hm)) trivial (kX3 @h0 @h1 @e8)
 by_cases h2:v.tmod 7=2
 ·refine ⟨⟨3,IntKind.u32.wrap (iand .i64 (v.fdiv 256) 255),[]⟩,uw_w _,by simp,?_⟩
  refine sZ Tryz.func8 Tryz.ntmps8 ?_;exact wx1 (qX1 (hm)) trivial (kX4 @h0 @h1 @h2 @e8)
 by_cases h3:v.tmod 7=3
 ·refine ⟨⟨4,1,[]⟩,w1,by simp,?_⟩
  refine sZ Tryz.func8 Tryz.ntmps8 ?_;exact wx1 (qX1 (hm)) trivial (kX5 @h0 @h1 @h2 @h3 @e8)
 by_cases h4:v.tmod 7=4
 ·refine ⟨⟨4,1,zCn v 128⟩,w1,by simp [zEn],?_⟩
  refine sZ Tryz.func8 Tryz.ntmps8 ?_;exact wx1 (qX2 (hm) (zLf v 128 (by decide))) trivial (kX6 @h0 @h1 @h2 @h3 @h4 @e8)
 by_cases h5:v.tmod 7=5
 ·have hk:IntKind.i64.wrap (1+(v.fdiv 256).tmod 40)≤1000:=by
   have h1:=Int.tmod_lt_of_pos (v.fdiv 256) (show (0:Int)<40 by decide)
   have h2:=Int.lt_tmod_of_pos (v.fdiv 256) (show (0:Int)<40 by decide)
   rw [zAB (by omega) (by omega)];omega
  have hd:=zLf v _ hk;refine ⟨⟨5,0,zCn v (IntKind.i64.wrap (1+(v.fdiv 256).tmod 40)).toNat⟩,zA1,by rw [zEn];omega,?_⟩
  refine sZ Tryz.func8 Tryz.ntmps8 ?_;exact wx1 (qX2 (hm) (hd)) trivial (kX7 @h0 @h1 @h2 @h3 @h4 @h5 @e8)
 by_cases h6:(v.fdiv 256).tmod 4=0
 ·refine ⟨⟨4,0,[]⟩,zA1,by simp,?_⟩
  refine sZ Tryz.func8 Tryz.ntmps8 ?_;exact wx1 (qX1 (hm)) trivial (kX8 @h0 @h1 @h2 @h3 @h4 @h5 @h6 @e8)
 refine ⟨⟨6,IntKind.u32.wrap ((v.fdiv 256).tmod 3),[]⟩,uw_w _,by simp,?_⟩
 refine sZ Tryz.func8 Tryz.ntmps8 ?_;exact wx1 (qX1 (hm)) trivial (kX8 @h0 @h1 @h2 @h3 @h4 @h5 @h6 @e8)
end Go.Proofs.YtoondlebmacanaaGreat
end
