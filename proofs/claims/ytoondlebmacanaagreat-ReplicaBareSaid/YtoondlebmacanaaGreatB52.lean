/- A part of the proof of ReplicaBare+ReplicaWindow. -/
import Derived.Test.YtoondlebmacanaaGreatB34
import Derived.Test.YtoondlebmacanaaGreatB51
set_option linter.unusedSimpArgs false
set_option linter.unusedVariables false
set_option maxHeartbeats 16000000
set_option maxRecDepth 100000
section
namespace Go.Proofs.YtoondlebmacanaaGreat
open Go.Ab Go.RowKit
theorem img_k {k:Int} (l:List Int) (h:k<2):ints .u32 (kW++List.replicate 85 0)++ints .u32 (zCX l)=ints .u32 (imgD k l):=by
 unfold imgD;rw [if_pos h];simp [ints]
theorem img_c {k:Int} (l:List Int) (h:¬ k<2):ints .u32 (zCX l)=ints .u32 (imgD k l):=by
 unfold imgD;rw [if_neg h]
theorem kW_s (i:Nat):ints .u32 (kW++List.replicate i 0)++[[V.int .u32 0]]=ints .u32 (kW++List.replicate (i+1) 0):=by
 rw [List.replicate_succ'];simp [ints]
theorem zSK (kind:Int) (l:List Int) (hl:l.length≤60)
  (hrun:zAD Tryz.prog 34 [.st (newD (imgD 1 l)).row,nilE,lv 87] (.tup [.st (itD (newD (imgD 1 l)) 87).row,.sl 4 false [],iv 0,iv 0])) :
  zAD Tryz.prog 13 [iv kind,.sl 1 false (ints .i64 l)] (.st (mkD (kind % 3) l).row):=by
 have hr:=zA0 kind 3 (by decide) (by decide)
 have hcode:=zRZ l (by omega)
 have hcl:(ints .u32 (zCX l)).length=l.length:=by rw [zAN,zDq]
 have hil:=zIL (kind % 3) l;have hnew:=zVO (imgD (kind % 3) l) (by omega)
 have hmk:mkD (kind % 3) l=if kind % 3=1 then itD (newD (imgD (kind % 3) l)) 87 else newD (imgD (kind % 3) l):=rfl
 have hil2:¬ (256:Int)<((ints .u32 (imgD (kind % 3) l)).length:Int):=by rw [zAN];omega
 by_cases hk2:kind % 3<2
 ·have hap2:=img_k l hk2;by_cases hk1:kind % 3=1
  ·rw [hmk,if_pos hk1];rw [hk1] at hnew hap2 hil2 ⊢;refine sX Tryz.func13 Tryz.ntmps13 ?_;intros;apply wr;refine cX (hr) ?_;intros;apply wr;refine gT10 @hk2 rfl ?_;intros;apply wr;refine cX (As.kernel_ok) ?_;intros;apply wr;obtain ⟨I,hI⟩:∃ I:Nat→St→Prop,I=(fun kk ss=>∃ (i:Nat) ,i≤85∧kk=85-i∧(True)∧ss=⟨47,[(5,.own 3),(0,iv (kind % 3)),(1,.sl 1 false (ints .i64 l)),(4,.ptr 0 49 0 0)],6,[(3,some ⟨25,1,false,false,ints .u32 (kW++List.replicate i 0)⟩),(0,some ⟨42,49,true,false,[zMR0]⟩)],0⟩):=⟨_,rfl⟩
   refine lX I (id) (by rw [hI];exact ⟨0,by simp,rfl,trivial,rfl⟩) ?_
   intro kk ss hIk _
   rw [hI] at hIk;obtain ⟨i,hi,rfl,hx,rfl⟩:=hIk;have hL:(ints .u32 (kW++List.replicate i 0)).length=75+i:=by rw [zAN,zWj,List.length_replicate];rfl
   have hap:=kW_s i;refine au1 @hL ?_;intros;apply wr;refine zAC rfl (fun hh=>?_) (fun hh=>?_)
   ·simp at hh;refine au1 (kX3 @hL @hap @maxLen.eq_1) ?_;intros;apply wr;exact aX (fun x=>if x=3 then 7 else x) (by rw [hI];exact ⟨i+1,by omega,rfl,trivial,rfl⟩) (kX2 (zAB (n:=(i:Int)+1) (by omega) (by omega)) @hap)
   simp at hh;have hi85:i=85:=by omega
   subst hi85;generalize hZ:kW++List.replicate 85 0=Z at hL hap2 ⊢;refine au1 @hL ?_;intros;apply wr;refine cY (hcode) (kX4 @hL @hcl @maxLen.eq_1 @hap2) ?_;intros;apply wr;refine gF11 @hil2 rfl @hil2 ?_;intros;apply wr;refine cX (hnew) ?_;intros;apply wr;refine gT10 @hk1 rfl ?_;intros;apply wr;refine cX (hrun) ?_;intros;apply wr;refine zAI ?_;refine zAA ?_;simp
  rw [hmk,if_neg hk1];refine sX Tryz.func13 Tryz.ntmps13 ?_;intros;apply wr;refine cX (hr) ?_;intros;apply wr;refine gT10 @hk2 rfl ?_;intros;apply wr;refine cX (As.kernel_ok) ?_;intros;apply wr;obtain ⟨I,hI⟩:∃ I:Nat→St→Prop,I=(fun kk ss=>∃ (i:Nat) ,i≤85∧kk=85-i∧(True)∧ss=⟨47,[(5,.own 3),(0,iv (kind % 3)),(1,.sl 1 false (ints .i64 l)),(4,.ptr 0 49 0 0)],6,[(3,some ⟨25,1,false,false,ints .u32 (kW++List.replicate i 0)⟩),(0,some ⟨42,49,true,false,[zMR0]⟩)],0⟩):=⟨_,rfl⟩
  refine lX I (id) (by rw [hI];exact ⟨0,by simp,rfl,trivial,rfl⟩) ?_
  intro kk ss hIk _
  rw [hI] at hIk;obtain ⟨i,hi,rfl,hx,rfl⟩:=hIk;have hL:(ints .u32 (kW++List.replicate i 0)).length=75+i:=by rw [zAN,zWj,List.length_replicate];rfl
  have hap:=kW_s i;refine au1 @hL ?_;intros;apply wr;refine zAC rfl (fun hh=>?_) (fun hh=>?_)
  ·simp at hh;refine au1 (kX3 @hL @hap @maxLen.eq_1) ?_;intros;apply wr;exact aX (fun x=>if x=3 then 7 else x) (by rw [hI];exact ⟨i+1,by omega,rfl,trivial,rfl⟩) (kX2 (zAB (n:=(i:Int)+1) (by omega) (by omega)) @hap)
  simp at hh;have hi85:i=85:=by omega
  subst hi85;generalize hZ:kW++List.replicate 85 0=Z at hL hap2 ⊢;refine au1 @hL ?_;intros;apply wr;refine cY (hcode) (kX4 @hL @hcl @maxLen.eq_1 @hap2) ?_;intros;apply wr;refine gF11 @hil2 rfl @hil2 ?_;intros;apply wr;refine cX (hnew) ?_;intros;apply wr;refine gF10 @hk1 rfl ?_;intros;apply wr;refine zAI ?_;refine zAA ?_;simp
 have hap2:=img_c l hk2;rw [hmk,if_neg (by omega)]
 refine sX Tryz.func13 Tryz.ntmps13 ?_;intros;apply wr;refine cX (hr) ?_;intros;apply wr;refine gF10 @hk2 rfl ?_;intros;apply wr;refine cY (hcode) (kX3 @hcl @maxLen.eq_1 @hap2) ?_;intros;apply wr;refine gF11 @hil2 rfl @hil2 ?_;intros;apply wr;refine cX (hnew) ?_;intros;apply wr;have hk1:¬ kind % 3=1:=by omega
 refine gF10 @hk1 rfl ?_;intros;apply wr;refine zAI ?_;refine zAA ?_;simp
theorem zMP {m:MchD} (n:Nat) (hs:∀ k<n,(itD m k).count=k∧runsD (itD m k)=true∧readsD (itD m k)=false∧(goD (itD m k) 0).2=[]) (hc:(itD m n).count=n):∀ j,j≤n→Tr n (itD m (n-j)) [] [] (itD m n) []
 | 0,_=>.nil hc rfl
 | j+1,hj=>by
  obtain ⟨h1,h2,h3,h4⟩:=hs (n-(j+1)) (by omega)
  have ih:=zMP n hs hc j (by omega)
  have e:itD m (n-j)=(goD (itD m (n-(j+1))) 0).1:=by
   rw [show n-j=(n-(j+1))+1 by omega];rfl
  rw [e] at ih;have:=Tr.go (by omega) h2 h3 (by simp) ih
  rwa [h4] at this
theorem zVr (l:List Int) (hl:l.length≤60):zAD Tryz.prog 34 [.st (newD (imgD 1 l)).row,nilE,lv 87] (.tup [.st (itD (newD (imgD 1 l)) 87).row,.sl 4 false [],iv 0,iv 0]):=by
 have hi:=zIL 1 l;have h1:=zT0 (zTs 1 l) (by omega)
 have h2:=zME (w:=imgD 1 l) (by omega)
 have hq:∀ j<87,zHt (itD (newD (imgD 1 l)) j)=true:=by
  intro j hj
  rw [zTz l hl];exact List.all_eq_true.1 (k_q1 fun i=>(zCX l).getD i 0) j (List.mem_range.2 hj)
 have h0:(newD (imgD 1 l)).count=0:=rfl;generalize newD (imgD 1 l)=m at *
 have hit:∀ k≤87,OkM (itD m k)∧mayD (itD m k)=true∧(itD m k).count=k∧(itD m k).dk=m.dk:=fun k hk=>it_ok h1 h2 h0 k (by omega) fun j hj=>hq j (by omega)
 have hT:=zMP (m:=m) 87 (fun k hk=>by
  obtain ⟨g1,g2,g3,g4⟩:=hit k (by omega)
  have q:=hq k hk;unfold zHt at q;simp only [zWd,Bool.not_eq_true'] at q;have hr:runsD (itD m k)=true:=by unfold runsD;rw [g2,q.1,q.2.1,g3];simp;omega
  refine ⟨g3,hr,by rw [← zT4 hr];exact q.2.2.1,?_⟩
  first|exact (zIf q.2.2.2).2|exact (zIf q.2.2.2.1).2) (hit 87 (by omega)).2.2.1 87 (by omega)
 have hR:=zLD m (itD m 87) [] [] [] 87 h1 h2 hT (by omega) (by rw [h0];omega) (by simp) rfl rfl (by simp)
 exact hR.wk (by simp [wkT,wkC,wk1,ents])
theorem zL7 (kind:Int) (l:List Int) (hl:l.length≤60):zAD Tryz.prog 13 [iv kind,.sl 1 false (ints .i64 l)] (.st (mkD (kind % 3) l).row):=zSK kind l hl (zVr l hl)
end Go.Proofs.YtoondlebmacanaaGreat
end
