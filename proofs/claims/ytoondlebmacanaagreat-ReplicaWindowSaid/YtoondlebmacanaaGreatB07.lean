/- A part of the proof of ReplicaBare+ReplicaWindow. -/
import Derived.Test.YtoondlebmacanaaGreatB06
set_option linter.unusedSimpArgs false
set_option linter.unusedVariables false
set_option maxHeartbeats 16000000
set_option maxRecDepth 100000
section
namespace Go.Proofs.YtoondlebmacanaaGreat
open Go.Ab Go.RowKit
theorem zNz (a b:Int):zAD Tryz.prog 44 [.st (RcvD.row ⟨a,b,[]⟩),.st (RcvD.row ⟨a,b,[]⟩)] (.bool true):=by
 refine sX Tryz.func44 Tryz.ntmps44 ?_;intros;apply wr;refine gF00 rfl ?_;intros;apply wr;obtain ⟨I,hI⟩:∃ I:Nat→St→Prop,I=(fun kk ss=>∃ (i:Nat) ,i≤0∧kk=0-i∧(True)∧ss=⟨65,[(5,.int .i64 i),(2,.ptr 0 3 0 0),(3,.ptr 1 3 0 0)],2,[(0,some ⟨57,3,true,false,[RcvD.row ⟨a,b,[]⟩]⟩),(1,some ⟨57,3,true,false,[RcvD.row ⟨a,b,[]⟩]⟩)],0⟩):=⟨_,rfl⟩
 refine lX I (id) (by rw [hI];exact ⟨0,by simp,rfl,trivial,rfl⟩) ?_
 intro kk ss hIk _
 rw [hI] at hIk;obtain ⟨i,hi,rfl,hx,rfl⟩:=hIk;have hi0:i=0:=by omega
 subst hi0;refine au ?_;intros;apply wr;refine gF00 rfl ?_;intros;apply wr;refine zAA ?_;simp
end Go.Proofs.YtoondlebmacanaaGreat
end
