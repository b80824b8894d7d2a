/- A part of the proof of ReplicaHalts. -/
import Derived.Test.YthjpcmecgjfilaaGreatH12
import Derived.Test.YthjpcmecgjfilaaGreatH32
import Derived.Test.YthjpcmecgjfilaaGreatH36
set_option linter.unusedSimpArgs false
set_option linter.unusedVariables false
set_option maxHeartbeats 16000000
set_option maxRecDepth 100000
section
namespace Go.Proofs.YthjpcmecgjfilaaGreat
open Go.Ab Go.RowKit Tryz
theorem zS5 (xs:List (List V)) (hb:xs.length<=100000):zAD prog 103 [.sl 1 false xs] (.new 9 1 xs):=by
 refine sX func103 ntmps103 ?_;intros;apply wr;refine ⟨?_,fun hx=>?_⟩
 ·refine au ?_;intros;apply wr;refine cF0 rfl ?_;refine aum1 @maxLen.eq_1 ?_;intros;apply wr;refine zAB ?_;simp
 subst hx;refine au ?_;intros;apply wr;refine gT00 rfl ?_;intros;apply wr;refine zAT 2 9 1 (by decide) rfl ?_
 refine zAB ?_;simp
theorem zJY (bs:List (List UInt8)) (g o:Int) (hb:bs.length<=100000):zAD prog 47 [.st [.sl 1 false (strs bs),lv g,iv o]] (.st [.sl 1 false (strs bs),lv g,iv o]):=by
 refine sZ func47 ntmps47 ?_;exact wx (qX1 (zS5 (strs bs) (by rw [zBR];exact hb))) trivial
theorem zHF {bs:List (List UInt8)} {i:Nat} {s:List UInt8} (h:bs[i]? =some s):(strs bs)[i]? =some [.str s]:=by simp [strs,h]
theorem zRb (l:List (List UInt8)) (hb:l.length<=100000):zAD prog 52 [.sl 1 false (strs l),.sl 1 false (strs l)] (.bool true):=by
 have hl:=zBR l;refine sY func52 ntmps52 @hl ?_;intros;apply wr;refine gF01 rfl @hl ?_;intros;apply wr;obtain ⟨I,hI⟩:∃ I:Nat->St->Prop,I=(fun kk ss=>∃ (i:Nat) ,i<=l.length/\kk=l.length-i/\(True)/\ss=⟨26,[(5,.int .i64 i),(0,.sl 1 false (strs l)),(1,.sl 1 false (strs l))],0,[],0⟩):=⟨_,rfl⟩
 refine lX I (id) (by rw [hI];exact ⟨0,by simp,rfl,trivial,rfl⟩) ?_
 intro kk ss hIk _
 rw [hI] at hIk;obtain ⟨i,hi,rfl,hx,rfl⟩:=hIk;refine au1 @hl ?_;intros;apply wr;refine zAC rfl (fun h=>?_) (fun h=>?_)
 ·simp at h;obtain ⟨x,hx,-,-,-⟩:=get_at h;have hg:=zHF hx;refine au1 @hg ?_;intros;apply wr;refine zAE 9 [0,0,3,7,0,0,48,112,255] [(8,([[],[],[0,1],[0,1,2],[],[],[4,5],[4,5,6]],[])),(1,([],[]))] ?_;refine afm1 (kX2 @hl @hg) ?_;intros;apply wr;refine zBy rfl ?_;intros;apply wr;exact aX (id) (by rw [hI];exact ⟨i+1,by omega,rfl,trivial,rfl⟩) (zAA (n:=(i:Int)+1) (by omega) (by omega))
 simp at h;refine af ?_;intros;apply wr;refine zAB ?_;simp
theorem zRa (bs:List (List UInt8)) (g o:Int) (hb:bs.length<=100000):zAD prog 20 [.st [.sl 1 false (strs bs),lv g,iv o],.st [.sl 1 false (strs bs),lv g,iv o]] (.bool true):=by
 refine sZ func20 ntmps20 ?_;exact wx (qX1 (zRb bs hb)) trivial
end Go.Proofs.YthjpcmecgjfilaaGreat
end
