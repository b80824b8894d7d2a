/- A part of the proof of ReplicaFollows. -/
import Derived.Test.YthjpcmecgjfilaaGreatB08
set_option linter.unusedSimpArgs false
set_option linter.unusedVariables false
set_option maxHeartbeats 16000000
set_option maxRecDepth 100000
section
namespace Go.Proofs.YthjpcmecgjfilaaGreat
open Go.Ab Go.RowKit Tryz
theorem zQU (m:MchD) (hb:m.mem.length<=100000):zAD prog 16 [.st m.row,.st m.row] (.bool true):=by
 refine sZ func16 ntmps16 ?_;exact wx1 (qX1 (zSo m.mem hb)) trivial @eqCs.eq_1

@[simp] theorem wI64 {n:Int} (h1:-9223372036854775808<=n) (h2:n<=9223372036854775807):IntKind.i64.wrap n=n:=zAA h1 h2
@[simp] theorem wU64 {n:Int} (h1:0<=n) (h2:n<=18446744073709551615):IntKind.u64.wrap n=n:=by rw [IntKind.wrap_u64];omega
@[simp] theorem wU32 {n:Int} (h1:0<=n) (h2:n<=4294967295):IntKind.u32.wrap n=n:=by rw [IntKind.wrap_u32];omega
@[simp] theorem wU8 {n:Int} (h1:0<=n) (h2:n<=255):IntKind.u8.wrap n=n:=by rw [IntKind.wrap_u8];omega
def mem0:List Int:=List.replicate 256 0
theorem zMT:List.replicate 256 [V.int .u32 0]=ints .u32 mem0:=by kernel_rfl
theorem mem0_l:(ints .u32 mem0).length=256:=by kernel_rfl
def mk (s c n:Int):MchD:={zMch with cpu:=⟨fun _=>0,0,fun i=>if i=0 then s else if i=3 then c else 0⟩,mem:=mem0,dk:={zDsk with blocks:=4},count:=n}
theorem zVd:zAD prog 119 [iv 8] (.new 25 1 (ints .u32 mem0)):=by
 refine sZ func119 ntmps119 ?_;exact wxm1 trivial trivial (kX2 @maxLen.eq_1 @zMT)
theorem zSa:zAD prog 118 [uv 0] (.st (CpuD.row ⟨fun _=>0,0,fun i=>if i=0 then 1 else 0⟩)):=by
 refine sZ func118 ntmps118 ?_;exact wx trivial trivial
theorem zVC (x:Int):∃ a b,zAD prog 74 [.int .u64 x] (.tup [.int .u64 a,.int .u64 b]):=by
 apply Exists.intro;apply Exists.intro;refine sX func74 ntmps74 ?_;intros;apply wr;refine zAB ?_;simp;exact ⟨rfl,rfl⟩
theorem zTa (n k:Int):∃ m,zAD prog 30 [.int .i64 n,.int .i64 k] (.int .i64 m):=by
 apply Exists.intro;refine sX func30 ntmps30 ?_;intros;apply wr;refine cX (Classical.choose_spec (Classical.choose_spec (zVC _))) ?_;intros;apply wr;refine zAB ?_;simp;rfl
noncomputable def mixA (n k:Int):Int:=Classical.choose (zTa n k)
theorem zMU (n k:Int):zAD prog 30 [.int .i64 n,.int .i64 k] (.int .i64 (mixA n k)):=Classical.choose_spec (zTa n k)
noncomputable def zRL (n:Int) (i:Nat):UInt8:=UInt8.ofNat (IntKind.u8.wrap (mixA n ((i:Int) / 9))).toNat
theorem zLv (n:Int) (i:Nat):IntKind.u8.wrap (mixA n ((i:Int) / 9))=((zRL n i).toNat:Int):=by
 have h:0<=IntKind.u8.wrap (mixA n ((i:Int) / 9))/\IntKind.u8.wrap (mixA n ((i:Int) / 9))<256:=by rw [IntKind.wrap_u8];omega
 unfold zRL;rw [UInt8.toNat_ofNat'];omega
noncomputable def zCg (n:Int) (k:Nat):List UInt8:=(List.range k).map (zRL n)
theorem zEg (n:Int) (k:Nat):(zCg n k).length=k:=by simp [zCg]
theorem zH0 (n:Int) (i:Nat):zAN (zCg n i)++[[V.int .u8 ((zRL n i).toNat:Int)]]=zAN (zCg n (i+1)):=by simp [zCg,zAN,List.range_succ]
theorem zTH (n:Int) (i:Nat):(zAN (zCg n i)).length=i:=by rw [zNR,zEg]
@[simp] theorem strs0:strs []=[]:=rfl
@[simp] theorem bx0 (n:Int):zAN (zCg n 0)=[]:=by simp [zCg,zAN]
theorem zUO (n:Int):zAD prog 31 [iv n,iv 128] (.str (zCg n 128)):=by
 refine sX func31 ntmps31 ?_;intros;apply wr;refine zAT 5 5 1 (by decide) rfl ?_
 obtain ⟨I,hI⟩:∃ I:Nat->St->Prop,I=(fun kk ss=>∃ (i:Nat) ,i<=128/\kk=128-i/\(True)/\ss=⟨22,[(6,.int .i64 i),(5,.own 0),(1,iv 128),(0,iv n)],1,[(0,some ⟨5,1,false,false,zAN (zCg n i)⟩)],0⟩):=⟨_,rfl⟩
 refine lX I (id) (by rw [hI];exact ⟨0,by simp,rfl,trivial,rfl⟩) ?_
 intro kk ss hIk _
 rw [hI] at hIk;obtain ⟨i,hi,rfl,hx,rfl⟩:=hIk;refine au ?_;intros;apply wr;refine zAC rfl (fun h=>?_) (fun h=>?_)
 ·simp at h;have hl:=zTH n i;have hb:=zLv n i;have hw:IntKind.i64.wrap ((i:Int) / 9)=(i:Int) / 9:=zAA (by omega) (by omega)
  refine au1 @hw ?_;intros;apply wr;refine ccm1 (zMU n ((i:Int) / 9)) (kX3 @hl @hb @maxLen.eq_1) ?_;refine aum1 (kX3 @hl @hb @maxLen.eq_1) ?_;intros;apply wr;exact aX (fun x=>if x=0 then 3 else x) (by rw [hI];exact ⟨i+1,by omega,rfl,trivial,rfl⟩) (kX2 (zAA (n:=(i:Int)+1) (by omega) (by omega)) @zH0)
 simp at h;have hi:i=128:=by omega
 subst hi;have hs:=zD0 (zCg n 128);have hB:=zDz (zCg n 128);refine aum1 (kX2 @hs @hB) ?_;intros;apply wr;refine zAB ?_;simp
noncomputable def zA3:List (List UInt8):=[zCg 1 128,zCg 2 128,zCg 3 128,zCg 4 128]
theorem zOZ:zAD prog 26 [iv 1] (.new 9 1 (strs zA3)):=by
 refine sX func26 ntmps26 ?_;intros;apply wr;refine zAT 3 9 1 (by decide) rfl ?_
 obtain ⟨I,hI⟩:∃ I:Nat->St->Prop,I=(fun kk ss=>∃ (i:Nat) ,i<=4/\kk=4-i/\(True)/\ss=⟨17,[(4,.int .i64 i),(3,.own 0),(0,iv 1)],1,[(0,some ⟨9,1,false,false,strs (zA3.take i)⟩)],0⟩):=⟨_,rfl⟩
 refine lX I (id) (by rw [hI];exact ⟨0,by simp,rfl,trivial,rfl⟩) ?_
 intro kk ss hIk _
 rw [hI] at hIk;obtain ⟨i,hi,rfl,hx,rfl⟩:=hIk;refine au ?_;intros;apply wr;refine zAC rfl (fun h=>?_) (fun h=>?_)
 ·simp at h;have hw:IntKind.i64.wrap (1+(i:Int))=1+(i:Int):=zAA (by omega) (by omega)
  have hl:(strs (zA3.take i)).length=i:=by rw [zCA,zWS];simp [zA3];omega
  have hs:strs (zA3.take i)++[[V.str (zCg (1+(i:Int)) 128)]]=strs (zA3.take (i+1)):=by
   have:i=0\/i=1\/i=2\/i=3:=by omega
   rcases this with rfl|rfl|rfl|rfl<;>simp [zA3,strs]
  refine au1 @hw ?_;intros;apply wr;refine ccm1 (zUO (1+(i:Int))) (kX2 @hl @maxLen.eq_1) ?_;refine aum1 (kX2 @hl @maxLen.eq_1) ?_;intros;apply wr;exact aX (fun x=>if x=0 then 3 else x) (by rw [hI];exact ⟨i+1,by omega,rfl,trivial,rfl⟩) (kX2 (zAA (n:=(i:Int)+1) (by omega) (by omega)) @hs)
 simp at h;have hi:i=4:=by omega
 subst hi;have ht:zA3.take 4=zA3:=by simp [zA3]
 refine au ?_;intros;apply wr;refine zAB ?_;simp [ht]
abbrev zM3 (bs:List (List UInt8)) (gen owner:Int):V:=.st [.sl 1 false (strs bs),lv gen,iv owner]
theorem zHT (bs:List (List UInt8)) (hb:∀ b∈bs,b.length=128) (h1:1<=bs.length) (h2:bs.length<=64):zAD prog 44 [zM3 bs 0 (-1)] (.bool true):=by
 have hl:=zCA bs;refine sY func44 ntmps44 @hl ?_;intros;apply wr;refine zAC rfl (fun h=>by simp at h;omega) (fun _=>?_)
 refine au ?_;intros;apply wr;obtain ⟨I,hI⟩:∃ I:Nat->St->Prop,I=(fun kk ss=>∃ (i:Nat) ,i<=bs.length/\kk=bs.length-i/\(True)/\ss=⟨53,[(3,.int .i64 i),(1,.ptr 0 3 0 0)],1,[(0,some ⟨64,3,true,false,[[.sl 1 false (strs bs),lv 0,iv (-1)]]⟩)],0⟩):=⟨_,rfl⟩
 refine lX I (id) (by rw [hI];exact ⟨0,by simp,rfl,trivial,rfl⟩) ?_
 intro kk ss hIk _
 rw [hI] at hIk;obtain ⟨i,hi,rfl,hx,rfl⟩:=hIk;refine au1 @hl ?_;intros;apply wr;refine zAC rfl (fun h=>?_) (fun h=>?_)
 ·simp at h;obtain ⟨s,hs⟩:∃ s,bs[i]=s:=⟨_,rfl⟩;have hge:s.length=128:=by have:=hb _ (zWp h);rwa [hs] at this
  have hsg:(strs bs)[i]? =some [.str s]:=by simp [strs,h,hs]
  refine aum1 (kX3 @hl @hsg @hge) ?_;intros;apply wr;refine gF00 rfl ?_;intros;apply wr;exact aX (id) (by rw [hI];exact ⟨i+1,by omega,rfl,trivial,rfl⟩) (zAA (n:=(i:Int)+1) (by omega) (by omega))
 simp at h;refine au ?_;intros;apply wr;refine zAB ?_;simp
theorem zGa:∀ b∈zA3,b.length=128:=by simp [zA3,zEg]
theorem zSs:zAD prog 25 [.sl 1 false (strs zA3)] (.tup [zM3 zA3 0 (-1),.bool true]):=by
 have hl:(strs zA3).length=4:=by rw [zCA];simp [zA3]
 refine sZ func25 ntmps25 ?_;refine aum1 (kX2 @hl @maxLen.eq_1) ?_;intros;apply wr;exact wx1 (qX1 (zHT zA3 zGa (by simp [zA3]) (by simp [zA3]))) trivial (kX2 @hl @maxLen.eq_1)
theorem zRQ:zAD prog 17 [zM3 zA3 0 (-1),iv 0,lv 0] (.tup [zM3 zA3 1 0,.bool true]):=by
 refine sZ func17 ntmps17 ?_;exact wx (qX1 (zHT zA3 zGa (by simp [zA3]) (by simp [zA3]))) trivial
end Go.Proofs.YthjpcmecgjfilaaGreat
end
