/- A part of the proof of ReplicaHalts. -/
import Derived.Test.YthjpcmecgjfilaaGreatH03
import Derived.Test.YthjpcmecgjfilaaGreatH05
set_option linter.unusedSimpArgs false
set_option linter.unusedVariables false
set_option maxHeartbeats 16000000
set_option maxRecDepth 100000
section
namespace Go.Proofs.YthjpcmecgjfilaaGreat
open Go.Ab Go.RowKit Tryz
theorem zDp (l:List Int):zAD prog 93 [memV l] (iv (pagesD l)):=by
 refine sZ func93 ntmps93 ?_;exact wx1 trivial trivial (kX2 @zAN @pagesD.eq_1)
theorem zNj (s:Str):zAD prog 94 [.st [.str s]] (.bool (decide ((s.length:Int)<=16))):=by
 refine sZ func94 ntmps94 ?_;exact wx trivial trivial
theorem zNq (t:TimD):zAD prog 95 [.st t.row] (.bool (timMay t)):=by
 refine sZ func95 ntmps95 ?_;exact wx1 trivial trivial @timMay.eq_1
theorem zNk (d:DskD) (p:Int):zAD prog 96 [.st d.row,iv p] (.bool (dskMay d p)):=by
 refine sZ func96 ntmps96 ?_;exact wx1 trivial trivial (kX2 @dskMay.eq_1 @zGT.eq_1)
theorem zNo (n:NicD) (p:Int):zAD prog 97 [.st n.row,iv p] (.bool (nicMay n p)):=by
 refine sZ func97 ntmps97 ?_;exact wx1 trivial trivial @nicMay.eq_1
theorem zVc {α:Type} (xs ys:List α) (h:xs.length=ys.length):spl xs 0 ys=ys:=by
 apply List.ext_getElem?;intro j;rw [zCG _ _ _ _ (by omega)]
 split
 ·simp
 rw [List.getElem?_eq_none (by omega),List.getElem?_eq_none (by omega)]
theorem zVe (z:List V) (l:List Int):spl (List.replicate l.length z) 0 (ints .u32 l)=ints .u32 l:=zVc _ _ (by simp [ints])
theorem zQP (l:List Int):(ints .u32 l).take l.length=ints .u32 l:=by rw [List.take_of_length_le];simp [ints]
theorem zSK (l:List Int) (h:l.length<=100000):zAD prog 92 [memV l] (.new 25 1 (ints .u32 l)):=by
 refine sZ func92 ntmps92 ?_;refine aum1 (kX2 @zAN @maxLen.eq_1) ?_;intros;apply wr;exact wx1 trivial trivial (kX4 @zAN @maxLen.eq_1 @zQP @zVe)
def hasF (g:Int) (i:Nat):Bool:=g.toNat.testBit i
theorem bitE (g:Int) (i:Nat) (hi:i<32) (h0:0<=g) (h1:g<=4294967295):(IntKind.u32.wrap (((g.fdiv (2 ^ min i IntKind.u32.bits) % 2 ^ IntKind.u32.bits).toNat &&& 1 % 2 ^ IntKind.u32.bits:Nat):Int)==1)=hasF g i:=by
 have e1:min i IntKind.u32.bits=i:=by show min i 32=i;omega
 rw [e1,zWC _ (by exact Int.pow_nonneg (by decide))]
 obtain ⟨n,rfl⟩:∃ n:Nat,g=n:=⟨g.toNat,by omega⟩
 have e2:((n:Int) / 2 ^ i % 2 ^ IntKind.u32.bits).toNat=n / 2 ^ i:=by
  have:((n:Int) / 2 ^ i)=((n / 2 ^ i:Nat):Int):=by simp
  rw [this];have hle:n / 2 ^ i<=n:=Nat.div_le_self _ _;generalize n / 2 ^ i=y at hle ⊢;rw [Int.emod_eq_of_lt (by omega) (by show (y:Int)<4294967296;omega)]
  simp
 have e3:1 % 2 ^ IntKind.u32.bits=1:=by decide
 rw [e2,e3,Nat.and_one_is_mod];unfold hasF;rw [Int.toNat_natCast,Nat.testBit_eq_decide_div_mod_eq,IntKind.wrap_u32];by_cases h:n / 2 ^ i % 2=1
 ·rw [h];simp
 have h':n / 2 ^ i % 2=0:=by omega
 rw [h'];simp
theorem len_lt (n q:Nat) (hn:n<4294967296):Lib.bitLen n<=q↔n<2 ^ q:=by
 constructor
 ·intro hb
  apply Classical.byContradiction;intro hc;have hc:2 ^ q<=n:=Nat.le_of_not_lt hc;have h2:=Lib.bitLen_shift q n hc (by omega)
  have h3:0<n / 2 ^ q:=Nat.div_pos hc (Nat.two_pow_pos q);have h5:=Nat.div_le_self n (2 ^ q);generalize n / 2 ^ q=y at h2 h3 h5;have h4:=Lib.bitLen_half y (by omega) (by omega)
  omega
 intro hlt
 by_cases hq64:q<=64
 ·exact Lib.bitLen_le n q hq64 hlt
 have:=Lib.bitLen_le n 64 (by omega) (by omega);omega
theorem zUp (n q:Nat) (hn:n<4294967296):n<2 ^ q↔∀ j<32,n.testBit j=true->j<q:=by
 constructor
 ·intro hlt j _ ht
  apply Classical.byContradiction;intro hc;have:n<2 ^ j:=Nat.lt_of_lt_of_le hlt (Nat.pow_le_pow_right (by decide) (by omega))
  rw [Nat.testBit_lt_two_pow this] at ht;cases ht
 intro h
 apply Nat.lt_pow_two_of_testBit;intro j hj;by_cases hj':j<32
 ·cases hb:n.testBit j with
  | false=>rfl
  | true=>have:=h j hj' hb;omega
 exact Nat.testBit_lt_two_pow (Nat.lt_of_lt_of_le (show n<2 ^ 32 by omega) (Nat.pow_le_pow_right (by decide) (by omega)))
theorem zL0 (g p:Int) (h0:0<=g) (h1:g<=4294967295):balMay g p=true↔∀ j<32,hasF g j=true->(j:Int)<p:=by
 have e:balMay g p=true↔Lib.bitLen g.toNat<=p.toNat:=by
  have:max p 0=(p.toNat:Int):=by omega
  unfold balMay bitLen;rw [this,decide_eq_true_eq];omega
 rw [e,len_lt _ _ (by omega),zUp _ _ (by omega)]
 unfold hasF;constructor
 ·intro h j hj ht;have:=h j hj ht;omega
 intro h j hj ht;have:=h j hj ht;omega
theorem zNi (a g p:Int) (h0:0<=g) (h1:g<=4294967295):zAD prog 98 [.st [uv a,uv g],iv p] (.bool (balMay g p)):=by
 refine sX func98 ntmps98 ?_;intros;apply wr;obtain ⟨I,hI⟩:∃ I:Nat->St->Prop,I=(fun kk ss=>∃ (i:Nat) ,i<=32/\kk=32-i/\(∀ j<i,hasF g j=true->(j:Int)<p)/\ss=⟨22,[(5,.int .i64 i),(2,.ptr 0 2 0 0),(1,iv p)],1,[(0,some ⟨40,2,true,false,[[uv a,uv g]]⟩)],0⟩):=⟨_,rfl⟩
 refine lX I (id) (by rw [hI];exact ⟨0,by simp,rfl,by simp,rfl⟩) ?_
 intro kk ss hIk _
 rw [hI] at hIk;obtain ⟨i,hi,rfl,hx,rfl⟩:=hIk;refine au ?_;intros;apply wr;refine zAC rfl (fun h=>?_) (fun h=>?_)
 ·simp at h;have hw:IntKind.u64.wrap (i:Int)=i:=by rw [IntKind.wrap_u64];omega
  have hb:=bitE g i (by omega) h0 h1
  refine au1 (kX3 @iand.eq_1 @hw @hb) ?_;intros;apply wr;refine zAC rfl (fun h2=>?_) (fun h2=>?_)
  ·simp at h2;have hf:balMay g p=false:=by
    cases hc:balMay g p with
    | false=>rfl
    | true=>have:=(zL0 g p h0 h1).1 hc i (by omega) h2.1;omega
   refine au ?_;intros;apply wr;refine zAB ?_;simp [hf]
  simp at h2;have hnew:∀ j<i+1,hasF g j=true->(j:Int)<p:=fun j hj hh=>by
   by_cases e:j=i
   ·subst e;exact h2 hh
   exact hx j (by omega) hh
  refine au ?_;intros;apply wr;exact aX (id) (by rw [hI];exact ⟨i+1,by omega,rfl,hnew,rfl⟩) (zAA (n:=(i:Int)+1) (by omega) (by omega))
 simp at h;have hi:i=32:=by omega
 subst hi;have hf:balMay g p=true:=(zL0 g p h0 h1).2 hx;refine au ?_;intros;apply wr;refine zAB ?_;simp [hf]
theorem zR8 (l:List Int):0<=pagesD l:=by
 unfold pagesD;split
 ·rw [zAA (by omega) (by omega)];omega
 omega
theorem zR7 (l:List Int):decide (pagesD l<1)=(pagesD l==0):=by
 have:=zR8 l;rw [Bool.eq_iff_iff,decide_eq_true_eq,beq_iff_eq];omega
theorem zVM (m:MchD) (h0:0<=m.given) (h1:m.given<=4294967295):zAD prog 41 [.st m.row] (.bool (mayD m)):=by
 refine sZ func41 ntmps41 ?_;exact wx1 (qX6 (zDp m.mem) (zNj m.keys) (zNq m.tim) (zNk m.dk (pagesD m.mem)) (zNo m.nc (pagesD m.mem)) (zNi m.tgt m.given (pagesD m.mem) h0 h1)) trivial (kX2 @zR7 @mayD.eq_1)
theorem zSb (l:List Int) (hb:l.length<=100000):zAD prog 43 [memV l,memV l] (.bool true):=by
 refine sY func43 ntmps43 @zAN ?_;intros;apply wr;refine gF01 rfl @zAN ?_;intros;apply wr;obtain ⟨I,hI⟩:∃ I:Nat->St->Prop,I=(fun kk ss=>∃ (i:Nat) ,i<=l.length/\kk=l.length-i/\(True)/\ss=⟨26,[(5,.int .i64 i),(0,memV l),(1,memV l)],0,[],0⟩):=⟨_,rfl⟩
 refine lX I (id) (by rw [hI];exact ⟨0,by simp,rfl,trivial,rfl⟩) ?_
 intro kk ss hIk _
 rw [hI] at hIk;obtain ⟨i,hi,rfl,hx,rfl⟩:=hIk;refine au1 @zAN ?_;intros;apply wr;refine zAC rfl (fun h=>?_) (fun h=>?_)
 ·simp at h;have hg:(ints .u32 l)[i]? =some [uv (l.getD i 0)]:=by simp [ints,h]
  refine au1 @hg ?_;intros;apply wr;refine zAE 9 [0,0,3,7,0,0,48,112,255] [(8,([[],[],[0,1],[0,1,2],[],[],[4,5],[4,5,6]],[])),(1,([],[]))] ?_;refine afm1 (kX2 @zAN @hg) ?_;intros;apply wr;refine zBy rfl ?_;intros;apply wr;exact aX (id) (by rw [hI];exact ⟨i+1,by omega,rfl,trivial,rfl⟩) (zAA (n:=(i:Int)+1) (by omega) (by omega))
 simp at h;refine af ?_;intros;apply wr;refine zAB ?_;simp
theorem zI3 (m:MchD) (hb:m.mem.length<=100000):zAD prog 16 [.st m.row,.st m.row] (.bool true):=by
 refine sZ func16 ntmps16 ?_;exact wx1 (qX1 (zSb m.mem hb)) trivial @eqCs.eq_1
theorem zNt (a b:Int):zAD prog 57 [.st (RcvD.row ⟨a,b,[]⟩),.st (RcvD.row ⟨a,b,[]⟩)] (.bool true):=by
 refine sX func57 ntmps57 ?_;intros;apply wr;refine gF00 rfl ?_;intros;apply wr;obtain ⟨I,hI⟩:∃ I:Nat->St->Prop,I=(fun kk ss=>∃ (i:Nat) ,i<=0/\kk=0-i/\(True)/\ss=⟨65,[(5,.int .i64 i),(2,.ptr 0 3 0 0),(3,.ptr 1 3 0 0)],2,[(0,some ⟨57,3,true,false,[RcvD.row ⟨a,b,[]⟩]⟩),(1,some ⟨57,3,true,false,[RcvD.row ⟨a,b,[]⟩]⟩)],0⟩):=⟨_,rfl⟩
 refine lX I (id) (by rw [hI];exact ⟨0,by simp,rfl,trivial,rfl⟩) ?_
 intro kk ss hIk _
 rw [hI] at hIk;obtain ⟨i,hi,rfl,hx,rfl⟩:=hIk;have hi0:i=0:=by omega
 subst hi0;refine au ?_;intros;apply wr;refine gF00 rfl ?_;intros;apply wr;refine zAB ?_;simp

@[simp] theorem wI64 {n:Int} (h1:-9223372036854775808<=n) (h2:n<=9223372036854775807):IntKind.i64.wrap n=n:=zAA h1 h2
@[simp] theorem wU64 {n:Int} (h1:0<=n) (h2:n<=18446744073709551615):IntKind.u64.wrap n=n:=by rw [IntKind.wrap_u64];omega
@[simp] theorem wU32 {n:Int} (h1:0<=n) (h2:n<=4294967295):IntKind.u32.wrap n=n:=by rw [IntKind.wrap_u32];omega
@[simp] theorem wU8 {n:Int} (h1:0<=n) (h2:n<=255):IntKind.u8.wrap n=n:=by rw [IntKind.wrap_u8];omega
def mem0:List Int:=List.replicate 256 0
theorem zME:List.replicate 256 [V.int .u32 0]=ints .u32 mem0:=by kernel_rfl
theorem mem0_l:(ints .u32 mem0).length=256:=by kernel_rfl
def mk (s c n:Int):MchD:={zMch with cpu:=⟨fun _=>0,0,fun i=>if i=0 then s else if i=3 then c else 0⟩,mem:=mem0,dk:={zDsk with blocks:=4},count:=n}
theorem zVN:zAD prog 119 [iv 8] (.new 25 1 (ints .u32 mem0)):=by
 refine sZ func119 ntmps119 ?_;exact wxm1 trivial trivial (kX2 @maxLen.eq_1 @zME)
theorem zSP:zAD prog 118 [uv 0] (.st (CpuD.row ⟨fun _=>0,0,fun i=>if i=0 then 1 else 0⟩)):=by
 refine sZ func118 ntmps118 ?_;exact wx trivial trivial
theorem zUu (x:Int):∃ a b,zAD prog 74 [.int .u64 x] (.tup [.int .u64 a,.int .u64 b]):=by
 apply Exists.intro;apply Exists.intro;refine sX func74 ntmps74 ?_;intros;apply wr;refine zAB ?_;simp;exact ⟨rfl,rfl⟩
theorem zTN (n k:Int):∃ m,zAD prog 30 [.int .i64 n,.int .i64 k] (.int .i64 m):=by
 apply Exists.intro;refine sX func30 ntmps30 ?_;intros;apply wr;refine cX (Classical.choose_spec (Classical.choose_spec (zUu _))) ?_;intros;apply wr;refine zAB ?_;simp;rfl
noncomputable def mixA (n k:Int):Int:=Classical.choose (zTN n k)
theorem zTO (n k:Int):zAD prog 30 [.int .i64 n,.int .i64 k] (.int .i64 (mixA n k)):=Classical.choose_spec (zTN n k)
noncomputable def zQ4 (n:Int) (i:Nat):UInt8:=UInt8.ofNat (IntKind.u8.wrap (mixA n ((i:Int) / 9))).toNat
theorem zQ5 (n:Int) (i:Nat):IntKind.u8.wrap (mixA n ((i:Int) / 9))=((zQ4 n i).toNat:Int):=by
 have h:0<=IntKind.u8.wrap (mixA n ((i:Int) / 9))/\IntKind.u8.wrap (mixA n ((i:Int) / 9))<256:=by rw [IntKind.wrap_u8];omega
 unfold zQ4;rw [UInt8.toNat_ofNat'];omega
noncomputable def zDb (n:Int) (k:Nat):List UInt8:=(List.range k).map (zQ4 n)
theorem zJc (n:Int) (k:Nat):(zDb n k).length=k:=by simp [zDb]
theorem zNF (n:Int) (i:Nat):zAL (zDb n i)++[[V.int .u8 ((zQ4 n i).toNat:Int)]]=zAL (zDb n (i+1)):=by simp [zDb,zAL,List.range_succ]
theorem bx_len (n:Int) (i:Nat):(zAL (zDb n i)).length=i:=by rw [zNA,zJc]
@[simp] theorem strs0:strs []=[]:=rfl
@[simp] theorem bx0 (n:Int):zAL (zDb n 0)=[]:=by simp [zDb,zAL]
theorem zT9 (n:Int):zAD prog 31 [iv n,iv 128] (.str (zDb n 128)):=by
 refine sX func31 ntmps31 ?_;intros;apply wr;refine zAT 5 5 1 (by decide) rfl ?_
 obtain ⟨I,hI⟩:∃ I:Nat->St->Prop,I=(fun kk ss=>∃ (i:Nat) ,i<=128/\kk=128-i/\(True)/\ss=⟨22,[(6,.int .i64 i),(5,.own 0),(1,iv 128),(0,iv n)],1,[(0,some ⟨5,1,false,false,zAL (zDb n i)⟩)],0⟩):=⟨_,rfl⟩
 refine lX I (id) (by rw [hI];exact ⟨0,by simp,rfl,trivial,rfl⟩) ?_
 intro kk ss hIk _
 rw [hI] at hIk;obtain ⟨i,hi,rfl,hx,rfl⟩:=hIk;refine au ?_;intros;apply wr;refine zAC rfl (fun h=>?_) (fun h=>?_)
 ·simp at h;have hl:=bx_len n i;have hb:=zQ5 n i;have hw:IntKind.i64.wrap ((i:Int) / 9)=(i:Int) / 9:=zAA (by omega) (by omega)
  refine au1 @hw ?_;intros;apply wr;refine ccm1 (zTO n ((i:Int) / 9)) (kX3 @hl @hb @maxLen.eq_1) ?_;refine aum1 (kX3 @hl @hb @maxLen.eq_1) ?_;intros;apply wr;exact aX (fun x=>if x=0 then 3 else x) (by rw [hI];exact ⟨i+1,by omega,rfl,trivial,rfl⟩) (kX2 (zAA (n:=(i:Int)+1) (by omega) (by omega)) @zNF)
 simp at h;have hi:i=128:=by omega
 subst hi;have hs:=zFD (zDb n 128);have hB:=zFB (zDb n 128);refine aum1 (kX2 @hs @hB) ?_;intros;apply wr;refine zAB ?_;simp
noncomputable def zAb:List (List UInt8):=[zDb 1 128,zDb 2 128,zDb 3 128,zDb 4 128]
theorem zOG:zAD prog 26 [iv 1] (.new 9 1 (strs zAb)):=by
 refine sX func26 ntmps26 ?_;intros;apply wr;refine zAT 3 9 1 (by decide) rfl ?_
 obtain ⟨I,hI⟩:∃ I:Nat->St->Prop,I=(fun kk ss=>∃ (i:Nat) ,i<=4/\kk=4-i/\(True)/\ss=⟨17,[(4,.int .i64 i),(3,.own 0),(0,iv 1)],1,[(0,some ⟨9,1,false,false,strs (zAb.take i)⟩)],0⟩):=⟨_,rfl⟩
 refine lX I (id) (by rw [hI];exact ⟨0,by simp,rfl,trivial,rfl⟩) ?_
 intro kk ss hIk _
 rw [hI] at hIk;obtain ⟨i,hi,rfl,hx,rfl⟩:=hIk;refine au ?_;intros;apply wr;refine zAC rfl (fun h=>?_) (fun h=>?_)
 ·simp at h;have hw:IntKind.i64.wrap (1+(i:Int))=1+(i:Int):=zAA (by omega) (by omega)
  have hl:(strs (zAb.take i)).length=i:=by rw [zBR,zWE];simp [zAb];omega
  have hs:strs (zAb.take i)++[[V.str (zDb (1+(i:Int)) 128)]]=strs (zAb.take (i+1)):=by
   have:i=0\/i=1\/i=2\/i=3:=by omega
   rcases this with rfl|rfl|rfl|rfl<;>simp [zAb,strs]
  refine au1 @hw ?_;intros;apply wr;refine ccm1 (zT9 (1+(i:Int))) (kX2 @hl @maxLen.eq_1) ?_;refine aum1 (kX2 @hl @maxLen.eq_1) ?_;intros;apply wr;exact aX (fun x=>if x=0 then 3 else x) (by rw [hI];exact ⟨i+1,by omega,rfl,trivial,rfl⟩) (kX2 (zAA (n:=(i:Int)+1) (by omega) (by omega)) @hs)
 simp at h;have hi:i=4:=by omega
 subst hi;have ht:zAb.take 4=zAb:=by simp [zAb]
 refine au ?_;intros;apply wr;refine zAB ?_;simp [ht]
abbrev zCq (bs:List (List UInt8)) (gen owner:Int):V:=.st [.sl 1 false (strs bs),lv gen,iv owner]
theorem zHM (bs:List (List UInt8)) (hb:∀ b∈bs,b.length=128) (h1:1<=bs.length) (h2:bs.length<=64):zAD prog 44 [zCq bs 0 (-1)] (.bool true):=by
 have hl:=zBR bs;refine sY func44 ntmps44 @hl ?_;intros;apply wr;refine zAC rfl (fun h=>by simp at h;omega) (fun _=>?_)
 refine au ?_;intros;apply wr;obtain ⟨I,hI⟩:∃ I:Nat->St->Prop,I=(fun kk ss=>∃ (i:Nat) ,i<=bs.length/\kk=bs.length-i/\(True)/\ss=⟨53,[(3,.int .i64 i),(1,.ptr 0 3 0 0)],1,[(0,some ⟨64,3,true,false,[[.sl 1 false (strs bs),lv 0,iv (-1)]]⟩)],0⟩):=⟨_,rfl⟩
 refine lX I (id) (by rw [hI];exact ⟨0,by simp,rfl,trivial,rfl⟩) ?_
 intro kk ss hIk _
 rw [hI] at hIk;obtain ⟨i,hi,rfl,hx,rfl⟩:=hIk;refine au1 @hl ?_;intros;apply wr;refine zAC rfl (fun h=>?_) (fun h=>?_)
 ·simp at h;obtain ⟨s,hs⟩:∃ s,bs[i]=s:=⟨_,rfl⟩;have hge:s.length=128:=by have:=hb _ (zWU h);rwa [hs] at this
  have hsg:(strs bs)[i]? =some [.str s]:=by simp [strs,h,hs]
  refine aum1 (kX3 @hl @hsg @hge) ?_;intros;apply wr;refine gF00 rfl ?_;intros;apply wr;exact aX (id) (by rw [hI];exact ⟨i+1,by omega,rfl,trivial,rfl⟩) (zAA (n:=(i:Int)+1) (by omega) (by omega))
 simp at h;refine au ?_;intros;apply wr;refine zAB ?_;simp
theorem zEL:∀ b∈zAb,b.length=128:=by simp [zAb,zJc]
theorem zSg:zAD prog 25 [.sl 1 false (strs zAb)] (.tup [zCq zAb 0 (-1),.bool true]):=by
 have hl:(strs zAb).length=4:=by rw [zBR];simp [zAb]
 refine sZ func25 ntmps25 ?_;refine aum1 (kX2 @hl @maxLen.eq_1) ?_;intros;apply wr;exact wx1 (qX1 (zHM zAb zEL (by simp [zAb]) (by simp [zAb]))) trivial (kX2 @hl @maxLen.eq_1)
theorem zRA:zAD prog 17 [zCq zAb 0 (-1),iv 0,lv 0] (.tup [zCq zAb 1 0,.bool true]):=by
 refine sZ func17 ntmps17 ?_;exact wx (qX1 (zHM zAb zEL (by simp [zAb]) (by simp [zAb]))) trivial
noncomputable abbrev wldR (a b:RepD):List V:=a.row++(b.row++[.sl 0 true [],.sl 0 true [],.sl 1 false (strs zAb),lv 1,iv 0])
theorem zIG (kind lim:Int) (l:List Int) (M:MchD) (hd:zHV lim=true) (hmay:mayD M=true) (hs:M.dk.state=0) (hg:0<=M.given/\M.given<=4294967295) (hl:M.mem.length<=100000)
  (hm:zAD prog 24 [iv kind,.sl 1 false (ints .i64 l)] (.st M.row)) :
  zAD prog 6 [iv kind,.sl 1 false (ints .i64 l),iv lim] (.tup [.st (wldR (zCy 0 M 1 lim) (zEF 1 M 1 lim)),.bool true]):=by
 have hf0:zBL 0 M 1 lim=true:=by simp [zBL,hmay,hs,hd]
 have hf1:zBL 1 M 1 lim=true:=by simp [zBL,hmay,hs,hd]
 have e1:=zPi 0 M 1 lim hg.1 hg.2 hl;have e3:=zT2 1 M 1 lim hg.1 hg.2 hl;simp only [zU5,backV,hf0,hf1,if_true] at e1 e3;generalize zCy 0 M 1 lim=a at *
 generalize zEF 1 M 1 lim=b at *
 refine sX func6 ntmps6 ?_;intros;apply wr;refine cX (hm) ?_;intros;apply wr;refine cX (zOG) ?_;intros;apply wr;refine cX (zSg) ?_;intros;apply wr;refine cX (zRA) ?_;intros;apply wr;refine cX (e1) ?_;intros;apply wr;refine cX (e3) ?_;intros;apply wr;refine zN5 [9,6,11,12,13,14,15] (by simp;rfl) ?_
 refine zM5 [0,51,188,315] (by simp only [zNS,lookO,Nat.reduceEqDiff,reduceIte];rfl) ?_
 (refine afB ?_;intros;apply wr)
 repeat' ((first|(refine zAC rfl (fun h=>?_) (fun h=>?_)<;>(first|(simp at h;done)|(simp at h)|skip)<;>(first|(exfalso;omega)|skip))|(refine zAE 6 [0,0,1,5,15,31] [(4,([[],[],[0],[0,2]],[(1,3)])),(1,([],[])),(1,([],[]))] ?_)|exact rtB|fail)<;>(refine afB ?_;intros;apply wr))
end Go.Proofs.YthjpcmecgjfilaaGreat
end
