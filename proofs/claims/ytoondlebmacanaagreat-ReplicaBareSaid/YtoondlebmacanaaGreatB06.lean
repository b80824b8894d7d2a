/- A part of the proof of ReplicaBare+ReplicaWindow. -/
import Derived.Test.YtoondlebmacanaaGreatB03
import Derived.Test.YtoondlebmacanaaGreatB05
set_option linter.unusedSimpArgs false
set_option linter.unusedVariables false
set_option maxHeartbeats 16000000
set_option maxRecDepth 100000
section
namespace Go.Proofs.YtoondlebmacanaaGreat
open Go.Ab Go.RowKit
theorem zCz (l:List Int):zAD Tryz.prog 128 [memV l] (iv (pagesD l)):=by
 refine sZ Tryz.func128 Tryz.ntmps128 ?_;exact wx1 trivial trivial (kX2 @zAN @pagesD.eq_1)
theorem zNj (s:Str):zAD Tryz.prog 129 [.st [.str s]] (.bool (decide ((s.length:Int)≤16))):=by
 refine sZ Tryz.func129 Tryz.ntmps129 ?_;exact wx trivial trivial
theorem zNw (t:TimD):zAD Tryz.prog 130 [.st t.row] (.bool (timMay t)):=by
 refine sZ Tryz.func130 Tryz.ntmps130 ?_;exact wx1 trivial trivial @timMay.eq_1
theorem zNl (d:DskD) (p:Int):zAD Tryz.prog 131 [.st d.row,iv p] (.bool (dskMay d p)):=by
 refine sZ Tryz.func131 Tryz.ntmps131 ?_;exact wx1 trivial trivial (kX2 @dskMay.eq_1 @zHd.eq_1)
theorem zNt (n:NicD) (p:Int):zAD Tryz.prog 132 [.st n.row,iv p] (.bool (nicMay n p)):=by
 refine sZ Tryz.func132 Tryz.ntmps132 ?_;exact wx1 trivial trivial @nicMay.eq_1
theorem zV8 {α:Type} (xs ys:List α) (h:xs.length=ys.length):spl xs 0 ys=ys:=by
 apply List.ext_getElem?;intro j;rw [zCS _ _ _ _ (by omega)]
 split
 ·simp
 rw [zWy (by omega),zWy (by omega)]
theorem zWA (z:List V) (l:List Int):spl (List.replicate l.length z) 0 (ints .u32 l)=ints .u32 l:=zV8 _ _ (by simp [ints])
theorem zQk (l:List Int):(ints .u32 l).take l.length=ints .u32 l:=by rw [List.take_of_length_le];simp [ints]
theorem zSz (l:List Int) (h:l.length≤100000):zAD Tryz.prog 134 [memV l] (.new 25 1 (ints .u32 l)):=by
 refine sZ Tryz.func134 Tryz.ntmps134 ?_;refine aum1 (kX2 @zAN @maxLen.eq_1) ?_;intros;apply wr;exact wx1 trivial trivial (kX4 @zAN @maxLen.eq_1 @zQk @zWA)
def hasF (g:Int) (i:Nat):Bool:=g.toNat.testBit i
theorem bitE (g:Int) (i:Nat) (hi:i<32) (h0:0≤g) (h1:g≤4294967295):(IntKind.u32.wrap (((g.fdiv (2 ^ min i IntKind.u32.bits) % 2 ^ IntKind.u32.bits).toNat &&& 1 % 2 ^ IntKind.u32.bits:Nat):Int)==1)=hasF g i:=by
 have e1:min i IntKind.u32.bits=i:=by show min i 32=i;omega
 rw [e1,zWZ _ (by exact Int.pow_nonneg (by decide))]
 obtain ⟨n,rfl⟩:∃ n:Nat,g=n:=⟨g.toNat,by omega⟩
 have e2:((n:Int) / 2 ^ i % 2 ^ IntKind.u32.bits).toNat=n / 2 ^ i:=by
  have:((n:Int) / 2 ^ i)=((n / 2 ^ i:Nat):Int):=by simp
  rw [this];have hle:n / 2 ^ i≤n:=Nat.div_le_self _ _;generalize n / 2 ^ i=y at hle ⊢;rw [Int.emod_eq_of_lt (by omega) (by show (y:Int)<4294967296;omega)]
  simp
 have e3:1 % 2 ^ IntKind.u32.bits=1:=by decide
 rw [e2,e3,Nat.and_one_is_mod];unfold hasF;rw [Int.toNat_natCast,Nat.testBit_eq_decide_div_mod_eq,IntKind.wrap_u32];by_cases h:n / 2 ^ i % 2=1
 ·rw [h];simp
 have h':n / 2 ^ i % 2=0:=by omega
 rw [h'];simp
theorem len_lt (n q:Nat) (hn:n<4294967296):Lib.bitLen n≤q↔n<2 ^ q:=by
 constructor
 ·intro hb
  apply Classical.byContradiction;intro hc;have hc:2 ^ q≤n:=Nat.le_of_not_lt hc;have h2:=Lib.bitLen_shift q n hc (by omega)
  have h3:0<n / 2 ^ q:=Nat.div_pos hc (Nat.two_pow_pos q);have h5:=Nat.div_le_self n (2 ^ q);generalize n / 2 ^ q=y at h2 h3 h5;have h4:=Lib.bitLen_half y (by omega) (by omega)
  omega
 intro hlt
 by_cases hq64:q≤64
 ·exact Lib.bitLen_le n q hq64 hlt
 have:=Lib.bitLen_le n 64 (by omega) (by omega);omega
theorem zVI (n q:Nat) (hn:n<4294967296):n<2 ^ q↔∀ j<32,n.testBit j=true→j<q:=by
 constructor
 ·intro hlt j _ ht
  apply Classical.byContradiction;intro hc;have:n<2 ^ j:=Nat.lt_of_lt_of_le hlt (Nat.pow_le_pow_right (by decide) (by omega))
  rw [Nat.testBit_lt_two_pow this] at ht;cases ht
 intro h
 apply Nat.lt_pow_two_of_testBit;intro j hj;by_cases hj':j<32
 ·cases hb:n.testBit j with
  | false=>rfl
  | true=>have:=h j hj' hb;omega
 exact Nat.testBit_lt_two_pow (Nat.lt_of_lt_of_le (show n<2 ^ 32 by omega) (Nat.pow_le_pow_right (by decide) (by omega)))
theorem zLs (g p:Int) (h0:0≤g) (h1:g≤4294967295):balMay g p=true↔∀ j<32,hasF g j=true→(j:Int)<p:=by
 have e:balMay g p=true↔Lib.bitLen g.toNat≤p.toNat:=by
  have:max p 0=(p.toNat:Int):=by omega
  unfold balMay bitLen;rw [this,decide_eq_true_eq];omega
 rw [e,len_lt _ _ (by omega),zVI _ _ (by omega)]
 unfold hasF;constructor
 ·intro h j hj ht;have:=h j hj ht;omega
 intro h j hj ht;have:=h j hj ht;omega
theorem zNi (a g p:Int) (h0:0≤g) (h1:g≤4294967295):zAD Tryz.prog 133 [.st [uv a,uv g],iv p] (.bool (balMay g p)):=by
 refine sX Tryz.func133 Tryz.ntmps133 ?_;intros;apply wr;obtain ⟨I,hI⟩:∃ I:Nat→St→Prop,I=(fun kk ss=>∃ (i:Nat) ,i≤32∧kk=32-i∧(∀ j<i,hasF g j=true→(j:Int)<p)∧ss=⟨22,[(5,.int .i64 i),(2,.ptr 0 2 0 0),(1,iv p)],1,[(0,some ⟨40,2,true,false,[[uv a,uv g]]⟩)],0⟩):=⟨_,rfl⟩
 refine lX I (id) (by rw [hI];exact ⟨0,by simp,rfl,by simp,rfl⟩) ?_
 intro kk ss hIk _
 rw [hI] at hIk;obtain ⟨i,hi,rfl,hx,rfl⟩:=hIk;refine au ?_;intros;apply wr;refine zAC rfl (fun h=>?_) (fun h=>?_)
 ·simp at h;have hw:IntKind.u64.wrap (i:Int)=i:=by rw [IntKind.wrap_u64];omega
  have hb:=bitE g i (by omega) h0 h1
  refine au1 (kX3 @iand.eq_1 @hw @hb) ?_;intros;apply wr;refine zAC rfl (fun h2=>?_) (fun h2=>?_)
  ·simp at h2;have hf:balMay g p=false:=by
    cases hc:balMay g p with
    | false=>rfl
    | true=>have:=(zLs g p h0 h1).1 hc i (by omega) h2.1;omega
   refine au ?_;intros;apply wr;refine zAA ?_;simp [hf]
  simp at h2;have hnew:∀ j<i+1,hasF g j=true→(j:Int)<p:=fun j hj hh=>by
   by_cases e:j=i
   ·subst e;exact h2 hh
   exact hx j (by omega) hh
  refine au ?_;intros;apply wr;exact aX (id) (by rw [hI];exact ⟨i+1,by omega,rfl,hnew,rfl⟩) (zAB (n:=(i:Int)+1) (by omega) (by omega))
 simp at h;have hi:i=32:=by omega
 subst hi;have hf:balMay g p=true:=(zLs g p h0 h1).2 hx;refine au ?_;intros;apply wr;refine zAA ?_;simp [hf]
theorem zSa (l:List Int):0≤pagesD l:=by
 unfold pagesD;split
 ·rw [zAB (by omega) (by omega)];omega
 omega
theorem zSZ (l:List Int):decide (pagesD l<1)=(pagesD l==0):=by
 have:=zSa l;rw [Bool.eq_iff_iff,decide_eq_true_eq,beq_iff_eq];omega
theorem zQL (m:MchD) (h0:0≤m.given) (h1:m.given≤4294967295):zAD Tryz.prog 80 [.st m.row] (.bool (mayD m)):=by
 refine sZ Tryz.func80 Tryz.ntmps80 ?_;exact wx1 (qX6 (zCz m.mem) (zNj m.keys) (zNw m.tim) (zNl m.dk (pagesD m.mem)) (zNt m.nc (pagesD m.mem)) (zNi m.tgt m.given (pagesD m.mem) h0 h1)) trivial (kX2 @zSZ @mayD.eq_1)
theorem zTI (l:List Int) (hb:l.length≤100000):zAD Tryz.prog 39 [memV l,memV l] (.bool true):=by
 refine sY Tryz.func39 Tryz.ntmps39 @zAN ?_;intros;apply wr;refine gF01 rfl @zAN ?_;intros;apply wr;obtain ⟨I,hI⟩:∃ I:Nat→St→Prop,I=(fun kk ss=>∃ (i:Nat) ,i≤l.length∧kk=l.length-i∧(True)∧ss=⟨26,[(5,.int .i64 i),(0,memV l),(1,memV l)],0,[],0⟩):=⟨_,rfl⟩
 refine lX I (id) (by rw [hI];exact ⟨0,by simp,rfl,trivial,rfl⟩) ?_
 intro kk ss hIk _
 rw [hI] at hIk;obtain ⟨i,hi,rfl,hx,rfl⟩:=hIk;refine au1 @zAN ?_;intros;apply wr;refine zAC rfl (fun h=>?_) (fun h=>?_)
 ·simp at h;have hg:(ints .u32 l)[i]? =some [uv (l.getD i 0)]:=by simp [ints,h]
  refine au1 @hg ?_;intros;apply wr;refine zAG 9 [0,0,3,7,0,0,48,112,255] [(8,([[],[],[0,1],[0,1,2],[],[],[4,5],[4,5,6]],[])),(1,([],[]))] ?_;refine afm1 (kX2 @zAN @hg) ?_;intros;apply wr;refine zBE rfl ?_;intros;apply wr;exact aX (id) (by rw [hI];exact ⟨i+1,by omega,rfl,trivial,rfl⟩) (zAB (n:=(i:Int)+1) (by omega) (by omega))
 simp at h;refine af ?_;intros;apply wr;refine zAA ?_;simp
theorem zIm (m:MchD) (hb:m.mem.length≤100000):zAD Tryz.prog 14 [.st m.row,.st m.row] (.bool true):=by
 refine sZ Tryz.func14 Tryz.ntmps14 ?_;exact wx1 (qX1 (zTI m.mem hb)) trivial @eqCs.eq_1

@[simp] theorem wI64 {n:Int} (h1:-9223372036854775808≤n) (h2:n≤9223372036854775807):IntKind.i64.wrap n=n:=zAB h1 h2
@[simp] theorem wU64 {n:Int} (h1:0≤n) (h2:n≤18446744073709551615):IntKind.u64.wrap n=n:=by rw [IntKind.wrap_u64];omega
@[simp] theorem wU32 {n:Int} (h1:0≤n) (h2:n≤4294967295):IntKind.u32.wrap n=n:=by rw [IntKind.wrap_u32];omega
@[simp] theorem wU8 {n:Int} (h1:0≤n) (h2:n≤255):IntKind.u8.wrap n=n:=by rw [IntKind.wrap_u8];omega
def mem0:List Int:=List.replicate 256 0
theorem zSL:mem0.length=256:=by kernel_rfl
theorem zL8:List.replicate 256 [V.int .u32 0]=ints .u32 mem0:=by kernel_rfl
theorem zDX:spl (ints .u32 mem0) 0 [[V.int .u32 0]]=ints .u32 mem0:=by kernel_rfl
theorem zSM:(ints .u32 mem0).set 0 [V.int .u32 0]=ints .u32 mem0:=by kernel_rfl
theorem zC4:(ints .u32 mem0).length=256:=by kernel_rfl
def mk (s c n:Int):MchD:={zMch with cpu:=⟨fun _=>0,0,fun i=>if i=0 then s else if i=3 then c else 0⟩,mem:=mem0,dk:={zDsk with blocks:=4},count:=n}
theorem zTC:zAD Tryz.prog 10 [iv 2,iv 3] (iv 2):=by
 refine sZ Tryz.func10 Tryz.ntmps10 ?_;exact wx trivial trivial
theorem zUY:zAD Tryz.prog 37 [.sl 1 false [[iv 0]]] (.new 25 1 [[uv 0]]):=by
 refine sX Tryz.func37 Tryz.ntmps37 ?_;intros;apply wr;refine zAW 3 25 1 (by decide) rfl ?_
 obtain ⟨I,hI⟩:∃ I:Nat→St→Prop,I=(fun kk ss=>∃ (i:Nat) ,i≤1∧kk=1-i∧(True)∧ss=⟨42,[(4,.int .i64 i),(3,.own 0),(0,.sl 1 false [[iv 0]])],1,[(0,some ⟨25,1,false,false,List.replicate i [uv 0]⟩)],0⟩):=⟨_,rfl⟩
 refine lX I (id) (by rw [hI];exact ⟨0,by simp,rfl,trivial,rfl⟩) ?_
 intro kk ss hIk _
 rw [hI] at hIk;obtain ⟨i,hi,rfl,hx,rfl⟩:=hIk;refine au ?_;intros;apply wr;refine zAC rfl (fun h=>?_) (fun h=>?_)
 ·simp at h;have hi:i=0:=by omega
  have hg:([[iv 0]]:List (List V))[i]?.getD []=[iv 0]:=by subst hi;rfl
  refine aum1 (kX2 @hg @h) ?_;intros;apply wr;refine cT0 rfl ?_;have hz:IntKind.u32.wrap (iand .i64 0 4294967295)=0:=by decide
  refine aum1 (kX4 @hg @h @hz @maxLen.eq_1) ?_;intros;apply wr;refine zCU (1-(i+1)) ((fun (i:Nat)  =>(⟨42,[(4,.int .i64 i),(3,.own 0),(0,.sl 1 false [[iv 0]])],1,[(0,some ⟨25,1,false,false,List.replicate i [uv 0]⟩)],0⟩:St)) (i+1) ) (fun x=>if x=0 then 2 else x) (by omega) (by rw [hI];exact ⟨i+1,by omega,rfl,trivial,rfl⟩) ⟨rfl,?_,?_,?_,by simp⟩
  ·simp [leT,ltV,lt1,ren,ren1,zAB (n:=(i:Int)+1) (by omega) (by omega),List.replicate_succ',hz]
  ·simp [leO,lt1,ren1,List.replicate_succ',hz]
  (simp;try omega)
 simp at h;have hi:i=1:=by omega
 subst hi;refine au ?_;intros;apply wr;refine zAA ?_;simp
theorem zQM:zAD Tryz.prog 93 [iv 8] (.new 25 1 (ints .u32 mem0)):=by
 refine sZ Tryz.func93 Tryz.ntmps93 ?_;exact wxm1 trivial trivial (kX2 @maxLen.eq_1 @zL8)
theorem zMU:zAD Tryz.prog 92 [uv 0] (.st (CpuD.row ⟨fun _=>0,0,fun i=>if i=0 then 1 else 0⟩)):=by
 refine sZ Tryz.func92 Tryz.ntmps92 ?_;exact wx trivial trivial
theorem zVN:zAD Tryz.prog 38 [iv 8,iv 4,.sl 1 false [[uv 0]]] (.tup [.st (mk 1 0 0).row,.bool true]):=by
 refine sX Tryz.func38 Tryz.ntmps38 ?_;intros;apply wr
 (refine au1 (kX2 @zC4 @zDX) ?_;intros;apply wr)
 repeat' ((first|(refine zAC rfl (fun h=>?_) (fun h=>?_)<;>(first|(simp [zC4,zDX] at h;done)|(simp [zC4,zDX] at h)|skip)<;>(first|(exfalso;omega)|skip))|refine cc1 (zMU) (kX2 @zC4 @zDX) ?_|refine cc1 (zQM) (kX2 @zC4 @zDX) ?_|exact rt1 (kX2 @zC4 @zDX)|fail)<;>(refine au1 (kX2 @zC4 @zDX) ?_;intros;apply wr))
 refine zAI ?_;refine zAA ?_;simp [mk,zSM]
theorem zVJ:zAD Tryz.prog 13 [iv 2,.sl 1 false [[iv 0]]] (.st (mk 1 0 0).row):=by
 refine sZ Tryz.func13 Tryz.ntmps13 ?_;exact wx1 (qX3 (zTC) (zUY) (zVN)) trivial @maxLen.eq_1
theorem zVP (x:Int):∃ a b,zAD Tryz.prog 72 [.int .u64 x] (.tup [.int .u64 a,.int .u64 b]):=by
 apply Exists.intro;apply Exists.intro;refine sX Tryz.func72 Tryz.ntmps72 ?_;intros;apply wr;refine zAA ?_;simp;exact ⟨rfl,rfl⟩
theorem zTx (n k:Int):∃ m,zAD Tryz.prog 29 [.int .i64 n,.int .i64 k] (.int .i64 m):=by
 apply Exists.intro;refine sX Tryz.func29 Tryz.ntmps29 ?_;intros;apply wr;refine cX (Classical.choose_spec (Classical.choose_spec (zVP _))) ?_;intros;apply wr;refine zAA ?_;simp;rfl
noncomputable def mixA (n k:Int):Int:=Classical.choose (zTx n k)
theorem zL9 (n k:Int):zAD Tryz.prog 29 [.int .i64 n,.int .i64 k] (.int .i64 (mixA n k)):=Classical.choose_spec (zTx n k)
noncomputable def zRS (n:Int) (i:Nat):UInt8:=UInt8.ofNat (IntKind.u8.wrap (mixA n ((i:Int) / 9))).toNat
theorem zLY (n:Int) (i:Nat):IntKind.u8.wrap (mixA n ((i:Int) / 9))=((zRS n i).toNat:Int):=by
 have h:0≤IntKind.u8.wrap (mixA n ((i:Int) / 9))∧IntKind.u8.wrap (mixA n ((i:Int) / 9))<256:=by rw [IntKind.wrap_u8];omega
 unfold zRS;rw [UInt8.toNat_ofNat'];omega
noncomputable def zCn (n:Int) (k:Nat):List UInt8:=(List.range k).map (zRS n)
theorem zEn (n:Int) (k:Nat):(zCn n k).length=k:=by simp [zCn]
theorem zHf (n:Int) (i:Nat):zAU (zCn n i)++[[V.int .u8 ((zRS n i).toNat:Int)]]=zAU (zCn n (i+1)):=by simp [zCn,zAU,List.range_succ]
theorem zTi (n:Int) (i:Nat):(zAU (zCn n i)).length=i:=by rw [zM9,zEn]
@[simp] theorem strs0:strs []=[]:=rfl
@[simp] theorem bx0 (n:Int):zAU (zCn n 0)=[]:=by simp [zCn,zAU]
theorem zUa (n:Int):zAD Tryz.prog 30 [iv n,iv 128] (.str (zCn n 128)):=by
 refine sX Tryz.func30 Tryz.ntmps30 ?_;intros;apply wr;refine zAW 5 5 1 (by decide) rfl ?_
 obtain ⟨I,hI⟩:∃ I:Nat→St→Prop,I=(fun kk ss=>∃ (i:Nat) ,i≤128∧kk=128-i∧(True)∧ss=⟨22,[(6,.int .i64 i),(5,.own 0),(1,iv 128),(0,iv n)],1,[(0,some ⟨5,1,false,false,zAU (zCn n i)⟩)],0⟩):=⟨_,rfl⟩
 refine lX I (id) (by rw [hI];exact ⟨0,by simp,rfl,trivial,rfl⟩) ?_
 intro kk ss hIk _
 rw [hI] at hIk;obtain ⟨i,hi,rfl,hx,rfl⟩:=hIk;refine au ?_;intros;apply wr;refine zAC rfl (fun h=>?_) (fun h=>?_)
 ·simp at h;have hl:=zTi n i;have hb:=zLY n i;have hw:IntKind.i64.wrap ((i:Int) / 9)=(i:Int) / 9:=zAB (by omega) (by omega)
  refine au1 @hw ?_;intros;apply wr;refine ccm1 (zL9 n ((i:Int) / 9)) (kX3 @hl @hb @maxLen.eq_1) ?_;refine aum1 (kX3 @hl @hb @maxLen.eq_1) ?_;intros;apply wr;exact aX (fun x=>if x=0 then 3 else x) (by rw [hI];exact ⟨i+1,by omega,rfl,trivial,rfl⟩) (kX2 (zAB (n:=(i:Int)+1) (by omega) (by omega)) @zHf)
 simp at h;have hi:i=128:=by omega
 subst hi;have hs:=zCg (zCn n 128);have hB:=zCf (zCn n 128);refine aum1 (kX2 @hs @hB) ?_;intros;apply wr;refine zAA ?_;simp
noncomputable def zAx:List (List UInt8):=[zCn 1 128,zCn 2 128,zCn 3 128,zCn 4 128]
theorem zI9:zAD Tryz.prog 24 [iv 1] (.new 9 1 (strs zAx)):=by
 refine sX Tryz.func24 Tryz.ntmps24 ?_;intros;apply wr;refine zAW 3 9 1 (by decide) rfl ?_
 obtain ⟨I,hI⟩:∃ I:Nat→St→Prop,I=(fun kk ss=>∃ (i:Nat) ,i≤4∧kk=4-i∧(True)∧ss=⟨17,[(4,.int .i64 i),(3,.own 0),(0,iv 1)],1,[(0,some ⟨9,1,false,false,strs (zAx.take i)⟩)],0⟩):=⟨_,rfl⟩
 refine lX I (id) (by rw [hI];exact ⟨0,by simp,rfl,trivial,rfl⟩) ?_
 intro kk ss hIk _
 rw [hI] at hIk;obtain ⟨i,hi,rfl,hx,rfl⟩:=hIk;refine au ?_;intros;apply wr;refine zAC rfl (fun h=>?_) (fun h=>?_)
 ·simp at h;have hw:IntKind.i64.wrap (1+(i:Int))=1+(i:Int):=zAB (by omega) (by omega)
  have hl:(strs (zAx.take i)).length=i:=by rw [zC7,zWw];simp [zAx];omega
  have hs:strs (zAx.take i)++[[V.str (zCn (1+(i:Int)) 128)]]=strs (zAx.take (i+1)):=by
   have:i=0∨i=1∨i=2∨i=3:=by omega
   rcases this with rfl|rfl|rfl|rfl<;>simp [zAx,strs]
  refine au1 @hw ?_;intros;apply wr;refine ccm1 (zUa (1+(i:Int))) (kX2 @hl @maxLen.eq_1) ?_;refine aum1 (kX2 @hl @maxLen.eq_1) ?_;intros;apply wr;exact aX (fun x=>if x=0 then 3 else x) (by rw [hI];exact ⟨i+1,by omega,rfl,trivial,rfl⟩) (kX2 (zAB (n:=(i:Int)+1) (by omega) (by omega)) @hs)
 simp at h;have hi:i=4:=by omega
 subst hi;have ht:zAx.take 4=zAx:=by simp [zAx]
 refine au ?_;intros;apply wr;refine zAA ?_;simp [ht]
abbrev zMm (bs:List (List UInt8)) (gen owner:Int):V:=.st [.sl 1 false (strs bs),lv gen,iv owner]
theorem zG8 (bs:List (List UInt8)) (hb:∀ b∈bs,b.length=128) (h1:1≤bs.length) (h2:bs.length≤64):zAD Tryz.prog 62 [zMm bs 0 (-1)] (.bool true):=by
 have hl:=zC7 bs;refine sY Tryz.func62 Tryz.ntmps62 @hl ?_;intros;apply wr;refine zAC rfl (fun h=>by simp at h;omega) (fun _=>?_)
 refine au ?_;intros;apply wr;obtain ⟨I,hI⟩:∃ I:Nat→St→Prop,I=(fun kk ss=>∃ (i:Nat) ,i≤bs.length∧kk=bs.length-i∧(True)∧ss=⟨53,[(3,.int .i64 i),(1,.ptr 0 3 0 0)],1,[(0,some ⟨64,3,true,false,[[.sl 1 false (strs bs),lv 0,iv (-1)]]⟩)],0⟩):=⟨_,rfl⟩
 refine lX I (id) (by rw [hI];exact ⟨0,by simp,rfl,trivial,rfl⟩) ?_
 intro kk ss hIk _
 rw [hI] at hIk;obtain ⟨i,hi,rfl,hx,rfl⟩:=hIk;refine au1 @hl ?_;intros;apply wr;refine zAC rfl (fun h=>?_) (fun h=>?_)
 ·simp at h;obtain ⟨s,hs⟩:∃ s,bs[i]=s:=⟨_,rfl⟩;have hge:s.length=128:=by have:=hb _ (zW4 h);rwa [hs] at this
  have hsg:(strs bs)[i]? =some [.str s]:=by simp [strs,h,hs]
  refine aum1 (kX3 @hl @hsg @hge) ?_;intros;apply wr;refine gF00 rfl ?_;intros;apply wr;exact aX (id) (by rw [hI];exact ⟨i+1,by omega,rfl,trivial,rfl⟩) (zAB (n:=(i:Int)+1) (by omega) (by omega))
 simp at h;refine au ?_;intros;apply wr;refine zAA ?_;simp
theorem zGZ:∀ b∈zAx,b.length=128:=by simp [zAx,zEn]
theorem zMn:zAD Tryz.prog 23 [.sl 1 false (strs zAx)] (.tup [zMm zAx 0 (-1),.bool true]):=by
 have hl:(strs zAx).length=4:=by rw [zC7];simp [zAx]
 refine sZ Tryz.func23 Tryz.ntmps23 ?_;refine aum1 (kX2 @hl @maxLen.eq_1) ?_;intros;apply wr;exact wx1 (qX1 (zG8 zAx zGZ (by simp [zAx]) (by simp [zAx]))) trivial (kX2 @hl @maxLen.eq_1)
theorem zLb:zAD Tryz.prog 25 [zMm zAx 0 (-1),iv 0,lv 0] (.tup [zMm zAx 1 0,.bool true]):=by
 refine sZ Tryz.func25 Tryz.ntmps25 ?_;exact wx (qX1 (zG8 zAx zGZ (by simp [zAx]) (by simp [zAx]))) trivial
noncomputable abbrev wldR (a b:RepD):List V:=a.row++(b.row++[.sl 0 true [],.sl 0 true [],.sl 1 false (strs zAx),lv 1,iv 0])
theorem zET (kind lim:Int) (l:List Int) (M:MchD) (hd:zNH lim=true) (hmay:mayD M=true) (hs:M.dk.state=0) (hg:0≤M.given∧M.given≤4294967295) (hl:M.mem.length≤100000)
  (hm:zAD Tryz.prog 13 [iv kind,.sl 1 false (ints .i64 l)] (.st M.row)) :
  zAD Tryz.prog 6 [iv kind,.sl 1 false (ints .i64 l),iv lim] (.tup [.st (wldR (zDm 0 M 1 lim) (zM6 1 M 1 lim)),.bool true]):=by
 have hf0:zBR 0 M 1 lim=true:=by simp [zBR,hmay,hs,hd]
 have hf1:zBR 1 M 1 lim=true:=by simp [zBR,hmay,hs,hd]
 have e1:=zK2 0 M 1 lim hg.1 hg.2 hl;have e3:=zOG 1 M 1 lim hg.1 hg.2 hl;simp only [zSh,zUT,hf0,hf1,if_true] at e1 e3;generalize zDm 0 M 1 lim=a at *
 generalize zM6 1 M 1 lim=b at *
 refine sX Tryz.func6 Tryz.ntmps6 ?_;intros;apply wr;refine cX (hm) ?_;intros;apply wr;refine cX (zI9) ?_;intros;apply wr;refine cX (zMn) ?_;intros;apply wr;refine cX (zLb) ?_;intros;apply wr;refine cX (e1) ?_;intros;apply wr;refine cX (e3) ?_;intros;apply wr;refine zI1 [9,6,11,12,13,14,15] (by simp;rfl) ?_
 refine zHQ [0,51,188,315] (by simp only [zKn,lookO,Nat.reduceEqDiff,reduceIte];rfl) ?_
 (refine afB ?_;intros;apply wr)
 repeat' ((first|(refine zAC rfl (fun h=>?_) (fun h=>?_)<;>(first|(simp at h;done)|(simp at h)|skip)<;>(first|(exfalso;omega)|skip))|(refine zAG 6 [0,0,1,5,15,31] [(4,([[],[],[0],[0,2]],[(1,3)])),(1,([],[])),(1,([],[]))] ?_)|exact rtB|fail)<;>(refine afB ?_;intros;apply wr))
end Go.Proofs.YtoondlebmacanaaGreat
end
