/- A part of the proof of ReplicaFollows. -/
import Derived.Test.YthjpcmecgjfilaaGreatB07
set_option linter.unusedSimpArgs false
set_option linter.unusedVariables false
set_option maxHeartbeats 16000000
set_option maxRecDepth 100000
section
namespace Go.Proofs.YthjpcmecgjfilaaGreat
open Go.Ab Go.RowKit Tryz
abbrev freshV (host:Int) (m:MchD) (gen limit:Int):V:=.tup [.st (RepD.row (if zBL host m gen limit then zEO host m gen limit else zRep)),.bool (zBL host m gen limit)]
theorem zGF (host:Int) (m:MchD) (gen limit:Int) (h0:0<=m.given) (h1:m.given<=4294967295):zAD prog 58 [iv host,.st m.row,lv gen,iv limit] (freshV host m gen limit):=by
 cases hd:zHa limit with
 | false =>
  have hf:zBL host m gen limit=false:=by simp [zBL,hd]
  refine sZ func58 ntmps58 ?_;exact wx1 (qX2 (zMF limit) (zIC m h0 h1)) trivial (kX2 @hd @hf)
 | true =>
  refine sX func58 ntmps58 ?_;intros;apply wr
  (refine au1 @hd ?_;intros;apply wr)
  repeat' ((first|(refine zAC rfl (fun h=>?_) (fun h=>?_)<;>(first|(simp [hd] at h;done)|(simp [hd] at h)|skip)<;>(first|(exfalso;omega)|skip))|refine cc1 (zMF limit) @hd ?_|refine cc1 (zIC m h0 h1) @hd ?_|exact rt1 @hd|fail)<;>(refine au1 @hd ?_;intros;apply wr))
  ·rename_i h _;have hf:zBL host m gen limit=false:=by simp [zBL,hd];grind
   refine zAB ?_;simp [hf]
  rename_i h _;have hf:zBL host m gen limit=true:=by simp [zBL,hd];grind
  refine zAB ?_;simp [hf,zEO]
abbrev zVN (host:Int) (m:MchD) (gen limit:Int):V:=.tup [.st (RepD.row (if zBL host m gen limit then zC1 host m gen limit else zRep)),.bool (zBL host m gen limit)]
abbrev backV (host:Int) (m:MchD) (gen limit:Int):V:=.tup [.st (RepD.row (if zBL host m gen limit then zEL host m gen limit else zRep)),.bool (zBL host m gen limit)]
theorem zPw (host:Int) (m:MchD) (gen limit:Int) (h0:0<=m.given) (h1:m.given<=4294967295) (hm:m.mem.length<=100000):zAD prog 23 [iv host,.st m.row,lv gen,iv limit] (zVN host m gen limit):=by
 cases hf:zBL host m gen limit with
 | false =>
  refine sZ func23 ntmps23 ?_;exact wx1 (qX1 (zGF host m gen limit h0 h1)) trivial @hf
 | true =>
  refine sZ func23 ntmps23 ?_;exact wx1 (qX3 (zGF host m gen limit h0 h1) (zP5 m hm) (zKZ m.count)) trivial (kX3 @hf @zEO.eq_1 @zC1.eq_1)
theorem zUG (host:Int) (m:MchD) (gen limit:Int) (h0:0<=m.given) (h1:m.given<=4294967295) (hm:m.mem.length<=100000):zAD prog 27 [iv host,.st m.row,lv gen,iv limit] (backV host m gen limit):=by
 cases hf:zBL host m gen limit with
 | false =>
  refine sZ func27 ntmps27 ?_;exact wx1 (qX1 (zGF host m gen limit h0 h1)) trivial @hf
 | true =>
  refine sZ func27 ntmps27 ?_;exact wx1 (qX3 (zGF host m gen limit h0 h1) (zQK m hm) (zKZ m.count)) trivial (kX3 @hf @zEO.eq_1 @zEL.eq_1)
theorem zDr (l:List Int):zAD prog 93 [memV l] (iv (pagesD l)):=by
 refine sZ func93 ntmps93 ?_;exact wx1 trivial trivial (kX2 @zAM @pagesD.eq_1)
theorem zNz (s:Str):zAD prog 94 [.st [.str s]] (.bool (decide ((s.length:Int)<=16))):=by
 refine sZ func94 ntmps94 ?_;exact wx trivial trivial
theorem zN7 (t:TimD):zAD prog 95 [.st t.row] (.bool (timMay t)):=by
 refine sZ func95 ntmps95 ?_;exact wx1 trivial trivial @timMay.eq_1
theorem zN0 (d:DskD) (p:Int):zAD prog 96 [.st d.row,iv p] (.bool (dskMay d p)):=by
 refine sZ func96 ntmps96 ?_;exact wx1 trivial trivial (kX2 @dskMay.eq_1 @zHx.eq_1)
theorem zN5 (n:NicD) (p:Int):zAD prog 97 [.st n.row,iv p] (.bool (nicMay n p)):=by
 refine sZ func97 ntmps97 ?_;exact wx1 trivial trivial @nicMay.eq_1
theorem zVq {α:Type} (xs ys:List α) (h:xs.length=ys.length):spl xs 0 ys=ys:=by
 apply List.ext_getElem?;intro j;rw [zCL _ _ _ _ (by omega)]
 split
 ·simp
 rw [List.getElem?_eq_none (by omega),List.getElem?_eq_none (by omega)]
theorem zVs (z:List V) (l:List Int):spl (List.replicate l.length z) 0 (ints .u32 l)=ints .u32 l:=zVq _ _ (by simp [ints])
theorem zQg (l:List Int):(ints .u32 l).take l.length=ints .u32 l:=by rw [List.take_of_length_le];simp [ints]
theorem zMk (l:List Int) (h:l.length<=100000):zAD prog 92 [memV l] (.new 25 1 (ints .u32 l)):=by
 refine sZ func92 ntmps92 ?_;refine aum1 (kX2 @zAM @maxLen.eq_1) ?_;intros;apply wr;exact wx1 trivial trivial (kX4 @zAM @maxLen.eq_1 @zQg @zVs)
def hasF (g:Int) (i:Nat):Bool:=g.toNat.testBit i
theorem bitE (g:Int) (i:Nat) (hi:i<32) (h0:0<=g) (h1:g<=4294967295):(IntKind.u32.wrap (((g.fdiv (2 ^ min i IntKind.u32.bits) % 2 ^ IntKind.u32.bits).toNat &&& 1 % 2 ^ IntKind.u32.bits:Nat):Int)==1)=hasF g i:=by
 have e1:min i IntKind.u32.bits=i:=by show min i 32=i;omega
 rw [e1,zWQ _ (by exact Int.pow_nonneg (by decide))]
 obtain ⟨n,rfl⟩:∃ n:Nat,g=n:=⟨g.toNat,by omega⟩
 have e2:((n:Int) / 2 ^ i % 2 ^ IntKind.u32.bits).toNat=n / 2 ^ i:=by
  have:((n:Int) / 2 ^ i)=((n / 2 ^ i:Nat):Int):=by simp
  rw [this];have hle:n / 2 ^ i<=n:=Nat.div_le_self _ _;generalize n / 2 ^ i=y at hle ⊢;rw [Int.emod_eq_of_lt (by omega) (by show (y:Int)<4294967296;omega)]
  simp
 have e3:1 % 2 ^ IntKind.u32.bits=1:=by decide
 rw [e2,e3,Nat.and_one_is_mod];unfold hasF;rw [Int.toNat_natCast,Nat.testBit_eq_decide_div_mod_eq,IntKind.wrap_u32];by_cases h:n / 2 ^ i % 2=1
 ·rw [h];simp
 have h':n / 2 ^ i % 2=0:=by omega
 rw [h'];simp
theorem len_lt (n q:Nat) (hn:n<4294967296):Lib.bitLen n<=q↔n<2 ^ q:=by
 constructor
 ·intro hb
  apply Classical.byContradiction;intro hc;have hc:2 ^ q<=n:=Nat.le_of_not_lt hc;have h2:=Lib.bitLen_shift q n hc (by omega)
  have h3:0<n / 2 ^ q:=Nat.div_pos hc (Nat.two_pow_pos q);have h5:=Nat.div_le_self n (2 ^ q);generalize n / 2 ^ q=y at h2 h3 h5;have h4:=Lib.bitLen_half y (by omega) (by omega)
  omega
 intro hlt
 by_cases hq64:q<=64
 ·exact Lib.bitLen_le n q hq64 hlt
 have:=Lib.bitLen_le n 64 (by omega) (by omega);omega
theorem zU7 (n q:Nat) (hn:n<4294967296):n<2 ^ q↔∀ j<32,n.testBit j=true->j<q:=by
 constructor
 ·intro hlt j _ ht
  apply Classical.byContradiction;intro hc;have:n<2 ^ j:=Nat.lt_of_lt_of_le hlt (Nat.pow_le_pow_right (by decide) (by omega))
  rw [Nat.testBit_lt_two_pow this] at ht;cases ht
 intro h
 apply Nat.lt_pow_two_of_testBit;intro j hj;by_cases hj':j<32
 ·cases hb:n.testBit j with
  | false=>rfl
  | true=>have:=h j hj' hb;omega
 exact Nat.testBit_lt_two_pow (Nat.lt_of_lt_of_le (show n<2 ^ 32 by omega) (Nat.pow_le_pow_right (by decide) (by omega)))
theorem zME (g p:Int) (h0:0<=g) (h1:g<=4294967295):balMay g p=true↔∀ j<32,hasF g j=true->(j:Int)<p:=by
 have e:balMay g p=true↔Lib.bitLen g.toNat<=p.toNat:=by
  have:max p 0=(p.toNat:Int):=by omega
  unfold balMay bitLen;rw [this,decide_eq_true_eq];omega
 rw [e,len_lt _ _ (by omega),zU7 _ _ (by omega)]
 unfold hasF;constructor
 ·intro h j hj ht;have:=h j hj ht;omega
 intro h j hj ht;have:=h j hj ht;omega
theorem zNy (a g p:Int) (h0:0<=g) (h1:g<=4294967295):zAD prog 98 [.st [uv a,uv g],iv p] (.bool (balMay g p)):=by
 refine sX func98 ntmps98 ?_;intros;apply wr;obtain ⟨I,hI⟩:∃ I:Nat->St->Prop,I=(fun kk ss=>∃ (i:Nat) ,i<=32/\kk=32-i/\(∀ j<i,hasF g j=true->(j:Int)<p)/\ss=⟨22,[(5,.int .i64 i),(2,.ptr 0 2 0 0),(1,iv p)],1,[(0,some ⟨40,2,true,false,[[uv a,uv g]]⟩)],0⟩):=⟨_,rfl⟩
 refine lX I (id) (by rw [hI];exact ⟨0,by simp,rfl,by simp,rfl⟩) ?_
 intro kk ss hIk _
 rw [hI] at hIk;obtain ⟨i,hi,rfl,hx,rfl⟩:=hIk;refine au ?_;intros;apply wr;refine zAC rfl (fun h=>?_) (fun h=>?_)
 ·simp at h;have hw:IntKind.u64.wrap (i:Int)=i:=by rw [IntKind.wrap_u64];omega
  have hb:=bitE g i (by omega) h0 h1
  refine au1 (kX3 @iand.eq_1 @hw @hb) ?_;intros;apply wr;refine zAC rfl (fun h2=>?_) (fun h2=>?_)
  ·simp at h2;have hf:balMay g p=false:=by
    cases hc:balMay g p with
    | false=>rfl
    | true=>have:=(zME g p h0 h1).1 hc i (by omega) h2.1;omega
   refine au ?_;intros;apply wr;refine zAB ?_;simp [hf]
  simp at h2;have hnew:∀ j<i+1,hasF g j=true->(j:Int)<p:=fun j hj hh=>by
   by_cases e:j=i
   ·subst e;exact h2 hh
   exact hx j (by omega) hh
  refine au ?_;intros;apply wr;exact aX (id) (by rw [hI];exact ⟨i+1,by omega,rfl,hnew,rfl⟩) (zAA (n:=(i:Int)+1) (by omega) (by omega))
 simp at h;have hi:i=32:=by omega
 subst hi;have hf:balMay g p=true:=(zME g p h0 h1).2 hx;refine au ?_;intros;apply wr;refine zAB ?_;simp [hf]
theorem zSJ (l:List Int):0<=pagesD l:=by
 unfold pagesD;split
 ·rw [zAA (by omega) (by omega)];omega
 omega
theorem zSI (l:List Int):decide (pagesD l<1)=(pagesD l==0):=by
 have:=zSJ l;rw [Bool.eq_iff_iff,decide_eq_true_eq,beq_iff_eq];omega
theorem zQG (m:MchD) (h0:0<=m.given) (h1:m.given<=4294967295):zAD prog 41 [.st m.row] (.bool (mayD m)):=by
 refine sZ func41 ntmps41 ?_;exact wx1 (qX6 (zDr m.mem) (zNz m.keys) (zN7 m.tim) (zN0 m.dk (pagesD m.mem)) (zN5 m.nc (pagesD m.mem)) (zNy m.tgt m.given (pagesD m.mem) h0 h1)) trivial (kX2 @zSI @mayD.eq_1)
theorem zSo (l:List Int) (hb:l.length<=100000):zAD prog 43 [memV l,memV l] (.bool true):=by
 refine sY func43 ntmps43 @zAM ?_;intros;apply wr;refine gF01 rfl @zAM ?_;intros;apply wr;obtain ⟨I,hI⟩:∃ I:Nat->St->Prop,I=(fun kk ss=>∃ (i:Nat) ,i<=l.length/\kk=l.length-i/\(True)/\ss=⟨26,[(5,.int .i64 i),(0,memV l),(1,memV l)],0,[],0⟩):=⟨_,rfl⟩
 refine lX I (id) (by rw [hI];exact ⟨0,by simp,rfl,trivial,rfl⟩) ?_
 intro kk ss hIk _
 rw [hI] at hIk;obtain ⟨i,hi,rfl,hx,rfl⟩:=hIk;refine au1 @zAM ?_;intros;apply wr;refine zAC rfl (fun h=>?_) (fun h=>?_)
 ·simp at h;have hg:(ints .u32 l)[i]? =some [uv (l.getD i 0)]:=by simp [ints,h]
  refine au1 @hg ?_;intros;apply wr;refine zAG 9 [0,0,3,7,0,0,48,112,255] [(8,([[],[],[0,1],[0,1,2],[],[],[4,5],[4,5,6]],[])),(1,([],[]))] ?_;refine afm1 (kX2 @zAM @hg) ?_;intros;apply wr;refine zBM rfl ?_;intros;apply wr;exact aX (id) (by rw [hI];exact ⟨i+1,by omega,rfl,trivial,rfl⟩) (zAA (n:=(i:Int)+1) (by omega) (by omega))
 simp at h;refine af ?_;intros;apply wr;refine zAB ?_;simp
end Go.Proofs.YthjpcmecgjfilaaGreat
end
