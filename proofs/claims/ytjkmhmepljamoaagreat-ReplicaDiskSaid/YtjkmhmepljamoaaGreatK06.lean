/- A part of the proof of ReplicaDisk. -/
import Derived.Test.YtjkmhmepljamoaaGreatK04
import Derived.Test.YtjkmhmepljamoaaGreatK05
set_option linter.all false
set_option maxHeartbeats 16000000
set_option maxRecDepth 100000
section
namespace Go.Ab
open Go.RowKit
theorem ad{G:Prop}(t:G:=by(with_reducible (repeat intro Kx hKx));(try with_reducible apply wr);(repeat (first|(with_reducible first|refine B5 fun Kx hKx=>?_|refine BK ?_)|((with_reducible first|refine Au (by kernel_rfl) ?_|refine Bb ?_|refine B8 ?_|refine Ba ?_|refine B9 ?_|refine B6 ?_|refine B2 ?_);simp)|((repeat ((fail_if_success (with_reducible refine hKx _ ?_));clear hKx;try clear Kx));(with_reducible refine hKx _ ?_);clear hKx;try clear Kx)|(with_reducible refine Vs ‹_› ?_)|refine And.intro (by first|omega|assumption|grind) ?_));done):G:=t
def RR:List Nat->List (Nat×Option Ob)->List (Nat×Option Ob)
 | [],_=>[]
 | i::r,ob=>(i,lookO ob i)::RR r ob
theorem JO(ob:List (Nat×Option Ob)):∀(ids:List Nat)(id:Nat)(o:Ob),lookO (RR ids ob) id=some o->lookO ob id=some o
 | [],id,o,h=>by simp[RR,lookO]at h
 | i::r,id,o,h=>by
  simp only[RR,lookO]at h;split at h
  ·rename_i e;subst e;exact h
  exact JO ob r id o h
theorem Qr[Glo]{P:Program}{c:Code}{Q:Exit->St->Prop}{n nx pn:Nat}{tmp:List (Nat×V)}{ob O:List (Nat×Option Ob)}(ids:List Nat)(hO:RR ids ob=O)(h:awp P c Q ⟨n,tmp,nx,O,pn⟩):awp P c Q ⟨n,tmp,nx,ob,pn⟩ :=
 fun base Xa w0 a w ⟨M,hM⟩=>h base Xa w0 a w ⟨M,by
  have:=hM.sub (ob1:=O) fun id o ho=>⟨o.fz,JO ob ids id o (by rw[hO];exact ho),fun h=>h⟩;exact this⟩
theorem auB{G N:Prop}(h:N)(t:Bx N->G:=by intro h;(with_reducible (repeat intro Kx hKx));(try with_reducible apply wr);(repeat (first|(with_reducible first|refine B5 fun Kx hKx=>?_|refine BK ?_)|((with_reducible first|refine Au (by kernel_rfl) ?_|refine Bb ?_|refine B8 ?_|refine Ba ?_|refine B9 ?_|refine B6 ?_|refine B2 ?_);simp(maxSteps:=2000000))|((repeat ((fail_if_success (with_reducible refine hKx _ ?_));clear hKx;try clear Kx));(with_reducible refine hKx _ ?_);clear hKx;try clear Kx)|(with_reducible refine Vs ‹_› ?_)|refine And.intro (by first|omega|assumption|grind) ?_));refine Y9 ?_;(repeat revert Kx);exact h.out):G:=t  ⟨h⟩
theorem afB{G N:Prop}(h:N)(t:Bx N->G:=by intro h;(with_reducible (repeat intro Kx hKx));(try with_reducible apply wr);(repeat (first|(with_reducible first|refine B5 fun Kx hKx=>?_|refine BK ?_)|((with_reducible first|refine Au (by kernel_rfl) ?_|refine Bb ?_|refine B8 ?_|refine Ba ?_|refine B9 ?_|refine ET ?_|refine EQ ?_|refine ES ?_|refine ER ?_|refine B6 ?_|refine B2 ?_);simp(maxSteps:=2000000))|((repeat ((fail_if_success (with_reducible first|refine hKx _ ?_|refine hKx _ _ _ _ ?_));clear hKx;try clear Kx));(with_reducible first|refine hKx _ ?_|refine hKx _ _ _ _ ?_);clear hKx;try clear Kx)|(with_reducible first|refine Vs ‹_› ?_|refine V8 ‹_› ?_)|(with_reducible refine Fw fun Kx hKx=>?_;simp(maxSteps:=2000000))|(with_reducible refine Fv ?_;try simp only[thn,blk])|(with_reducible refine Fx fun Kx hKx=>?_;simp only[List.take_succ_cons,List.take_zero])|(with_reducible refine EN fun Kx hKx=>?_;simp(maxSteps:=2000000))|(with_reducible refine Fe ?_)|(with_reducible refine EX ?_;simp only[List.drop_succ_cons,List.drop_zero];simp only[stS,eT,eO,iT,jA,cond_true,cond_false,Bool.and_true,Bool.and_false,Bool.true_and,Bool.false_and])|(with_reducible refine Dn ?_ ?_;(· (simp(maxSteps:=2000000)<;>first|omega|grind)))|refine And.intro (by first|omega|assumption|grind) ?_));refine Y9 ?_;(repeat revert Kx);exact h.out):G:=t  ⟨h⟩
theorem ccB{C G N:Prop}(c:C)(h:N)(t:C->Bx N->G:=by intro c h;(with_reducible (repeat intro Kx hKx));(try with_reducible apply wr);first|((first|refine .inl ⟨0,_,c,?_⟩|refine⟨0,_,c,?_⟩|(refine .inl ⟨0,_,AC.wk c ?_,?_⟩;focus (simp(maxSteps:=2000000);done))|(refine⟨0,_,AC.wk c ?_,?_⟩;focus (simp(maxSteps:=2000000);done)));simp(maxSteps:=2000000) [C0,Cd];((repeat revert Kx);exact h.out))|((first|refine B0 c rfl (fun hgd=>?_) (by simp(maxSteps:=2000000) [BY]) ?_|refine BI c rfl (by simp(maxSteps:=2000000)) (fun hgd=>?_) (by simp(maxSteps:=2000000) [BY]) ?_)<;>simp(maxSteps:=2000000)<;>(try (first|exact hgd|(simp at hgd;first|done|assumption|grind)));((repeat revert Kx);exact h.out))|fail):G:=t c  ⟨h⟩
theorem rtB{G:Prop}(t:G:=by(with_reducible (repeat intro Kx hKx));(try with_reducible apply wr);first|(refine BS ?_;simp(maxSteps:=2000000);done)|(refine Ds ?_;refine BS ?_;simp(maxSteps:=2000000);done)|(refine BS ?_;simp(maxSteps:=2000000);first|(simp_all;done)|(simp_all;omega)|grind)|(refine Ds ?_;refine BS ?_;simp(maxSteps:=2000000);first|(simp_all;done)|(simp_all;omega)|grind)|fail):G:=t
theorem Qq{G N E0:Prop}(e0:E0)(h:N)(t:E0->Bx N->G:=by intro e0 h;(with_reducible (repeat intro Kx hKx));(try with_reducible apply wr);(repeat (first|(with_reducible first|refine B5 fun Kx hKx=>?_|refine BK ?_)|((with_reducible first|refine Au (by kernel_rfl) ?_|refine Bb ?_|refine B8 ?_|refine Ba ?_|refine B9 ?_|refine ET ?_|refine EQ ?_|refine ES ?_|refine ER ?_|refine B6 ?_|refine B2 ?_);simp(maxSteps:=2000000) [e0])|((repeat ((fail_if_success (with_reducible first|refine hKx _ ?_|refine hKx _ _ _ _ ?_));clear hKx;try clear Kx));(with_reducible first|refine hKx _ ?_|refine hKx _ _ _ _ ?_);clear hKx;try clear Kx)|(with_reducible first|refine Vs ‹_› ?_|refine V8 ‹_› ?_)|(with_reducible refine Fw fun Kx hKx=>?_;simp(maxSteps:=2000000) [e0])|(with_reducible refine Fv ?_;try simp only[thn,blk])|(with_reducible refine Fx fun Kx hKx=>?_;simp only[List.take_succ_cons,List.take_zero])|(with_reducible refine EN fun Kx hKx=>?_;simp(maxSteps:=2000000) [e0])|(with_reducible refine Fe ?_)|(with_reducible refine EX ?_;simp only[List.drop_succ_cons,List.drop_zero];simp only[stS,eT,eO,iT,jA,cond_true,cond_false,Bool.and_true,Bool.and_false,Bool.true_and,Bool.false_and])|(with_reducible refine Dn ?_ ?_;(· (simp(maxSteps:=2000000) [e0]<;>first|omega|grind)))|refine And.intro (by first|omega|assumption|grind) ?_));refine Y9 ?_;(repeat revert Kx);exact h.out):G:=t e0 ⟨h⟩
theorem ccB1{C G N E0:Prop}(c:C)(e0:E0)(h:N)(t:C->E0->Bx N->G:=by intro c e0 h;(with_reducible (repeat intro Kx hKx));(try with_reducible apply wr);first|((first|refine .inl ⟨0,_,c,?_⟩|refine⟨0,_,c,?_⟩|(refine .inl ⟨0,_,AC.wk c ?_,?_⟩;focus (simp(maxSteps:=2000000);done))|(refine⟨0,_,AC.wk c ?_,?_⟩;focus (simp(maxSteps:=2000000);done)));simp(maxSteps:=2000000) [C0,Cd,e0];((repeat revert Kx);exact h.out))|((first|refine B0 c rfl (fun hgd=>?_) (by simp(maxSteps:=2000000) [BY]) ?_|refine BI c rfl (by simp(maxSteps:=2000000)) (fun hgd=>?_) (by simp(maxSteps:=2000000) [BY]) ?_)<;>simp(maxSteps:=2000000) [e0]<;>(try (first|exact hgd|(simp at hgd;first|done|assumption|grind)));((repeat revert Kx);exact h.out))|fail):G:=t c e0 ⟨h⟩
end Go.Ab
end
section
namespace Go.Proofs.YtjkmhmepljamoaaGreat
open Go.Ab Go.RowKit Tryz
def hasF(g:Int)(i:Nat):Bool:=g.toNat.testBit i
theorem bitE(g:Int)(i:Nat)(hi:i<32)(h0:0<=g)(h1:g<=4294967295):(IntKind.u32.wrap (((g.fdiv (2^min i IntKind.u32.bits)%2^IntKind.u32.bits).toNat &&& 1%2^IntKind.u32.bits:Nat):Int)==1)=hasF g i:=by
 have e1:min i IntKind.u32.bits=i:=by show min i 32=i;omega
 rw[e1,gU _ (by exact Int.pow_nonneg (by decide))];obtain⟨n,rfl⟩:∃n:Nat,g=n:=⟨g.toNat,by omega⟩;have e2:((n:Int)/2^i%2^IntKind.u32.bits).toNat=n/2^i:=by
  have:((n:Int)/2^i)=((n/2^i:Nat):Int):=by simp
  rw[this];have hle:n/2^i<=n:=Nat.div_le_self _ _;generalize n/2^i=y at hle ⊢;rw[Int.emod_eq_of_lt (by omega) (by show(y:Int)<4294967296;omega)];simp
 have e3:1%2^IntKind.u32.bits=1:=by decide
 rw[e2,e3,Nat.and_one_is_mod];unfold hasF;rw[Int.toNat_natCast,Nat.testBit_eq_decide_div_mod_eq,IntKind.wrap_u32];by_cases h:n/2^i%2=1
 ·rw[h];simp
 have h':n/2^i%2=0:=by omega
 rw[h'];simp
theorem len_lt(n q:Nat)(hn:n<4294967296):Lib.bitLen n<=q↔n<2^q:=by
 constructor
 ·intro hb;apply Classical.byContradiction;intro hc;have hc:2^q<=n:=Nat.le_of_not_lt hc;have h2:=Lib.bitLen_shift q n hc (by omega);have h3:0<n/2^q:=Nat.div_pos hc (Nat.two_pow_pos q);have h5:=Nat.div_le_self n (2^q);generalize n/2^q=y at h2 h3 h5;have h4:=Lib.bitLen_half y (by omega) (by omega);omega
 intro hlt;by_cases hq64:q<=64
 ·exact Lib.bitLen_le n q hq64 hlt
 have:=Lib.bitLen_le n 64 (by omega) (by omega);omega
theorem cI(n q:Nat)(hn:n<4294967296):n<2^q↔∀j<32,n.testBit j=true->j<q:=by
 constructor
 ·intro hlt j _ ht;apply Classical.byContradiction;intro hc;have:n<2^j:=Nat.lt_of_lt_of_le hlt (Nat.pow_le_pow_right (by decide) (by omega));rw[Nat.testBit_lt_two_pow this]at ht;cases ht
 intro h;apply Nat.lt_pow_two_of_testBit;intro j hj;by_cases hj':j<32
 ·cases hb:n.testBit j with
  | false=>rfl
  | true=>have:=h j hj' hb;omega
 exact Nat.testBit_lt_two_pow (Nat.lt_of_lt_of_le (show n<2^32 by omega) (Nat.pow_le_pow_right (by decide) (by omega)))
theorem P8(g p:Int)(h0:0<=g)(h1:g<=4294967295):balMay g p=true↔∀j<32,hasF g j=true->(j:Int)<p:=by
 have e:balMay g p=true↔Lib.bitLen g.toNat<=p.toNat:=by
  have:max p 0=(p.toNat:Int):=by omega
  unfold balMay bitLen;rw[this,decide_eq_true_eq];omega
 rw[e,len_lt _ _ (by omega),cI _ _ (by omega)];unfold hasF;constructor
 ·intro h j hj ht;have:=h j hj ht;omega
 intro h j hj ht;have:=h j hj ht;omega
theorem Rj(a g p:Int)(h0:0<=g)(h1:g<=4294967295):AC prog 148 [.st [uv a,uv g],iv p] (.bool (balMay g p)):=by
 refine sX func148 ntmps148 ?_;intros;apply wr;obtain⟨I,hI⟩:∃I:Nat->St->Prop,I=(fun kk ss=>∃(i:Nat),i<=32/\kk=32-i/\(∀j<i,hasF g j=true->(j:Int)<p)/\ss=⟨22,[(5,.int .i64 i),(2,.ptr 0 2 0 0),(1,iv p)],1,[(0,some ⟨40,2,true,false,[[uv a,uv g]]⟩)],0⟩):=⟨_,rfl⟩;refine lX I (id) (by rw[hI];exact⟨0,by simp,rfl,by simp,rfl⟩) ?_;intro kk ss hIk _;rw[hI]at hIk;obtain⟨i,hi,rfl,hx,rfl⟩:=hIk;refine au ?_;intros;apply wr;refine AB rfl (fun h=>?_) (fun h=>?_)
 ·simp at h;have hw:IntKind.u64.wrap (i:Int)=i:=by rw[IntKind.wrap_u64];omega
  have hb:=bitE g i (by omega) h0 h1;refine au1 (kX3 @Bg.eq_1 @hw @hb) ?_;intros;apply wr;refine AB rfl (fun h2=>?_) (fun h2=>?_)
  ·simp at h2;have hf:balMay g p=false:=by
    cases hc:balMay g p with
    | false=>rfl
    | true=>have:=(P8 g p h0 h1).1 hc i (by omega) h2.1;omega
   refine au ?_;refine ar ?_;simp[hf]
  simp at h2;have hnew:∀j<i+1,hasF g j=true->(j:Int)<p:=fun j hj hh=>by
   by_cases e:j=i
   ·subst e;exact h2 hh
   exact hx j (by omega) hh
  refine au ?_;intros;apply wr;exact aX (id) (by rw[hI];exact⟨i+1,by omega,rfl,hnew,rfl⟩) (AA (n:=(i:Int)+1))
 simp at h;have hi:i=32:=by omega
 subst hi;have hf:balMay g p=true:=(P8 g p h0 h1).2 hx;refine au ?_;refine ar ?_;simp[hf]
theorem XY(l:List Int):0<=pagesD l:=by
 unfold pagesD;split
 ·rw[AA];omega
 omega
theorem XX(l:List Int):decide (pagesD l<1)=(pagesD l==0):=by
 have:=XY l;rw[Bool.eq_iff_iff,decide_eq_true_eq,beq_iff_eq];omega
theorem Ur(m:MchD)(h0:0<=m.given)(h1:m.given<=4294967295):AC prog 89 [.st m.row] (.bool (mayD m)):=by
 refine sZ func89 ntmps89 ?_;exact wx1 (qX6 (EA m.mem) (Rk m.keys) (Rw m.tim) (Rl m.dk (pagesD m.mem)) (Rt m.nc (pagesD m.mem)) (Rj m.tgt m.given (pagesD m.mem) h0 h1)) trivial (kX2 @XX @mayD.eq_1)
theorem YO(l:List Int)(hb:l.length<=100000):AC prog 47 [DO l,DO l] (.bool true):=by
 refine sY func47 ntmps47 @AN ?_;refine EG @AN ?_;intros;apply wr;obtain⟨I,hI⟩:∃I:Nat->St->Prop,I=(fun kk ss=>∃(i:Nat),i<=l.length/\kk=l.length-i/\(True)/\ss=⟨26,[(5,.int .i64 i),(0,DO l),(1,DO l)],0,[],0⟩):=⟨_,rfl⟩;refine lX I (id) (by rw[hI];exact⟨0,by simp,rfl,trivial,rfl⟩) ?_;intro kk ss hIk _;rw[hI]at hIk;obtain⟨i,hi,rfl,hx,rfl⟩:=hIk;refine au1 @AN ?_;intros;apply wr;refine AB rfl (fun h=>?_) (fun h=>?_)
 ·simp at h;have hg:(ints .u32 l)[i]? =some [uv (l.getD i 0)]:=by simp[ints,h]
  refine au1 @hg ?_;intros;apply wr;refine AD 9 [0,0,3,7,0,0,48,112,255] [(8,([[],[],[0,1],[0,1,2],[],[],[4,5],[4,5,6]],[])),(1,([],[]))] ?_;refine afm1 (kX2 @AN @hg) ?_;refine BN ?_;intros;apply wr;exact aX (id) (by rw[hI];exact⟨i+1,by omega,rfl,trivial,rfl⟩) (AA (n:=(i:Int)+1))
 simp at h;refine af ?_;refine ar ?_;simp
theorem VK(m:MchD)(hb:m.mem.length<=100000):AC prog 16 [.st m.row,.st m.row] (.bool true):=by
 refine sZ func16 ntmps16 ?_;exact wx1 (qX1 (YO m.mem hb)) trivial @GE.eq_1

@[simp] theorem wI64{n:Int}(h1:-9223372036854775808<=n:=by omega)(h2:n<=9223372036854775807:=by omega):IntKind.i64.wrap n=n:=AA h1 h2
@[simp] theorem wU64{n:Int}(h1:0<=n)(h2:n<=18446744073709551615):IntKind.u64.wrap n=n:=by rw[IntKind.wrap_u64];omega
@[simp] theorem wU32{n:Int}(h1:0<=n)(h2:n<=4294967295):IntKind.u32.wrap n=n:=by rw[IntKind.wrap_u32];omega
@[simp] theorem wU8{n:Int}(h1:0<=n)(h2:n<=255):IntKind.u8.wrap n=n:=by rw[IntKind.wrap_u8];omega
def mem0:List Int:=List.replicate 256 0
theorem Pp:List.replicate 256 [V.int .u32 0]=ints .u32 mem0:=by kernel_rfl
theorem mem0_l:(ints .u32 mem0).length=256:=by kernel_rfl
def mk(s c n:Int):MchD:={Vt with cpu:=⟨fun _=>0,0,fun i=>if i=0 then s else if i=3 then c else 0⟩,mem:=mem0,dk:={gK with blocks:=4},count:=n}
theorem d5:AC prog 102 [iv 8] (.new 25 1 (ints .u32 mem0)):=by
 refine sZ func102 ntmps102 ?_;exact wxm1 trivial trivial (kX2 @maxLen.eq_1 @Pp)
theorem Xu:AC prog 101 [uv 0] (.st (CpuD.row ⟨fun _=>0,0,fun i=>if i=0 then 1 else 0⟩)):=by
 refine sZ func101 ntmps101 ?_;exact wx trivial trivial
theorem cP(x:Int):∃a b,AC prog 169 [.int .u64 x] (.tup [.int .u64 a,.int .u64 b]):=by
 apply Exists.intro;apply Exists.intro;refine sX func169 ntmps169 ?_;intros;apply wr;refine ar ?_;simp;exact⟨rfl,rfl⟩
theorem ZM(n k:Int):∃m,AC prog 110 [.int .i64 n,.int .i64 k] (.int .i64 m):=by
 apply Exists.intro;refine sX func110 ntmps110 ?_;refine cX (Classical.choose_spec (Classical.choose_spec (cP _))) ?_;intros;apply wr;refine ar ?_;simp;rfl
noncomputable def mixA(n k:Int):Int:=Classical.choose (ZM n k)
theorem ZN(n k:Int):AC prog 110 [.int .i64 n,.int .i64 k] (.int .i64 (mixA n k)):=Classical.choose_spec (ZM n k)
noncomputable def WT(n:Int)(i:Nat):UInt8:=UInt8.ofNat (IntKind.u8.wrap (mixA n ((i:Int)/9))).toNat
theorem WU(n:Int)(i:Nat):IntKind.u8.wrap (mixA n ((i:Int)/9))=((WT n i).toNat:Int):=by
 have h:0<=IntKind.u8.wrap (mixA n ((i:Int)/9))/\IntKind.u8.wrap (mixA n ((i:Int)/9))<256:=by rw[IntKind.wrap_u8];omega
 unfold WT;rw[UInt8.toNat_ofNat'];omega
noncomputable def FC(n:Int)(k:Nat):List UInt8:=(List.range k).map (WT n)
theorem MX(n:Int)(k:Nat):(FC n k).length=k:=by simp[FC]
theorem RA(n:Int)(i:Nat):AM (FC n i)++[[V.int .u8 ((WT n i).toNat:Int)]]=AM (FC n (i+1)):=by simp[FC,AM,List.range_succ]
theorem bx_len(n:Int)(i:Nat):(AM (FC n i)).length=i:=by rw[Qv,MX]
@[simp] theorem strs0:strs []=[]:=rfl
@[simp] theorem bx0(n:Int):AM (FC n 0)=[]:=by simp[FC,AM]
theorem aJ(n:Int):AC prog 54 [iv n,iv 128] (.str (FC n 128)):=by
 refine sX func54 ntmps54 ?_;intros;apply wr;refine AT 5 5 1 (by decide) rfl ?_;obtain⟨I,hI⟩:∃I:Nat->St->Prop,I=(fun kk ss=>∃(i:Nat),i<=128/\kk=128-i/\(True)/\ss=⟨22,[(6,.int .i64 i),(5,.own 0),(1,iv 128),(0,iv n)],1,[(0,some ⟨5,1,false,false,AM (FC n i)⟩)],0⟩):=⟨_,rfl⟩;refine lX I (id) (by rw[hI];exact⟨0,by simp,rfl,trivial,rfl⟩) ?_;intro kk ss hIk _;rw[hI]at hIk;obtain⟨i,hi,rfl,hx,rfl⟩:=hIk;refine au ?_;intros;apply wr;refine AB rfl (fun h=>?_) (fun h=>?_)
 ·simp at h;have hl:=bx_len n i;have hb:=WU n i;have hw:IntKind.i64.wrap ((i:Int)/9)=(i:Int)/9:=AA;refine au1 @hw ?_;refine Yq (ZN n ((i:Int)/9)) (kX3 @hl @hb @maxLen.eq_1) ?_;refine Jn (kX3 @hl @hb @maxLen.eq_1) ?_;intros;apply wr;exact aX (fun x=>if x=0 then 3 else x) (by rw[hI];exact⟨i+1,by omega,rfl,trivial,rfl⟩) (kX2 (AA (n:=(i:Int)+1)) @RA)
 simp at h;have hi:i=128:=by omega
 subst hi;have hs:=Dl (FC n 128);have hB:=Dk (FC n 128);refine Jn (kX2 @hs @hB) ?_;refine ar ?_;simp
noncomputable def blocksA:List (List UInt8):=[FC 1 128,FC 2 128,FC 3 128,FC 4 128]
theorem MK:AC prog 20 [iv 1] (.new 9 1 (strs blocksA)):=by
 refine sX func20 ntmps20 ?_;intros;apply wr;refine AT 3 9 1 (by decide) rfl ?_;obtain⟨I,hI⟩:∃I:Nat->St->Prop,I=(fun kk ss=>∃(i:Nat),i<=4/\kk=4-i/\(True)/\ss=⟨17,[(4,.int .i64 i),(3,.own 0),(0,iv 1)],1,[(0,some ⟨9,1,false,false,strs (blocksA.take i)⟩)],0⟩):=⟨_,rfl⟩;refine lX I (id) (by rw[hI];exact⟨0,by simp,rfl,trivial,rfl⟩) ?_;intro kk ss hIk _;rw[hI]at hIk;obtain⟨i,hi,rfl,hx,rfl⟩:=hIk;refine au ?_;intros;apply wr;refine AB rfl (fun h=>?_) (fun h=>?_)
 ·simp at h;have hw:IntKind.i64.wrap (1+(i:Int))=1+(i:Int):=AA;have hl:(strs (blocksA.take i)).length=i:=by rw[BV,iD];simp[blocksA];omega
  have hs:strs (blocksA.take i)++[[V.str (FC (1+(i:Int)) 128)]]=strs (blocksA.take (i+1)):=by
   have:i=0\/i=1\/i=2\/i=3:=by omega
   rcases this with rfl|rfl|rfl|rfl<;>simp[blocksA,strs]
  refine au1 @hw ?_;refine Yq (aJ (1+(i:Int))) (kX2 @hl @maxLen.eq_1) ?_;refine Jn (kX2 @hl @maxLen.eq_1) ?_;intros;apply wr;exact aX (fun x=>if x=0 then 3 else x) (by rw[hI];exact⟨i+1,by omega,rfl,trivial,rfl⟩) (kX2 (AA (n:=(i:Int)+1)) @hs)
 simp at h;have hi:i=4:=by omega
 subst hi;have ht:blocksA.take 4=blocksA:=by simp[blocksA]
 refine au ?_;refine ar ?_;simp[ht]
abbrev BR(bs:List (List UInt8))(gen owner:Int):V:=.st [.sl 1 false (strs bs),lv gen,iv owner]
theorem fL(l:List (List UInt8))(i:Nat)(h:i<(strs l).length):(strs l)[i]'h=[V.str (l[i]'(by simpa[strs]using h))]:=by simp[strs]
theorem Jj(bs:List (List UInt8))(hb:∀b∈bs,b.length=128)(h1:1<=bs.length)(h2:bs.length<=64):AC prog 58 [BR bs 0 (-1)] (.bool true):=by
 have hl:=BV bs;refine sY func58 ntmps58 @hl ?_;intros;apply wr;refine AB rfl (fun h=>by simp at h;omega) (fun _=>?_);refine au ?_;intros;apply wr;obtain⟨I,hI⟩:∃I:Nat->St->Prop,I=(fun kk ss=>∃(i:Nat),i<=bs.length/\kk=bs.length-i/\(True)/\ss=⟨53,[(3,.int .i64 i),(1,.ptr 0 3 0 0)],1,[(0,some ⟨64,3,true,false,[[.sl 1 false (strs bs),lv 0,iv (-1)]]⟩)],0⟩):=⟨_,rfl⟩;refine lX I (id) (by rw[hI];exact⟨0,by simp,rfl,trivial,rfl⟩) ?_;intro kk ss hIk _;rw[hI]at hIk;obtain⟨i,hi,rfl,hx,rfl⟩:=hIk;refine au1 @hl ?_;intros;apply wr;refine AB rfl (fun h=>?_) (fun h=>?_)
 ·simp at h;obtain⟨s,hs⟩:∃s,bs[i]=s:=⟨_,rfl⟩;have hge:s.length=128:=by have:=hb _ (List.getElem_mem h);rwa[hs]at this
  have hsg:(strs bs)[i]? =some [.str s]:=by simp[strs,h,hs]
  refine Jn (kX3 @hl @hsg @hge) ?_;refine C3 ?_;intros;apply wr;exact aX (id) (by rw[hI];exact⟨i+1,by omega,rfl,trivial,rfl⟩) (AA (n:=(i:Int)+1))
 simp at h;refine au ?_;refine ar ?_;simp
theorem GR:∀b∈blocksA,b.length=128:=by simp[blocksA,MX]
theorem YT:AC prog 23 [.sl 1 false (strs blocksA)] (.tup [BR blocksA 0 (-1),.bool true]):=by
 have hl:(strs blocksA).length=4:=by rw[BV];simp[blocksA]
 refine sZ func23 ntmps23 ?_;refine Jn (kX2 @hl @maxLen.eq_1) ?_;exact wx1 (qX1 (Jj blocksA GR (by simp[blocksA]) (by simp[blocksA]))) trivial (kX2 @hl @maxLen.eq_1)
theorem WZ:AC prog 24 [BR blocksA 0 (-1),iv 0,lv 0] (.tup [BR blocksA 1 0,.bool true]):=by
 refine sZ func24 ntmps24 ?_;exact wx (qX1 (Jj blocksA GR (by simp[blocksA]) (by simp[blocksA]))) trivial
noncomputable abbrev wldR(a b:RepD):List V:=a.row++(b.row++[.sl 0 true [],.sl 0 true [],.sl 1 false (strs blocksA),lv 1,iv 0])
theorem Kj(kind lim:Int)(l:List Int)(M:MchD)(hd:Jp lim=true)(hmay:mayD M=true)(hs:M.dk.state=0)(hg:0<=M.given/\M.given<=4294967295)(hl:M.mem.length<=100000)
  (hm:AC prog 14 [iv kind,.sl 1 false (ints .i64 l)] (.st M.row)) :
  AC prog 6 [iv kind,.sl 1 false (ints .i64 l),iv lim] (.tup [.st (wldR (Dz 0 M 1 lim) (GP 1 M 1 lim)),.bool true]):=by
 have hf0:Bv 0 M 1 lim=true:=by simp[Bv,hmay,hs,hd]
 have hf1:Bv 1 M 1 lim=true:=by simp[Bv,hmay,hs,hd]
 have e1:=UT 0 M 1 lim hg.1 hg.2 hl;have e3:=aB 1 M 1 lim hg.1 hg.2 hl;simp only[dF,backV,hf0,hf1,if_true]at e1 e3;generalize Dz 0 M 1 lim=a at *;generalize GP 1 M 1 lim=b at *;refine sX func6 ntmps6 ?_;refine cX (hm) ?_;refine cX (MK) ?_;refine cX (YT) ?_;refine cX (WZ) ?_;refine cX (e1) ?_;refine cX (e3) ?_;intros;apply wr;refine S7 [9,6,11,12,13,14,15] (by simp;rfl) ?_;refine Qr [0,51,188,315] (by simp only[RR,lookO,Nat.reduceEqDiff,reduceIte];rfl) ?_
 (refine afB ?_;intros;apply wr)
 repeat' ((first|(refine AB rfl (fun h=>?_) (fun h=>?_)<;>(first|(simp at h;done)|(simp at h)|skip)<;>(first|(exfalso;omega)|skip))|(refine AD 6 [0,0,1,5,15,31] [(4,([[],[],[0],[0,2]],[(1,3)])),(1,([],[])),(1,([],[]))] ?_)|exact rtB|fail)<;>(refine afB ?_;intros;apply wr))
abbrev byO(s:Str):Ob:=⟨5,1,false,false,AM s⟩
theorem Kv(s:Str):(AM s).length=s.length:=by simp[AM]
theorem Nu(s t:Str):AM s++AM t=AM (s++t):=by simp[AM]
theorem Sl(b:UInt8):[[V.int .u8 (b.toNat:Int)]]=AM [b]:=by simp[AM]
theorem JL:∀(k:Nat)(run:Str),run.length<=k->Gi k run=IG run
 | 0,run,h=>by
  have:run=[]:=iF (by omega);subst this;rfl
 | k+1,run,h=>by
  by_cases hr:run=[]
  ·subst hr;rfl
  have hp:0<run.length:=List.length_pos_iff.2 hr;obtain⟨m,hm⟩:∃m,run.length=m+1:=⟨run.length-1,by omega⟩;have hd:(run.drop (min 128 run.length)).length<=m:=by rw[iE];omega
  rw[IG,hm,Gi,Gi,if_neg hr,if_neg hr,JL k _ (by omega),JL m _ hd]
theorem XD(run:Str)(hr:run≠[]):IG run=UInt8.ofNat (min 128 run.length-1)::(run.take (min 128 run.length)++IG (run.drop (min 128 run.length))):=by
 have hp:0<run.length:=List.length_pos_iff.2 hr;obtain⟨m,hm⟩:∃m,run.length=m+1:=⟨run.length-1,by omega⟩;have hd:(run.drop (min 128 run.length)).length<=m:=by rw[iE];omega
 have:IG run=Gi (m+1) run:=by rw[IG,hm]
 rw[this,Gi,if_neg hr,JL m _ hd]
theorem LQ:∀(k:Nat)(run:Str),(Gi k run).length<=2*run.length
 | 0,run=>by simp[Gi]
 | k+1,run=>by
  unfold Gi;split
  ·simp
  rename_i hr;have hp:0<run.length:=List.length_pos_iff.2 hr;have:=LQ k (run.drop (min 128 run.length));rw[iE]at this;simp only[iO,gV,iD];omega
theorem QS{nx:Nat}{ob:List (Nat×Option Ob)}(id:Nat)(o run:Str)(hid:lookO ob id=some (byO o))(hn:id<nx)(ho:o.length<=400000)(hr:run.length<=100000):
  Bt prog 187 [.own id,.str run] nx ob fun r nx' ob'=>∃id',r=.own id'/\lookO ob' id'=some (byO (o++IG run))/\nx<=nx'/\id'<nx'/\(id'=id\/nx<=id')/\∀q,q<nx->q≠id->lookO ob' q=lookO ob q:=by
 refine sIY func187 ntmps187 @hid ?_;intros;apply wr;refine Aa (run.length+1) ?_;refine BM (fun k st=>∃(rest P:Str)(id' nx':Nat)(T:List (Nat×V))(o':List (Nat×Option Ob)),rest.length<=k/\st=⟨27,T,nx',o',nx⟩/\(lkT T 0=.own id'/\lkT T 1=.str rest)/\lookO o' id'=some (byO P)/\P++IG rest=o++IG run/\(nx<=nx'/\id'<nx'/\(id'=id\/nx<=id'))/\P.length+2*rest.length<=600000/\rest.length<=100000/\∀q,q<nx->q≠id->lookO o' q=lookO ob q) ?_ _ _ ⟨run,o,id,nx,_,_,g8 _,rfl,by simp[lkT],hid,rfl,⟨g8 _,hn,.inl rfl⟩,by omega,hr,fun q _ _=>rfl⟩;rintro k st ⟨rest,P,id',nx',T,o',hk,rfl,⟨t0,t1⟩,hP,hE,⟨h1,h2,h3⟩,h4,h5,h6⟩ Kl hKl;refine Bq [(0,.own id'),(1,.str rest)] (by simp[t0,t1]) ?_;simp;refine au ?_;intros;apply wr;by_cases hz:rest=[]
 ·subst hz;refine C3 ?_;intros;apply wr;refine ar ?_;simp;refine⟨by rw[<- hE];simpa[IG,Gi]using hP,h1,h2,h3,h6⟩
 have hp:0<rest.length:=List.length_pos_iff.2 hz;have c1:(0:Int)<rest.length:=by omega
 obtain⟨n,hn'⟩:∃n,n=min 128 rest.length:=⟨_,rfl⟩;have hmn:(if(rest.length:Int)<128 then(rest.length:Int)else 128)=n:=by split<;>omega
 obtain⟨b,hb'⟩:∃b,b=UInt8.ofNat (n-1):=⟨_,rfl⟩;have hb:b.toNat=n-1:=by rw[hb'];exact HF (by omega)
 have w1:IntKind.i64.wrap ((n:Int)-1)=(n:Int)-1:=AA;have w2:IntKind.u8.wrap ((n:Int)-1)=(b.toNat:Int):=by rw[hb,IntKind.wrap_u8];omega
 have d1:¬nx'=id':=by omega
 have d2:¬id'=nx':=by omega
 have hbl:=Kv P;have c2:(0:Int)<=n:=by omega
 have c3:(n:Int)<=rest.length:=by omega
 have hlc:=XD rest hz;rw[<- hn',<- hb']at hlc;have hol:(AM (P++[b])).length=P.length+1:=by simp[AM]
 have htl:(rest.take n).length=n:=by rw[iD];omega
 refine DI (kX2 @c1 @hz) (kX14 @hP @hbl @maxLen.eq_1 @hmn @w1 @w2 @d1 @d2 @Sl @Nu @c2 @c3 @hol @htl) ?_;intros;apply wr;refine hKl (k-1) _ (by omega) ⟨rest.drop n,P++([b]++rest.take n),nx'+1+1,nx'+1+1+1,_,_,by rw[iE];omega,rfl,by simp[lkT],by simp[lookO,AM],?_,⟨by omega,by omega,.inr (by omega)⟩,?_,by rw[iE];omega,fun q q1 q2=>?_⟩
 ·rw[<- hE,hlc];simp
 ·simp only[gV,iO,List.length_nil,iE,htl];omega
 simp[lookO,show ¬q=nx' by omega,show ¬q=nx'+1 by omega,show ¬q=nx'+1+1 by omega,show ¬q=id' by omega,h6 q q1 q2]
theorem LP(r:Str):(IG r).length<=2*r.length:=LQ _ _
theorem Gs(s:Str):∀(f i st:Nat)(out:Str),st<=i->i<=s.length->(IK s f i st out).length<=out.length+2*(s.length-st)
 | 0,i,st,out,h1,h2=>by
  unfold IK;have:=LP (s.drop st);rw[iE]at this;simp only[gV];omega
 | f+1,i,st,out,h1,h2=>by
  unfold IK;have h0:=LP (s.drop st);have h3:=LP ((s.take i).drop st);rw[iE]at h0 h3;rw[iD]at h3;rcases LX s i with hm|hm
  ·simp only[hm];split
   ·rename_i hi;have:=Gs s f (i+1) st out (by omega) (by omega)
    first
     | (simp;omega)
     | (split<;>first|omega|(simp;omega))
     | omega
   simp only[gV];omega
  have hl:=hm.l4;have hil:=hm.il;split
  ·rename_i hi;split
   ·have:=Gs s f (i+1) st out (by omega) (by omega);omega
   refine iY (Gs s f _ _ _ (g8 _) hil) ?_;simp only[gV,iO,List.length_nil];omega
  simp only[gV];omega
theorem FS(s:Str):(GV s).length<=2*s.length:=by
 have:=Gs s s.length 0 0 [] (g8 _) (Nat.zero_le _);simpa[GV]using this
end Go.Proofs.YtjkmhmepljamoaaGreat
end
