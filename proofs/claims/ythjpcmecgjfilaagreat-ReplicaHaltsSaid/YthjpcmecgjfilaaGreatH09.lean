/- A part of the proof of ReplicaHalts. -/
import Derived.Test.YthjpcmecgjfilaaGreatH06
import Derived.Test.YthjpcmecgjfilaaGreatH08
import Derived.Lib.AppendIntMem
import Derived.Lib.ItoaLen
set_option linter.unusedSimpArgs false
set_option linter.unusedVariables false
set_option maxHeartbeats 16000000
set_option maxRecDepth 100000
section
namespace Go.Proofs.YthjpcmecgjfilaaGreat
open Go.Ab Tryz
theorem zAn (n k:Int) (h0:0<k) (h1:k<=9223372036854775807):zAD prog 10 [.int .i64 n,.int .i64 k] (.int .i64 (n % k)):=by
 have e3:=Int.emod_lt_of_pos n h0;have e4:=Int.emod_nonneg n (show k≠0 by omega)
 have e1:0<=n.tmod k->n.tmod k=n % k:=fun h=>by rw [Int.tmod_eq_emod] at h ⊢;split<;>split at h<;>omega
 have e2:n.tmod k<0->n.tmod k+k=n % k:=fun h=>by rw [Int.tmod_eq_emod] at h ⊢;split<;>split at h<;>omega
 refine sX func10 ntmps10 ?_;intros;apply wr;refine zAC rfl (fun h=>?_) (fun h=>?_)
 ·simp at h;refine au ?_;intros;apply wr;refine zAB ?_;simp;rw [zAA (by omega) (by omega),e2 h]
 simp at h;refine au ?_;intros;apply wr;refine zAB ?_;simp;exact e1 h
def opsL:List Int:=[1,2,3,4,5,6,7,8,9,10,11,12,13,16,16,17,18,19,20,21,22,23,24,24,32,32,33,34,35,35,36,40,41,42,43,44,45,48,49,56,57,58,59,60,60,61,61,62,63,64]
theorem zNe:zAD prog 164 [] (.new 3 1 (ints .i64 opsL)):=by
 refine sX func164 ntmps164 ?_;intros;apply wr;refine zAB ?_;simp [opsL,ints]
def zCN (op a b c k z:Int):InstD :=
 if op<=13 then ⟨op,a,b,c,0⟩
 else if 40<=op/\op<=48 then ⟨op,a,if op=48 then 0 else b,0,k-12⟩
 else if op=16\/op=23\/(32<=op/\op<=36)\/op=49 then ⟨op,a,b,0,8*k-32⟩
 else if op=24 then ⟨op,a,0,0,k*z⟩
 else if 17<=op/\op<=22 then ⟨op,a,b,0,k⟩
 else if op=58\/op=59 then ⟨op,a,0,0,k % 8⟩
 else if op=60\/op=61 then ⟨op,a,0,0,k % 12⟩
 else ⟨op,0,0,0,0⟩
theorem zK1 (op a b c k z:Int) (ho:op∈opsL) (ha:0<=a/\a<6) (hb:0<=b/\b<6) (hc:0<=c/\c<6) (hk:0<=k/\k<24) (hz:z=0\/z=1):validD (zCN op a b c k z)=true:=by
 simp only [opsL,List.mem_cons,List.not_mem_nil,or_false] at ho;have hkz:0<=k*z/\k*z<24:=by rcases hz with rfl|rfl<;>omega
 generalize hq:k*z=q at hkz;rcases ho with rfl|rfl|rfl|rfl|rfl|rfl|rfl|rfl|rfl|rfl|rfl|rfl|rfl|rfl|rfl|rfl|rfl|rfl|rfl|rfl|rfl|rfl|rfl|rfl|rfl|rfl|rfl|rfl|rfl|rfl|rfl|rfl|rfl|rfl|rfl|rfl|rfl|rfl|rfl|rfl|rfl|rfl|rfl|rfl|rfl|rfl|rfl|rfl|rfl|rfl<;>simp [zCN,hq,validD,regB,uA,uB,uC,lowD,zAd,zAH]<;>omega
noncomputable def vA (n:Int):Int:=mixA n 1
noncomputable def opA (n:Int):Int:=opsL.getD (vA n % 50).toNat 0
noncomputable def kA (n:Int):Int:=(vA n).fdiv 1048576 % 24
noncomputable def zA (n:Int):Int:=(vA n).fdiv 1099511627776 % 2
noncomputable def zHW (n:Int):InstD:=zCN (opA n) ((vA n).fdiv 256 % 6) ((vA n).fdiv 4096 % 6) ((vA n).fdiv 65536 % 6) (kA n) (zA n)
theorem and1 (x:Int):IntKind.i64.wrap ((BitVec.ofInt 64 x &&& 1#64).toNat:Int)=x % 2:=by
 have e:(BitVec.ofInt 64 x &&& 1#64).toNat=(x % 2).toNat:=by
  rw [BitVec.toNat_and,BitVec.toNat_ofInt,show (1#64).toNat=2 ^ 1-1 from rfl,Nat.and_two_pow_sub_one_eq_mod]
  omega
 rw [e,zAA (by omega) (by omega)];omega
@[simp] theorem bi64:IntKind.i64.bits=64:=rfl
theorem zPb (n:Int):opA n∈opsL:=by
 unfold opA;have h1:=Int.emod_nonneg (vA n) (show (50:Int)≠0 by omega)
 have h2:=Int.emod_lt_of_pos (vA n) (show (0:Int)<50 by omega)
 have hl:opsL.length=50:=rfl;rw [zV1,zV3 (by omega),Option.getD_some]
 exact zWU _
theorem zGj (n:Int):validD (zHW n)=true :=
 zK1 _ _ _ _ _ _ (zPb n) (by omega) (by omega) (by omega) (by unfold kA;omega) (by unfold zA;omega)
theorem zK2 (n:Int):zAD prog 117 [.int .i64 n] (.st (zHW n).row):=by
 have hol:(ints .i64 opsL).length=50:=rfl;have hv1:=Int.emod_nonneg (vA n) (show (50:Int)≠0 by omega)
 have hv2:=Int.emod_lt_of_pos (vA n) (show (0:Int)<50 by omega)
 have hx1:(ints .i64 opsL)[(vA n % 50).toNat]? =some [.int .i64 (opA n)]:=by
  have hl:(vA n % 50).toNat<opsL.length:=by have:opsL.length=50:=rfl;omega
  rw [zUk .i64 opsL _ hl,opA,zV1,zV3 hl];rfl
 have hmix:zAD prog 30 [.int .i64 n,.int .i64 1] (.int .i64 (vA n)):=zTO n 1;have hmem:=zPb n;unfold zHW kA zA;generalize opA n=op at hx1 hmem ⊢;generalize vA n=v at hv1 hv2 hx1 hmix ⊢;refine sX func117 ntmps117 ?_;(repeat intro K hK);apply wr
 refine cX (zNe) ?_;(repeat intro K hK);apply wr
 refine cX (hmix) ?_;(repeat intro K hK);apply wr
 refine zB1 (α:=Unit) (fun _=>(⟨142,[(5,.ptr 1 5 0 0),(4,.int .i64 v),(2,.ptr 0 5 0 0)],2,[(0,some ⟨223,5,true,false,[[.int .i64 0,.int .i64 0,.int .i64 0,.int .i64 0,.int .i32 0]]⟩),(1,some ⟨223,5,true,false,[[.int .i64 op,.int .i64 (v.fdiv 256 % 6),.int .i64 (v.fdiv 4096 % 6),.int .i64 (v.fdiv 65536 % 6),.int .i32 0]]⟩)],0⟩:St)) (fun _=>True) hK (fun _ hxhJ=>?_) (fun hJ=>?_)
 all_goals clear hK
 ·have a1:=Int.emod_nonneg (v.fdiv 256) (show (6:Int)≠0 by omega)
  have a2:=Int.emod_lt_of_pos (v.fdiv 256) (show (0:Int)<6 by omega)
  refine au ?_;(repeat intro K hK);apply wr
  refine cc (zAn (v.fdiv 1048576) 24 (by omega) (by omega)) ?_
  have k1:=Int.emod_nonneg (v.fdiv 1048576) (show (24:Int)≠0 by omega)
  have k2:=Int.emod_lt_of_pos (v.fdiv 1048576) (show (0:Int)<24 by omega)
  generalize hga:v.fdiv 256 % 6=a at a1 a2 ⊢;generalize hgb:v.fdiv 4096 % 6=b;generalize hgc:v.fdiv 65536 % 6=c;generalize hgk:v.fdiv 1048576 % 24=k at k1 k2 ⊢;refine au ?_;(repeat intro K hK);apply wr
  refine zAC rfl (fun h1=>?_) (fun h1=>?_)
  ·simp at h1;have hI:∀ z,zCN op a b c k z=⟨op,a,b,c,0⟩:=fun z=>by unfold zCN;rw [if_pos h1]
   refine au ?_;(repeat intro K hK);apply wr
   refine zAB ?_;simp [hga,hgb,hgc,hgk,hI]
  simp at h1;refine au ?_;(repeat intro K hK);apply wr
  refine zAC rfl (fun h2=>?_) (fun h2=>?_)
  ·simp at h2;have w1:IntKind.i64.wrap (k-12)=k-12:=zAA (by omega) (by omega)
   have w2:IntKind.i32.wrap (k-12)=k-12:=by rw [IntKind.wrap_i32];omega
   refine au1 (kX2 @w1 @w2) ?_;(repeat intro K hK);apply wr
   refine zAC rfl (fun h3=>?_) (fun h3=>?_)
   ·simp at h3;have hI:∀ z,zCN op a b c k z=⟨op,a,0,0,k-12⟩:=fun z=>by unfold zCN;rw [if_neg (by omega),if_pos h2,if_pos h3]
    refine au ?_;(repeat intro K hK);apply wr
    refine zAB ?_;simp [hga,hgb,hgc,hgk,hI]
   simp at h3;have hI:∀ z,zCN op a b c k z=⟨op,a,b,0,k-12⟩:=fun z=>by unfold zCN;rw [if_neg (by omega),if_pos h2,if_neg h3]
   refine au ?_;(repeat intro K hK);apply wr
   refine zAB ?_;simp [hga,hgb,hgc,hgk,hI]
  simp at h2;refine au ?_;(repeat intro K hK);apply wr
  refine zAC rfl (fun h3=>?_) (fun h3=>?_)
  ·simp at h3;have w1:IntKind.i64.wrap (8*k)=8*k:=zAA (by omega) (by omega)
   have w2:IntKind.i64.wrap (8*k-32)=8*k-32:=zAA (by omega) (by omega)
   have w3:IntKind.i32.wrap (8*k-32)=8*k-32:=by rw [IntKind.wrap_i32];omega
   have hI:∀ z,zCN op a b c k z=⟨op,a,b,0,8*k-32⟩:=fun z=>by unfold zCN;rw [if_neg (by omega),if_neg (by omega),if_pos (by omega)]
   refine au1 (kX3 @w1 @w2 @w3) ?_;(repeat intro K hK);apply wr
   refine zAB ?_;simp [hga,hgb,hgc,hgk,hI]
  simp at h3;refine au ?_;(repeat intro K hK);apply wr
  refine zAC rfl (fun h4=>?_) (fun h4=>?_)
  ·simp at h4;have hI:∀ z,zCN op a b c k z=⟨op,a,0,0,k*z⟩:=fun z=>by unfold zCN;rw [if_neg (by omega),if_neg (by omega),if_neg (by omega),if_pos h4]
   refine au ?_;(repeat intro K hK);apply wr
   refine zAB ?_;simp [hga,hgb,hgc,hgk,hI];have hz:=and1 (v.fdiv 1099511627776);have hz1:=Int.emod_nonneg (v.fdiv 1099511627776) (show (2:Int)≠0 by omega)
   have hz2:=Int.emod_lt_of_pos (v.fdiv 1099511627776) (show (0:Int)<2 by omega)
   change IntKind.i32.wrap (IntKind.i64.wrap (k*IntKind.i64.wrap ((BitVec.ofInt 64 (v.fdiv 1099511627776) &&& 1#64).toNat:Int)))=_
   rw [hz];generalize v.fdiv 1099511627776 % 2=z at hz1 hz2 ⊢;have hc:z=0\/z=1:=by omega
   rcases hc with rfl|rfl
   ·rw [Int.mul_zero];decide
   rw [Int.mul_one,zAA (by omega) (by omega),IntKind.wrap_i32];omega
  simp at h4;refine au ?_;(repeat intro K hK);apply wr
  refine zAC rfl (fun h5=>?_) (fun h5=>?_)
  ·simp at h5;have w3:IntKind.i32.wrap k=k:=by rw [IntKind.wrap_i32];omega
   have hI:∀ z,zCN op a b c k z=⟨op,a,b,0,k⟩:=fun z=>by unfold zCN;rw [if_neg (by omega),if_neg (by omega),if_neg (by omega),if_neg (by omega),if_pos (by omega)]
   refine au1 @w3 ?_;(repeat intro K hK);apply wr
   refine zAB ?_;simp [hga,hgb,hgc,hgk,hI]
  simp at h5;refine au ?_;(repeat intro K hK);apply wr
  refine zAC rfl (fun h6=>?_) (fun h6=>?_)
  ·simp at h6;have w3:IntKind.i32.wrap (k.tmod 8)=k % 8:=by rw [Int.tmod_eq_emod_of_nonneg k1,IntKind.wrap_i32];omega
   have hI:∀ z,zCN op a b c k z=⟨op,a,0,0,k % 8⟩:=fun z=>by unfold zCN;rw [if_neg (by omega),if_neg (by omega),if_neg (by omega),if_neg (by omega),if_neg (by omega),if_pos (by omega)]
   refine au1 @w3 ?_;(repeat intro K hK);apply wr
   refine zAB ?_;simp [hga,hgb,hgc,hgk,hI]
  simp at h6;refine au ?_;(repeat intro K hK);apply wr
  refine zAC rfl (fun h7=>?_) (fun h7=>?_)
  ·simp at h7;have w3:IntKind.i32.wrap (k.tmod 12)=k % 12:=by rw [Int.tmod_eq_emod_of_nonneg k1,IntKind.wrap_i32];omega
   have hI:∀ z,zCN op a b c k z=⟨op,a,0,0,k % 12⟩:=fun z=>by unfold zCN;rw [if_neg (by omega),if_neg (by omega),if_neg (by omega),if_neg (by omega),if_neg (by omega),if_neg (by omega),if_pos (by omega)]
   refine au1 @w3 ?_;(repeat intro K hK);apply wr
   refine zAB ?_;simp [hga,hgb,hgc,hgk,hI]
  simp at h7;have hI:∀ z,zCN op a b c k z=⟨op,0,0,0,0⟩:=fun z=>by unfold zCN;rw [if_neg (by omega),if_neg (by omega),if_neg (by omega),if_neg (by omega),if_neg (by omega),if_neg (by omega),if_neg (by omega)]
  refine au ?_;(repeat intro K hK);apply wr
  refine zAB ?_;simp [hga,hgb,hgc,hgk,hI]
 refine zCJ (.node 4 17 (.node 9 17 (.node 12 17 (.node 15 17 (.leaf [0,1,2,3,4,5,6,7,8,9,10,11,12,13,14,15,16,17,18] (bN [0,0,0,4,14,31,63,0,128,414,0,1024,3998,0,8192,32670,65535,65438,262143]) [(18,([[],[],[],[2],[1,2,3],[0,1,2,3,4],[0,1,2,3,4,5],[],[7],[1,2,3,4,7,8],[],[10],[1,2,3,4,7,8,9,10,11],[],[13],[1,2,3,4,7,8,9,10,11,12,13,14],[0,1,2,3,4,5,6,7,8,9,10,11,12,13,14,15],[1,2,3,4,7,8,9,10,11,12,13,14,15]],[(5,9),(5,12),(5,15),(5,17),(6,9),(6,12),(6,15),(6,17)])),(1,([],[]))]) (.leaf [0,1,2,3,4,5,6,7,8,9,10,11,12,13,14,17,15,16,18] (bN [0,0,0,4,14,31,63,0,128,414,0,1024,3998,0,8192,8094,65438,131071,262143]) [(17,([[],[],[],[2],[1,2,3],[0,1,2,3,4],[0,1,2,3,4,5],[],[7],[1,2,3,4,7,8],[],[10],[1,2,3,4,7,8,9,10,11],[],[13],[1,2,3,4,7,8,9,10,11,12],[1,2,3,4,7,8,9,10,11,12,13,14,15]],[(5,9),(5,12),(5,15),(5,16),(6,9),(6,12),(6,15),(6,16)])),(1,([],[])),(1,([],[]))])) (.leaf [0,1,2,3,4,5,6,7,8,9,10,11,13,14,17,12,15,16,18] (bN [0,0,0,4,14,31,63,0,128,414,0,1024,0,4096,926,20382,65438,131071,262143]) [(17,([[],[],[],[2],[1,2,3],[0,1,2,3,4],[0,1,2,3,4,5],[],[7],[1,2,3,4,7,8],[],[10],[],[12],[1,2,3,4,7,8,9],[1,2,3,4,7,8,9,10,11,14],[1,2,3,4,7,8,9,10,11,12,13,14,15]],[(5,9),(5,14),(5,15),(5,16),(6,9),(6,14),(6,15),(6,16)])),(1,([],[])),(1,([],[]))])) (.leaf [0,1,2,3,4,5,6,7,8,10,11,13,14,17,9,12,15,16,18] (bN [0,0,0,4,14,31,63,0,128,0,512,0,2048,30,8606,26526,65438,131071,262143]) [(17,([[],[],[],[2],[1,2,3],[0,1,2,3,4],[0,1,2,3,4,5],[],[7],[],[9],[],[11],[1,2,3,4],[1,2,3,4,7,8,13],[1,2,3,4,7,8,9,10,13,14],[1,2,3,4,7,8,9,10,11,12,13,14,15]],[(5,13),(5,14),(5,15),(5,16),(6,13),(6,14),(6,15),(6,16)])),(1,([],[])),(1,([],[]))])) (.leaf [0,1,2,3,7,8,10,11,13,14,17,4,5,6,9,12,15,16,18] (bN [0,0,0,4,0,16,0,64,0,256,0,1038,3087,7183,3134,19710,53246,131071,262143]) [(17,([[],[],[],[2],[],[4],[],[6],[],[8],[],[1,2,3,10],[0,1,2,3,10,11],[0,1,2,3,10,11,12],[1,2,3,4,5,10,11],[1,2,3,4,5,6,7,10,11,14],[1,2,3,4,5,6,7,8,9,10,11,14,15]],[(3,10),(12,14),(12,15),(12,16),(13,14),(13,15),(13,16)])),(1,([],[])),(1,([],[]))])) (by kernel_rfl) (by kernel_rfl) ?_
 simp only [PT.run]
 repeat' (with_reducible apply And.intro)
 all_goals (simp only [zCO,zWP,List.map_nil,zWN,List.getD_cons_succ];refine af1 (kX2 @hol @hx1) ?_;(repeat intro K hK);apply wr)
 all_goals ((first|refine .inl ⟨0,_,zAn v 50 (by omega) (by omega),?_⟩|refine .inl ⟨0,_,zAD.wk (zAn v 50 (by omega) (by omega)) (by simp),?_⟩|refine ⟨0,_,zAn v 50 (by omega) (by omega),?_⟩|refine ⟨0,_,zAD.wk (zAn v 50 (by omega) (by omega)) (by simp),?_⟩);(simp [aftC,aftE]))
 all_goals ((refine af1 (kX2 @hol @hx1) ?_);(repeat intro K hK);(apply wr))
 all_goals ((first|refine .inl ⟨0,_,zAn (v.fdiv 256) 6 (by omega) (by omega),?_⟩|refine .inl ⟨0,_,zAD.wk (zAn (v.fdiv 256) 6 (by omega) (by omega)) (by simp),?_⟩|refine ⟨0,_,zAn (v.fdiv 256) 6 (by omega) (by omega),?_⟩|refine ⟨0,_,zAD.wk (zAn (v.fdiv 256) 6 (by omega) (by omega)) (by simp),?_⟩);(simp [aftC,aftE]))
 all_goals ((refine af ?_);(repeat intro K hK);(apply wr))
 all_goals ((first|refine .inl ⟨0,_,zAn (v.fdiv 4096) 6 (by omega) (by omega),?_⟩|refine .inl ⟨0,_,zAD.wk (zAn (v.fdiv 4096) 6 (by omega) (by omega)) (by simp),?_⟩|refine ⟨0,_,zAn (v.fdiv 4096) 6 (by omega) (by omega),?_⟩|refine ⟨0,_,zAD.wk (zAn (v.fdiv 4096) 6 (by omega) (by omega)) (by simp),?_⟩);(simp [aftC,aftE]))
 all_goals ((refine af ?_);(repeat intro K hK);(apply wr))
 all_goals ((first|refine .inl ⟨0,_,zAn (v.fdiv 65536) 6 (by omega) (by omega),?_⟩|refine .inl ⟨0,_,zAD.wk (zAn (v.fdiv 65536) 6 (by omega) (by omega)) (by simp),?_⟩|refine ⟨0,_,zAn (v.fdiv 65536) 6 (by omega) (by omega),?_⟩|refine ⟨0,_,zAD.wk (zAn (v.fdiv 65536) 6 (by omega) (by omega)) (by simp),?_⟩);(simp [aftC,aftE]))
 all_goals ((refine af1 (kX2 @hol @hx1) ?_);(repeat intro K hK);(apply wr))
 all_goals first
  | (refine hJ () _ (fun x=>if x=1 then 7 else 0) trivial ⟨rfl,?_,?_,?_,by simp⟩;(· simp [leT,ltV,lt1,ren,ren1]);(· simp [leO,lt1,ren1]);(· simp))
  | (refine hJ () _ (fun x=>if x=1 then 6 else 0) trivial ⟨rfl,?_,?_,?_,by simp⟩;(· simp [leT,ltV,lt1,ren,ren1]);(· simp [leO,lt1,ren1]);(· simp))
  | (refine hJ () _ (fun x=>if x=1 then 5 else 0) trivial ⟨rfl,?_,?_,?_,by simp⟩;(· simp [leT,ltV,lt1,ren,ren1]);(· simp [leO,lt1,ren1]);(· simp))
  | (refine hJ () _ (fun x=>if x=1 then 4 else 0) trivial ⟨rfl,?_,?_,?_,by simp⟩;(· simp [leT,ltV,lt1,ren,ren1]);(· simp [leO,lt1,ren1]);(· simp))
  | (refine hJ () _ (fun x=>if x=1 then 3 else 0) trivial ⟨rfl,?_,?_,?_,by simp⟩;(· simp [leT,ltV,lt1,ren,ren1]);(· simp [leO,lt1,ren1]);(· simp))
end Go.Proofs.YthjpcmecgjfilaaGreat
end
section
namespace Go.Proofs.YthjpcmecgjfilaaGreat.As
open Go.Ab Go.RowKit Tryz
def zPR:List (List UInt8):=[[],[97,100,100],[115,117,98],[97,110,100],[111,114],[120,111,114],[115,104,108],[115,104,114],[115,97,114],[109,117,108],[100,105,118],[114,101,109],[115,108,116],[115,108,116,117],[],[],[97,100,100,105],[97,110,100,105],[111,114,105],[120,111,114,105],[115,104,108,105],[115,104,114,105],[115,97,114,105],[115,108,116,105],[108,117,105],[],[],[],[],[],[],[],[108,119],[108,98],[108,98,117],[115,119],[115,98],[],[],[],[98,101,113],[98,110,101],[98,108,116],[98,103,101],[98,108,116,117],[98,103,101,117],[],[],[106,97,108],[106,97,108,114],[],[],[],[],[],[],[101,99,97,108,108],[101,114,101,116],[99,115,114,114],[99,115,114,119],[105,110],[111,117,116],[119,102,105],[102,108,117,115,104],[104,97,108,116]]
def mnS (op:Int):List UInt8:=zPR.getD op.toNat []
theorem zPS:zPR.length=65:=rfl
def regS (r:Int):List UInt8:=[114]++Lib.itoa r
def zEp:List Str:=[[114,48],[114,49],[114,50],[114,51],[114,52],[114,53],[114,54],[114,55],[114,56],[114,57],[114,49,48],[114,49,49],[114,49,50],[114,49,51],[114,49,52],[114,49,53]]
theorem zRm (i:Nat):Lib.itoa (i:Int)=Lib.decDigits i:=Lib.itoa_nonneg i
theorem zFQ:∀ i<16,regS (i:Nat)=zEp.getD i []:=by
 intro i hi
 unfold regS;rw [zRm];by_cases h:i<10
 ·rw [Lib.decDigits_one h];have:i=0\/i=1\/i=2\/i=3\/i=4\/i=5\/i=6\/i=7\/i=8\/i=9:=by omega
  rcases this with rfl|rfl|rfl|rfl|rfl|rfl|rfl|rfl|rfl|rfl<;>rfl
 rw [Lib.decDigits_two h (by omega)]
 have:i=10\/i=11\/i=12\/i=13\/i=14\/i=15:=by omega
 rcases this with rfl|rfl|rfl|rfl|rfl|rfl<;>rfl
def zIX (s:Str):List Str->Nat->Option Nat
 | [],_=>none
 | x::r,i=>if s=x then some i else zIX s r (i+1)
def regN (s:Str):Option Nat:=zIX s zEp 0
theorem zH0 (s:Str):∀ (l:List Str) (k i:Nat),i<l.length->s=l.getD i []->(∀ j,j<i->s≠l.getD j [])->zIX s l k=some (k+i)
 | x::r,k,0,_,h,_=>by simp only [zWN] at h;simp [zIX,h]
 | x::r,k,i+1,hl,h,hno=>by
  have h0:=hno 0 (by omega)
  simp only [zWN] at h0;simp only [zIX,h0,if_false];rw [zH0 s r (k+1) i (by simpa using hl) (by simpa using h) (fun j hj=>by simpa using hno (j+1) (by omega))]
  congr 1;omega
 | [],_,_,hl,_,_=>by simp at hl
theorem zHz (s:Str):∀ (l:List Str) (k:Nat),(∀ j,j<l.length->s≠l.getD j [])->zIX s l k=none
 | [],_,_=>rfl
 | x::r,k,hno=>by
  have h0:=hno 0 (by simp)
  simp only [zWN] at h0;simp only [zIX,h0,if_false];exact zHz s r (k+1) fun j hj=>by simpa using hno (j+1) (by simpa using hj)
abbrev regV (s:Str):V:=.tup [.int .i64 ((regN s).getD 0:Nat),.bool (regN s).isSome]
theorem reg_at (s:Str) (i:Nat) (hi:i<16) (h:s=114::Lib.itoa i) (hno:∀ k,k<i->s≠regS (k:Nat)):regN s=some i:=by
 have:=zH0 s zEp 0 i hi (by rw [<- zFQ i hi];exact h) (fun j hj=>by rw [<- zFQ j (by omega)];exact hno j hj)
 simpa [regN] using this
theorem reg_no (s:Str) (hno:∀ k,k<16->s≠regS (k:Nat)):regN s=none :=
 zHz s zEp 0 fun j hj=>by rw [<- zFQ j hj];exact hno j hj
def dig (base:Nat) (c:UInt8):Option Nat :=
 if 48<=c.toNat/\c.toNat<=57 then some (c.toNat-48) else if base=16/\97<=c.toNat/\c.toNat<=102 then some (c.toNat-87) else none
def digs (base:Nat):Str->Nat->Option Nat
 | [],x=>some x
 | c::r,x=>match dig base c with
  | some d=>digs base r (x*base+d)
  | none=>none
theorem zGW {base:Nat} {s:Str} {i x:Nat} (hi:i<s.length):digs base (s.drop i) x=match dig base (s.getD i 0) with|some d=>digs base (s.drop (i+1)) (x*base+d)|none=>none:=by
 rw [zWZ hi,zV1,zV3 hi];rfl
theorem dig_lt {base:Nat} {c:UInt8} {d:Nat} (h:dig base c=some d) (hb:base=10\/base=16):d<base:=by
 unfold dig at h;split at h
 ·simp only [zV2] at h;omega
 split at h
 ·simp only [zV2] at h;omega
 cases h
theorem zOV {base:Nat} (hb:base=10\/base=16):∀ (s:Str) (x y:Nat),digs base s x=some y->y<(x+1)*base ^ s.length
 | [],x,y,h=>by simp only [digs,zV2] at h;subst h;simp
 | c::s,x,y,h=>by
  simp only [digs] at h;split at h
  ·rename_i d hd;have h1:=zOV hb s _ y h;have h2:=dig_lt hd hb;have h3:(x*base+d+1)<=(x+1)*base:=by rw [zWY];omega
   calc y<(x*base+d+1)*base ^ s.length:=h1
    _<=(x+1)*base*base ^ s.length:=zWO _ h3
    _=(x+1)*base ^ (c::s).length:=by rw [zWG,Nat.pow_succ,Nat.mul_assoc,Nat.mul_comm base]
  cases h
def zC0 (l:List (Str × Int)):List (List V):=l.map fun p=>[.str p.1,.int .u32 p.2]
theorem zKR (l:List (Str × Int)) (s:Str) (n:Int):zC0 l++[[.str s,.int .u32 n]]=zC0 (l++[(s,n)]):=by simp [zC0]
theorem zKQ (l:List (Str × Int)):(zC0 l).length=l.length:=by simp [zC0]
def zEM (s:Str):List (Str × Int)->Option Int
 | []=>none
 | x::r=>if x.1=s then some x.2 else zEM s r
def zAj:Str->List Str
 | []=>[[]]
 | c::s=>if c=10 then []::zAj s else match zAj s with
  | []=>[]
  | h::t=>(c::h)::t
def zId (p:Str):List Str->List Str
 | []=>[]
 | h::t=>(p++h)::t
theorem zD4 (s:Str):∃ h t,zAj s=h::t:=by
 induction s with
 | nil=>exact ⟨_,_,rfl⟩
 | cons c s ih =>
  obtain ⟨h,t,e⟩:=ih;simp only [zAj,e];split<;>exact ⟨_,_,rfl⟩
theorem zJ0 (l:List Str):zId [] l=l:=by cases l<;>rfl
theorem zNR (p:Str) (c:UInt8) (s:Str) (hc:c≠10):zId p (zAj (c::s))=zId (p++[c]) (zAj s):=by
 obtain ⟨h,t,e⟩:=zD4 s;simp [zAj,e,hc,zId]
theorem zPI (p:Str) (s:Str):zId p (zAj (10::s))=p::zAj s:=by
 simp [zAj,zId]
theorem zPL (s:Str):(zAj s).length<=s.length+1:=by
 induction s with
 | nil=>simp [zAj]
 | cons c s ih =>
  obtain ⟨h,t,e⟩:=zD4 s;simp only [zAj,e];rw [e] at ih;split<;>(simp at ih ⊢;omega)
theorem zPM (s:Str):∀ l∈zAj s,l.length<=s.length/\∀ c∈l,c∈s:=by
 induction s with
 | nil=>simp [zAj]
 | cons c s ih =>
  obtain ⟨h,t,e⟩:=zD4 s;simp only [zAj,e];rw [e] at ih;intro l hl;split at hl
  ·rcases List.mem_cons.1 hl with rfl|hl
   ·simp
   obtain ⟨h1,h2⟩:=ih l hl;exact ⟨by simp;omega,fun x hx=>zV4 _ (h2 x hx)⟩
  rcases List.mem_cons.1 hl with rfl|hl
  ·obtain ⟨h1,h2⟩:=ih h (zV8 ..);refine ⟨by simp;omega,fun x hx=>?_⟩
   rcases List.mem_cons.1 hx with rfl|hx
   ·exact zV8 ..
   exact zV4 _ (h2 x hx)
  obtain ⟨h1,h2⟩:=ih l (zV4 _ hl);exact ⟨by simp;omega,fun x hx=>zV4 _ (h2 x hx)⟩
theorem zHf {s:Str} {f i:Nat} (hf:f<=i) (hi:i<s.length):(s.take (i+1)).drop f=(s.take i).drop f++[s.getD i 0]:=by
 rw [List.take_add_one,List.drop_append,zV1,zV3 hi,zWE,show f-min i s.length=0 by omega]
 rfl
def befD (s:Str) (c:UInt8):Str:=s.takeWhile fun b=>!(b==c)
theorem zLy {s:Str}:∀ {l:List Str} {k q:Nat},zIX s l k=some q->q<k+l.length
 | x::r,k,q,h=>by
  simp only [zIX] at h;split at h
  ·simp only [zV2] at h;subst h;simp
  have:=zLy h;simp only [zWG];omega
theorem zVH {s:Str} {q:Nat} (h:regN s=some q):q<16:=by
 have:=zLy h;simpa [zEp] using this
theorem zJq {s:Str}:∀ {l:List (Str × Int)} {a:Int},zEM s l=some a->∃ x∈l,x.2=a
 | x::r,a,h=>by
  simp only [zEM] at h;split at h
  ·simp only [zV2] at h;exact ⟨x,zV8 ..,h⟩
  obtain ⟨y,hy,e⟩:=zJq h;exact ⟨y,zV4 _ hy,e⟩
abbrev errV (e:Int × Int):V:=.st [.int .i64 e.1,.int .i64 e.2]
theorem zDH (op:Int):0<=zAH op/\zAH op<=9:=by
 unfold zAH
 (repeat' split)<;>omega
theorem zPT:∀ (k u:Nat),u<10 ^ (k+1)->Lib.nDigits u<=k+1
 | 0,u,h=>by rw [Lib.nDigits_small (by simpa using h)];exact zV9 _
 | k+1,u,h=>by
  by_cases hu:u<10
  ·rw [Lib.nDigits_small hu];omega
  rw [Lib.nDigits_big hu];have:=zPT k (u / 10) (by rw [Nat.pow_succ] at h;omega)
  omega
theorem zOT (n:Int) (h0:0<=n) (h1:n<18446744073709551616):(Lib.decDigits n.toNat).length<=20:=by
 rw [Lib.decDigits_length];exact zPT 19 n.toNat (by omega)
theorem zJf:∀ (k:Nat) (n:Int) (_:0<=n) (_:n<18446744073709551616) (_:n.toNat<=k),zAD prog 343 [.int .u64 n] (.str (Lib.decDigits n.toNat)):=by
 intro k
 induction k using Nat.strongRecOn with
 | _ k ih =>
  intro n h0 h1 hk
  refine sX func343 ntmps343 ?_;intros;apply wr;refine zAC rfl (fun h=>?_) (fun h=>?_)
  ·simp at h;obtain ⟨d,hd,hb⟩:∃ d:UInt8,d=UInt8.ofNat (48+n.toNat)/\IntKind.u8.wrap (IntKind.u64.wrap (48+n))=(d.toNat:Int):=⟨_,rfl,by
    rw [UInt8.toNat_ofNat',IntKind.wrap_u64,IntKind.wrap_u8];omega⟩
   have hB:zB0 [V.int .u8 (d.toNat:Int)]:=⟨d,rfl⟩;have he:Lib.decDigits n.toNat=[d]:=by rw [Lib.decDigits_one (by omega),hd]
   refine au1 @hb ?_;intros;apply wr;refine zAB ?_;simp [he]
  simp at h;obtain ⟨d,hd,hb⟩:∃ d:UInt8,d=UInt8.ofNat (48+n.toNat % 10)/\IntKind.u8.wrap (IntKind.u64.wrap (48+n.tmod 10))=(d.toNat:Int):=⟨_,rfl,by
   rw [UInt8.toNat_ofNat',IntKind.wrap_u64,IntKind.wrap_u8,Int.tmod_eq_emod_of_nonneg h0];omega⟩
  have hB:zB0 [V.int .u8 (d.toNat:Int)]:=⟨d,rfl⟩;have hq:IntKind.u64.wrap (n.tdiv 10)=n / 10:=by rw [Int.tdiv_eq_ediv_of_nonneg h0,IntKind.wrap_u64];omega
  have hr:=ih (n / 10).toNat (by omega) (n / 10) (by omega) (by omega) (zV9 _)
  have hl:=zOT (n / 10) (by omega) (by omega)
  have he:Lib.decDigits n.toNat=Lib.decDigits (n / 10).toNat++[d]:=by
   rw [Lib.decDigits,dif_neg (by omega)]
   rw [show n.toNat / 10=(n / 10).toNat by omega,hd]
  refine au ?_;intros;apply wr;refine zCJ (.node 2 7 (.leaf [0,1,2,3,4,5,6,7,8,9,10] (bN [0,1,3,0,8,24,56,127,255,511,1023]) [(7,([[],[0],[0,1],[],[3],[3,4],[3,4,5]],[(6,2)])),(1,([],[])),(1,([],[])),(1,([],[])),(1,([],[]))]) (.leaf [0,1,3,4,5,6,7,2,8,9,10] (bN [0,1,0,4,12,28,60,127,124,511,1023]) [(9,([[],[0],[],[2],[2,3],[2,3,4],[2,3,4,5],[0,1,2,3,4,5,6],[2,3,4,5,6]],[(8,7)])),(1,([],[])),(1,([],[]))])) (by kernel_rfl) (by kernel_rfl) ?_
  simp only [PT.run]
  repeat' (with_reducible apply And.intro)
  all_goals (simp only [zCO,zWP,List.map_nil,zWN,List.getD_cons_succ];refine af1 (kX2 @hb @hq) ?_;intros;apply wr)
  all_goals ((first|refine .inl ⟨0,_,hr,?_⟩|refine .inl ⟨0,_,zAD.wk (hr) (by simp),?_⟩|refine ⟨0,_,hr,?_⟩|refine ⟨0,_,zAD.wk (hr) (by simp),?_⟩);(simp [aftC,aftE]))
  all_goals ((refine af1 (kX2 @hb @hl) ?_);intros;(apply wr))
  all_goals ((refine zAB ?_);(simp [he]))
theorem zNG (n:Int) (h0:-9223372036854775808<=n) (h1:n<=9223372036854775807):zAD prog 334 [.int .i64 n] (.str (Lib.itoa n)):=by
 refine sX func334 ntmps334 ?_;intros;apply wr;refine zAC rfl (fun h=>?_) (fun h=>?_)
 ·simp at h;have e1:IntKind.i64.wrap (n+1)=n+1:=zAA (by omega) (by omega)
  have e2:IntKind.i64.wrap (-(n+1))=-(n+1):=zAA (by omega) (by omega)
  have e3:IntKind.u64.wrap (-(n+1))=-(n+1):=by rw [IntKind.wrap_u64];omega
  have e4:IntKind.u64.wrap (-(n+1)+1)=-n:=by rw [IntKind.wrap_u64];omega
  have hl:=zOT (-n) (by omega) (by omega)
  have he:Lib.itoa n=45::Lib.decDigits (-n).toNat:=by
   unfold Lib.itoa;rw [if_pos h,show n.natAbs=(-n).toNat by omega]
  have hd:=zJf (-n).toNat (-n) (by omega) (by omega) (zV9 _)
  rw [<- e4,<- e3,<- e2,<- e1] at hd;refine au ?_;intros;apply wr;refine cY (hd) (kX5 @hl @e1 @e2 @e3 @e4) ?_;intros;apply wr;refine zAB ?_;simp [he,e1,e2,e3,e4]
 simp at h;have e1:IntKind.u64.wrap n=n:=by rw [IntKind.wrap_u64];omega
 have he:Lib.itoa n=Lib.decDigits n.toNat:=by
  unfold Lib.itoa;rw [if_neg (by omega)]
 have hd:=zJf n.toNat n (by omega) (by omega) (zV9 _)
 refine au1 @e1 ?_;intros;apply wr;refine cc1 (hd) @e1 ?_;refine au ?_;intros;apply wr;refine zAB ?_;simp [he]
theorem zEg (lo hi:Int) (l:List (List UInt8)) (hl:(l.length:Int)=hi-lo+1) (h0:0<=lo) (hm:∀ k,k<l.length->zPR.getD (lo.toNat+k) []=l.getD k []) (op:Int) (h1:lo<=op) (h2:op<=hi) :
  (l.map fun s=>[V.str s])[(op-lo).toNat]? =some [.str (mnS op)]:=by
 have hk:(op-lo).toNat<l.length:=by omega
 rw [zWD,zV3 hk,Option.map_some];have:=hm _ hk;rw [zV1 (l:=l),zV3 hk,Option.getD_some,show lo.toNat+(op-lo).toNat=op.toNat by omega] at this
 unfold mnS;rw [this]
set_option maxHeartbeats 16000000 in
theorem zGs (op:Int):zAD prog 265 [.int .i64 op] (.str (mnS op)):=by
 refine sX func265 ntmps265 ?_;intros;apply wr;refine zAC rfl (fun h1=>?_) (fun h1=>?_)
 ·simp at h1;have hw:IntKind.i64.wrap (op-1)=op-1:=zAA (by omega) (by omega)
  have hx:=zEg 1 13 [[97,100,100],[115,117,98],[97,110,100],[111,114],[120,111,114],[115,104,108],[115,104,114],[115,97,114],[109,117,108],[100,105,118],[114,101,109],[115,108,116],[115,108,116,117]] (by decide) (by decide) (by decide) op h1.1 h1.2
  simp at hx;refine au1 (kX2 @hw @hx) ?_;intros;apply wr;refine zAB ?_;simp
 simp at h1;refine au ?_;intros;apply wr;refine zAC rfl (fun h2=>?_) (fun h2=>?_)
 ·simp at h2;have hw:IntKind.i64.wrap (op-16)=op-16:=zAA (by omega) (by omega)
  have hx:=zEg 16 24 [[97,100,100,105],[97,110,100,105],[111,114,105],[120,111,114,105],[115,104,108,105],[115,104,114,105],[115,97,114,105],[115,108,116,105],[108,117,105]] (by decide) (by decide) (by decide) op h2.1 h2.2
  simp at hx;refine au1 (kX2 @hw @hx) ?_;intros;apply wr;refine zAB ?_;simp
 simp at h2;refine au ?_;intros;apply wr;refine zAC rfl (fun h3=>?_) (fun h3=>?_)
 ·simp at h3;have hw:IntKind.i64.wrap (op-32)=op-32:=zAA (by omega) (by omega)
  have hx:=zEg 32 36 [[108,119],[108,98],[108,98,117],[115,119],[115,98]] (by decide) (by decide) (by decide) op h3.1 h3.2
  simp at hx;refine au1 (kX2 @hw @hx) ?_;intros;apply wr;refine zAB ?_;simp
 simp at h3;refine au ?_;intros;apply wr;refine zAC rfl (fun h4=>?_) (fun h4=>?_)
 ·simp at h4;have hw:IntKind.i64.wrap (op-40)=op-40:=zAA (by omega) (by omega)
  have hx:=zEg 40 45 [[98,101,113],[98,110,101],[98,108,116],[98,103,101],[98,108,116,117],[98,103,101,117]] (by decide) (by decide) (by decide) op h4.1 h4.2
  simp at hx;refine au1 (kX2 @hw @hx) ?_;intros;apply wr;refine zAB ?_;simp
 simp at h4;refine au ?_;intros;apply wr;refine zAC rfl (fun h5=>?_) (fun h5=>?_)
 ·simp at h5;subst h5;refine au ?_;intros;apply wr;refine zAB ?_;simp [mnS,zPR]
 simp at h5;refine au ?_;intros;apply wr;refine zAC rfl (fun h6=>?_) (fun h6=>?_)
 ·simp at h6;subst h6;refine au ?_;intros;apply wr;refine zAB ?_;simp [mnS,zPR]
 simp at h6;refine au ?_;intros;apply wr;refine zAC rfl (fun h7=>?_) (fun h7=>?_)
 ·simp at h7;have hw:IntKind.i64.wrap (op-56)=op-56:=zAA (by omega) (by omega)
  have hx:=zEg 56 64 [[101,99,97,108,108],[101,114,101,116],[99,115,114,114],[99,115,114,119],[105,110],[111,117,116],[119,102,105],[102,108,117,115,104],[104,97,108,116]] (by decide) (by decide) (by decide) op h7.1 h7.2
  simp at hx;refine au1 (kX2 @hw @hx) ?_;intros;apply wr;refine zAB ?_;simp
 simp at h7;refine au ?_;intros;apply wr;have hn:mnS op=[]:=by
  by_cases hneg:op<0
  ·have:op.toNat=0:=by omega
   unfold mnS;rw [this];rfl
  by_cases hbig:65<=op
  ·unfold mnS;rw [zV1,List.getElem?_eq_none (by rw [zPS];omega)];rfl
  have hc:op=0\/op=14\/op=15\/op=25\/op=26\/op=27\/op=28\/op=29\/op=30\/op=31\/op=37\/op=38\/op=39\/op=46\/op=47\/op=50\/op=51\/op=52\/op=53\/op=54\/op=55:=by omega
  rcases hc with rfl|rfl|rfl|rfl|rfl|rfl|rfl|rfl|rfl|rfl|rfl|rfl|rfl|rfl|rfl|rfl|rfl|rfl|rfl|rfl|rfl<;>rfl
 refine zAB ?_;simp [hn]
theorem reg_ok (r:Int) (h0:-9223372036854775808<=r) (h1:r<=9223372036854775807):zAD prog 318 [.int .i64 r] (.str (regS r)):=by
 have hw:IntKind.i64.wrap r=r:=zAA h0 h1;have hl:=Lib.itoa_length_le r h0 h1;refine sX func318 ntmps318 ?_;intros;apply wr;refine cY (zNG r h0 h1) @hl ?_;intros;apply wr;refine zAB ?_;simp [regS]
def letB (c:UInt8):Bool:=decide (97<=c.toNat)&&decide (c.toNat<=122)
def digB (c:UInt8):Bool:=decide (48<=c.toNat)&&decide (c.toNat<=57)
theorem zCk (c:UInt8):zAD prog 261 [.int .u8 c.toNat] (.bool (letB c)):=by
 refine sX func261 ntmps261 ?_;intros;apply wr;refine zAB ?_;simp [letB]
 try (rw [Bool.eq_iff_iff];simp;try omega)
theorem digit_ok (c:UInt8):zAD prog 262 [.int .u8 c.toNat] (.bool (digB c)):=by
 refine sX func262 ntmps262 ?_;intros;apply wr;refine zAB ?_;simp [digB]
 try (rw [Bool.eq_iff_iff];simp;try omega)
set_option maxHeartbeats 4000000 in
theorem zMb (s:Str):zAD prog 263 [.str s] (regV s):=by
 refine sX func263 ntmps263 ?_;intros;apply wr;obtain ⟨I,hI⟩:∃ I:Nat->St->Prop,I=(fun kk ss=>∃ (i:Nat) ,i<=16/\kk=16-i/\((∀ k,k<i->s≠regS (k:Nat)))/\ss=⟨14,[(4,.int .i64 i),(0,.str s)],0,[],0⟩):=⟨_,rfl⟩
 refine lX I (id) (by rw [hI];exact ⟨0,by simp,rfl,(by intro k hk;omega),rfl⟩) ?_
 intro kk ss hIk _
 rw [hI] at hIk;obtain ⟨i,hi,rfl,hx,rfl⟩:=hIk;have hw:IntKind.i64.wrap ((i:Int)+1)=((i+1:Nat):Int):=by rw [zAA (by omega) (by omega)];omega
 refine au ?_;intros;apply wr;refine zAC rfl (fun h=>?_) (fun h=>?_)
 ·simp at h;refine au ?_;intros;apply wr;refine cX (reg_ok (i:Int) (by omega) (by omega)) ?_;intros;apply wr
  refine zAC rfl (fun h2=>?_) (fun h2=>?_)
  ·simp at h2;refine au ?_;intros;apply wr;refine zAB ?_;simp [reg_at s i (by omega) h2 hx]
  simp at h2;have hx2:∀ k,k<i+1->s≠regS (k:Nat):=fun k hk=>by
   by_cases e:k=i
   ·subst e;exact h2
   exact hx k (by omega)
  refine au ?_;intros;apply wr;exact aX (id) (by rw [hI];exact ⟨i+1,by omega,rfl,hx2,rfl⟩) (kX2 (zAA (n:=(i:Int)+1) (by omega) (by omega)) @hw)
 simp at h;have hi:i=16:=by omega
 subst hi;refine au ?_;intros;apply wr;refine zAB ?_;simp [reg_no s hx]
def zNY (s:Str):Bool:=decide (1<=s.length)&&decide (s.length<=12)&&letB (s.getD 0 0)&&(regN s).isNone
set_option maxHeartbeats 4000000 in
theorem zFL (s:Str):zAD prog 205 [.str s] (.bool (zNY s)):=by
 refine sX func205 ntmps205 ?_;intros;apply wr;refine cX (zMb s) ?_;intros;apply wr
 first|refine zA9 (zCk (s.getD 0 0)) rfl (fun hgd=>?_) (by simp [obsL]) ?_|refine zAq (zCk (s.getD 0 0)) rfl (by simp) (fun hgd=>?_) (by simp [obsL]) ?_
 all_goals simp
 all_goals (try (first|exact hgd|(simp at hgd;first|done|assumption|grind)))
 refine au ?_;intros;apply wr;have e1:decide ((1:Int)<=(s.length:Int))=decide (1<=s.length):=decide_eq_decide.2 (by omega)
 have e2:decide ((s.length:Int)<=12)=decide (s.length<=12):=decide_eq_decide.2 (by omega)
 refine zAB ?_;simp [zNY,e1,e2]
def opF (s:Str):Nat->Nat->Nat
 | 0,_=>0
 | k+1,op=>if zAH (op:Nat)≠0/\mnS (op:Nat)=s then op else opF s k (op+1)
def opD (s:Str):Nat:=opF s 64 1
set_option maxHeartbeats 4000000 in
theorem zFm (s:Str):zAD prog 208 [.str s] (.int .i64 (opD s)):=by
 refine sX func208 ntmps208 ?_;intros;apply wr;obtain ⟨I,hI⟩:∃ I:Nat->St->Prop,I=(fun kk ss=>∃ (i:Nat) ,i<=64/\kk=64-i/\(opD s=opF s (64-i) (i+1))/\ss=⟨18,[(3,.int .i64 (i+1:Nat)),(0,.str s)],0,[],0⟩):=⟨_,rfl⟩
 refine lX I (id) (by rw [hI];exact ⟨0,by simp,rfl,rfl,rfl⟩) ?_
 intro kk ss hIk _
 rw [hI] at hIk;obtain ⟨i,hi,rfl,hx,rfl⟩:=hIk;have hw:IntKind.i64.wrap ((i:Int)+1+1)=(i:Int)+1+1:=zAA (by omega) (by omega)
 refine au ?_;intros;apply wr;refine zAC rfl (fun h=>?_) (fun h=>?_)
 ·simp at h;have hst:opF s (64-i) (i+1)=if zAH ((i+1:Nat):Int)≠0/\mnS ((i+1:Nat):Int)=s then i+1 else opF s (64-(i+1)) (i+1+1):=by
   rw [show 64-i=(64-(i+1))+1 by omega];rfl
  rw [hst] at hx;have hc:((i+1:Nat):Int)=(i:Int)+1:=by omega
  rw [hc] at hx;have hfr:=zDH ((i:Int)+1);refine au ?_;intros;apply wr;refine cX (zGf ((i:Int)+1)) ?_;intros;apply wr
  first|refine zA9 (zGs ((i:Int)+1)) rfl (fun hgd=>?_) (by simp [obsL]) ?_|refine zAq (zGs ((i:Int)+1)) rfl (by simp) (fun hgd=>?_) (by simp [obsL]) ?_
  all_goals simp
  all_goals (try (first|exact hgd|(simp at hgd;first|done|assumption|grind)))
  refine au ?_;intros;apply wr;refine zAC rfl (fun h2=>?_) (fun h2=>?_)
  ·have hq:zAH ((i:Int)+1)≠0/\mnS ((i:Int)+1)=s:=by
    simp at h2;exact ⟨by omega,h2.2⟩
   rw [if_pos hq] at hx;refine au ?_;intros;apply wr;refine zAB ?_;simp [hx]
  have hq:¬ (zAH ((i:Int)+1)≠0/\mnS ((i:Int)+1)=s):=by
   intro hq
   simp at h2;exact h2 (by omega) hq.2
  rw [if_neg hq] at hx;refine au1 @hw ?_;intros;apply wr;exact aX (id) (by rw [hI];exact ⟨i+1,by omega,rfl,hx,rfl⟩) (kX2 (zAA (n:=(i:Int)+1) (by omega) (by omega)) @hw)
 simp at h;have hi:i=64:=by omega
 subst hi;refine au ?_;intros;apply wr;refine zAB ?_;simp [hx,opF]
def patR (s:Str):Option Str :=
 if s=[46,119,111,114,100] then some [120]
 else if s=[46,115,112,97,99,101] then some [110]
 else if s=[108,105] then some [114,44,120]
 else if s=[109,118] then some [114,44,114]
 else if s=[110,111,112] then some []
 else if opD s=0 then none
 else if 32<=opD s/\opD s<=36 then some [114,44,110,40,114,41]
 else if 40<=opD s/\opD s<=45 then some [114,44,114,44,120]
 else if opD s=48 then some [114,44,120]
 else if zAH (opD s:Nat)=1 then some []
 else if zAH (opD s:Nat)=2 then some [114,44,114,44,114]
 else if 6<=zAH (opD s:Nat) then some [114,44,110]
 else some [114,44,114,44,110]
abbrev patRV (s:Str):V:=.tup [.str ((patR s).getD []),.bool (patR s).isSome]
set_option maxHeartbeats 16000000 in
theorem zNf (s:Str):zAD prog 206 [.str s] (patRV s):=by
 refine sX func206 ntmps206 ?_;intros;apply wr;refine cX (zFm s) ?_;intros;apply wr;by_cases h1:s=[46,119,111,114,100]
 ·refine gT10 @h1 rfl ?_;intros;apply wr;refine zAB ?_;simp [patR,h1]
 refine gF10 @h1 rfl ?_;intros;apply wr;by_cases h2:s=[46,115,112,97,99,101]
 ·refine gT10 @h2 rfl ?_;intros;apply wr;refine zAB ?_;simp [patR,h1,h2]
 refine gF10 @h2 rfl ?_;intros;apply wr;by_cases h3:s=[108,105]
 ·refine gT10 @h3 rfl ?_;intros;apply wr;refine zAB ?_;simp [patR,h1,h2,h3]
 refine gF10 @h3 rfl ?_;intros;apply wr;by_cases h4:s=[109,118]
 ·refine gT10 @h4 rfl ?_;intros;apply wr;refine zAB ?_;simp [patR,h1,h2,h3,h4]
 refine gF10 @h4 rfl ?_;intros;apply wr;by_cases h5:s=[110,111,112]
 ·refine gT10 @h5 rfl ?_;intros;apply wr;refine zAB ?_;simp [patR,h1,h2,h3,h4,h5]
 refine gF10 @h5 rfl ?_;intros;apply wr;by_cases h6:opD s=0
 ·refine gT10 @h6 rfl ?_;intros;apply wr;refine zAB ?_;simp [patR,h1,h2,h3,h4,h5,h6]
 refine gF10 @h6 rfl ?_;intros;apply wr;generalize hop:opD s=op at h6 ⊢;by_cases h7:32<=op/\op<=36
 ·have q1:(32:Int)<=(op:Int):=by omega
  have q2:(op:Int)<=36:=by omega
  refine gT10 (kX2 @q1 @q2) rfl ?_;intros;apply wr;refine zAB ?_;simp [patR,h1,h2,h3,h4,h5,h6,hop,h7]
 have q7:¬ ((32:Int)<=(op:Int)/\(op:Int)<=36):=by omega
 refine zAC rfl (fun h=>by simp at h;exact absurd h q7) (fun _=>?_)
 refine au ?_;intros;apply wr;by_cases h8:40<=op/\op<=45
 ·have q1:(40:Int)<=(op:Int):=by omega
  have q2:(op:Int)<=45:=by omega
  refine gT10 (kX2 @q1 @q2) rfl ?_;intros;apply wr;refine zAB ?_;simp [patR,h1,h2,h3,h4,h5,h6,hop,h7,h8]
 have q8:¬ ((40:Int)<=(op:Int)/\(op:Int)<=45):=by omega
 refine zAC rfl (fun h=>by simp at h;exact absurd h q8) (fun _=>?_)
 refine au ?_;intros;apply wr;by_cases h9:op=48
 ·have q1:(op:Int)=48:=by omega
  refine gT10 @q1 rfl ?_;intros;apply wr;refine zAB ?_;simp [patR,h1,h2,h3,h4,h5,h6,hop,h7,h8,h9]
 have q9:¬ ((op:Int)=48):=by omega
 refine gF10 @q9 rfl ?_;intros;apply wr;refine cX (zGf (op:Int)) ?_;intros;apply wr;by_cases h10:zAH (op:Int)=1
 ·refine gT10 @h10 rfl ?_;intros;apply wr;refine zAB ?_;simp [patR,h1,h2,h3,h4,h5,h6,hop,h7,h8,h9,h10]
 refine gF10 @h10 rfl ?_;intros;apply wr;by_cases h11:zAH (op:Int)=2
 ·refine gT10 @h11 rfl ?_;intros;apply wr;refine zAB ?_;simp [patR,h1,h2,h3,h4,h5,h6,hop,h7,h8,h9,h10,h11]
 refine gF10 @h11 rfl ?_;intros;apply wr;by_cases h12:6<=zAH (op:Int)
 ·refine gT10 @h12 rfl ?_;intros;apply wr;refine zAB ?_;simp [patR,h1,h2,h3,h4,h5,h6,hop,h7,h8,h9,h10,h11,h12]
 refine gF10 @h12 rfl ?_;intros;apply wr;refine zAB ?_;simp [patR,h1,h2,h3,h4,h5,h6,hop,h7,h8,h9,h10,h11,h12]
theorem zSi (l:List (Str × Int)) (i:Nat) (h:i<l.length):(zC0 l)[i]? =some [.str l[i].1,.int .u32 l[i].2]:=by simp [zC0,h]
theorem zE7 (l:List (Str × Int)) (s:Str) (hl:l.length<=1000000):zAD prog 114 [.sl 2 false (zC0 l),.str s] (.tup [.int .u32 ((zEM s l).getD 0),.bool (zEM s l).isSome]):=by
 have hll:=zKQ l;refine sX func114 ntmps114 ?_;intros;apply wr;obtain ⟨I,hI⟩:∃ I:Nat->St->Prop,I=(fun kk ss=>∃ (i:Nat) ,i<=l.length/\kk=l.length-i/\(zEM s l=zEM s (l.drop i))/\ss=⟨25,[(6,.int .i64 i),(0,.sl 2 false (zC0 l)),(1,.str s)],0,[],0⟩):=⟨_,rfl⟩
 refine lX I (id) (by rw [hI];exact ⟨0,by simp,rfl,rfl,rfl⟩) ?_
 intro kk ss hIk _
 rw [hI] at hIk;obtain ⟨i,hi,rfl,hx,rfl⟩:=hIk;have hw:IntKind.i64.wrap ((i:Int)+1)=((i+1:Nat):Int):=by rw [zAA (by omega) (by omega)];omega
 refine au1 @hll ?_;intros;apply wr;by_cases hi':i<l.length
 ·obtain ⟨z,hz⟩:∃ z,z=l[i]:=⟨_,rfl⟩;have hget:(zC0 l)[i]? =some [.str z.1,.int .u32 z.2]:=by rw [hz];exact zSi _ i hi'
  have hdr:l.drop i=z::l.drop (i+1):=by rw [zWZ hi',hz]
  rw [hdr,zEM] at hx;refine gT11 @hi' rfl (kX2 @hget @hll) ?_;intros;apply wr;by_cases he:z.1=s
  ·rw [if_pos he] at hx;refine gT11 @he rfl (kX2 @hget @hll) ?_;intros;apply wr;refine zAB ?_;simp [hx]
  rw [if_neg he] at hx;refine gF10 @he rfl ?_;intros;apply wr;exact aX (id) (by rw [hI];exact ⟨i+1,by omega,rfl,hx,rfl⟩) (kX2 (zAA (n:=(i:Int)+1) (by omega) (by omega)) @hw)
 have:i=l.length:=by omega
 subst this;rw [List.drop_length] at hx;refine gF00 rfl ?_;intros;apply wr;refine zAB ?_;simp [hx,zEM]
def numX (s:Str):Int × Bool :=
 if 2<s.length/\s.getD 0 0=48/\s.getD 1 0=120 then
  (if 10<s.length then (0,false) else match digs 16 (s.drop 2) 0 with
   | some n=>((n:Int),true)
   | none=>(0,false))
 else if s.length-(if s.getD 0 0=45 then 1 else 0)<1\/10<s.length-(if s.getD 0 0=45 then 1 else 0) then (0,false)
 else match digs 10 (s.drop (if s.getD 0 0=45 then 1 else 0)) 0 with
  | none=>(0,false)
  | some n=>if s.getD 0 0=45 then (-(n:Int),decide (-2147483648<=-(n:Int))&&decide (-(n:Int)<=4294967295)) else ((n:Int),decide (-2147483648<=(n:Int))&&decide ((n:Int)<=4294967295))
abbrev numXV (s:Str):V:=.tup [.int .i64 (numX s).1,.bool (numX s).2]
theorem u8_of {c:UInt8} {k:Nat} (h:c.toNat=k):c=UInt8.ofNat k:=by
 rw [<- h];simp
set_option maxHeartbeats 32000000 in
theorem zJ5 (s:Str) (hsl:s.length<=1000000):zAD prog 264 [.str s] (numXV s):=by
 refine sX func264 ntmps264 ?_;intros;apply wr;refine zAC rfl (fun hc=>?_) (fun hc=>?_)
 ·have h:2<s.length/\s.getD 0 0=48/\s.getD 1 0=120:=by
   simp at hc;rw [zV1,zV1];refine ⟨by omega,?_,?_⟩<;>(apply UInt8.toNat_inj.1;simp;omega)
  clear hc;refine au ?_;intros;apply wr;refine zAC rfl (fun h10=>?_) (fun h10=>?_)
  ·simp at h10;have hn:numX s=(0,false):=by unfold numX;rw [if_pos h,if_pos (by omega)]
   refine au ?_;intros;apply wr;refine zAB ?_;simp [hn]
  simp at h10;have hl10:¬ 10<s.length:=by omega
  refine au ?_;intros;apply wr;obtain ⟨I,hI⟩:∃ I:Nat->St->Prop,I=(fun kk ss=>∃ (i:Nat) (x:Nat),i<=(s.length-2)/\kk=(s.length-2)-i/\(digs 16 (s.drop 2) 0=digs 16 (s.drop (i+2)) x/\x<16 ^ i)/\ss=⟨116,[(5,.int .i64 ((i:Int)+2)),(4,.int .i64 x),(0,.str s)],0,[],0⟩):=⟨_,rfl⟩
  refine lX I (id) (by rw [hI];exact ⟨0,0,by simp,rfl,⟨rfl,by simp⟩,rfl⟩) ?_
  intro kk ss hIk _
  rw [hI] at hIk;obtain ⟨i,x,hi,rfl,hx,rfl⟩:=hIk;have hw:IntKind.i64.wrap ((i:Int)+2+1)=(i:Int)+1+2:=by rw [zAA (by omega) (by omega)];omega
  refine au ?_;intros;apply wr;refine zAC rfl (fun hi'=>?_) (fun hi'=>?_)
  ·simp at hi';have hpw:16 ^ i*16<=16 ^ 10:=by rw [<- Nat.pow_succ];exact Nat.pow_le_pow_right (by omega) (by omega)
   have hpc:16 ^ 10<=1099511627776:=by decide
   obtain ⟨hx1,hx2⟩:=hx;have hstep:=zGW (base:=16) (s:=s) (i:=i+2) (x:=x) (by omega)
   rw [<- hx1] at hstep;rw [zV1] at hstep;generalize hcd:s[i+2]?.getD 0=c at hstep;have hcu:(c.toNat:Int)<=255:=by have:=c.toNat_lt;omega
   have htn:((i:Int)+2).toNat=i+2:=by omega
   have hcp:i+2<s.length:=by omega
   refine au1 (kX2 @htn @hcd) ?_;intros;apply wr;refine cX (digit_ok c) ?_;intros;apply wr;cases hdg:digB c with
   | true =>
    have hdr:48<=c.toNat/\c.toNat<=57:=by simpa [digB] using hdg
    have hd:dig 16 c=some (c.toNat-48):=by unfold dig;rw [if_pos hdr]
    rw [hd] at hstep;have w1:IntKind.i64.wrap (IntKind.u8.wrap ((c.toNat:Int)-48))=((c.toNat-48:Nat):Int):=by rw [IntKind.wrap_u8,zAA (by omega) (by omega)];omega
    generalize hdd:c.toNat-48=d at hstep w1;have hd9:d<=9:=by omega
    have hxn:IntKind.i64.wrap (IntKind.i64.wrap (16*(x:Int))+(d:Int))=((x*16+d:Nat):Int):=by
     rw [zAA (n:=16*(x:Int)) (by omega) (by omega),zAA (by omega) (by omega)];omega
    refine gT01 rfl (kX5 @htn @hcd @w1 @hxn @hw) ?_;intros;apply wr;exact aX (id) (by rw [hI];exact ⟨i+1,(x*16+d),by omega,rfl,⟨by rw [show i+1+2=i+2+1 by omega];exact hstep,by rw [Nat.pow_succ];omega⟩,rfl⟩) (kX3 (zAA (n:=(i:Int)+1) (by omega) (by omega)) @hw @hxn)
   | false =>
    refine gF01 rfl (kX2 @htn @hcd) ?_;intros;apply wr;refine zAC rfl (fun hl=>?_) (fun hl=>?_)
    ·have hdr:97<=c.toNat/\c.toNat<=102:=by simp at hl;omega
     have hd:dig 16 c=some (c.toNat-87):=by unfold dig;rw [if_neg (by omega),if_pos ⟨rfl,hdr⟩]
     rw [hd] at hstep;have w1:IntKind.i64.wrap (IntKind.u8.wrap ((c.toNat:Int)-97))=((c.toNat-97:Nat):Int):=by rw [IntKind.wrap_u8,zAA (by omega) (by omega)];omega
     have hdd:c.toNat-87=c.toNat-97+10:=by omega
     rw [hdd] at hstep;generalize hde:c.toNat-97=d at hstep w1;have hd9:d<=5:=by omega
     have hxn:IntKind.i64.wrap (IntKind.i64.wrap (IntKind.i64.wrap (16*(x:Int))+(d:Int))+10)=((x*16+(d+10):Nat):Int):=by
      rw [zAA (n:=16*(x:Int)) (by omega) (by omega),zAA (n:=16*(x:Int)+d) (by omega) (by omega),zAA (by omega) (by omega)];omega
     refine au1 (kX5 @htn @hcd @w1 @hxn @hw) ?_;intros;apply wr;exact aX (id) (by rw [hI];exact ⟨i+1,(x*16+(d+10)),by omega,rfl,⟨by rw [show i+1+2=i+2+1 by omega];exact hstep,by rw [Nat.pow_succ];omega⟩,rfl⟩) (kX3 (zAA (n:=(i:Int)+1) (by omega) (by omega)) @hw @hxn)
    have hdr:¬ (97<=c.toNat/\c.toNat<=102):=by
     intro q
     simp at hl;omega
    have hdr2:¬ (48<=c.toNat/\c.toNat<=57):=by
     intro q
     simp [digB,q] at hdg
    have hd:dig 16 c=none:=by unfold dig;rw [if_neg hdr2,if_neg (fun q=>hdr q.2)]
    rw [hd] at hstep;have hn:numX s=(0,false):=by unfold numX;rw [if_pos h,if_neg hl10,hstep]
    refine au ?_;intros;apply wr;refine zAB ?_;simp [hn]
  simp at hi';have hie:i=s.length-2:=by omega
  obtain ⟨hx1,_⟩:=hx;rw [hie,show s.length-2+2=s.length by omega,List.drop_length] at hx1
  have hn:numX s=((x:Int),true):=by unfold numX;rw [if_pos h,if_neg hl10,hx1];rfl
  refine au ?_;intros;apply wr;refine zAB ?_;simp [hn]
 have h:¬ (2<s.length/\s.getD 0 0=48/\s.getD 1 0=120):=by
  rintro ⟨q1,q2,q3⟩
  rw [zV1] at q2 q3;have q1':(2:Int)<(s.length:Int):=by omega
  simp [q1',q2,q3] at hc
 clear hc;refine au ?_;intros;apply wr;by_cases hm:s.getD 0 0=45
 ·have hl0:0<s.length:=by
   rcases Nat.eq_zero_or_pos s.length with q|q
   ·have:s=[]:=zWB q;subst this;simp at hm
   exact q
  have hm':=hm;rw [zV1] at hm';have hb:(((s[0]?.getD 0).toNat:Nat):Int)=45:=by rw [hm'];rfl
  refine zAC rfl (fun _=>?_) (fun q=>by exfalso;simp [hb] at q;rw [q] at hl0;simp at hl0)
  refine au1 @hm' ?_;intros;apply wr;have hsub:IntKind.i64.wrap ((s.length:Int)-1)=(s.length:Int)-1:=zAA (by omega) (by omega)
  refine au1 @hsub ?_;intros;apply wr;by_cases hlen:s.length-1<1\/10<s.length-1
  ·have hn:numX s=(0,false):=by unfold numX;rw [if_neg h,if_pos hm,if_pos hlen]
   refine zAC rfl (fun _=>?_) (fun q=>by simp [hsub] at q;omega)
   refine au ?_;intros;apply wr;refine zAB ?_;simp [hn]
  refine zAC rfl (fun q=>by simp [hsub] at q;omega) (fun _=>?_)
  refine au ?_;intros;apply wr;obtain ⟨I,hI⟩:∃ I:Nat->St->Prop,I=(fun kk ss=>∃ (i:Nat) (x:Nat),i<=(s.length-1)/\kk=(s.length-1)-i/\(digs 10 (s.drop 1) 0=digs 10 (s.drop (i+1)) x/\x<10 ^ i)/\ss=⟨116,[(8,.int .i64 (((i:Int)+1))),(7,.int .i64 x),(6,.int .i64 1),(0,.str s)],0,[],0⟩):=⟨_,rfl⟩
  refine lX I (id) (by rw [hI];exact ⟨0,0,by simp,rfl,⟨by simp,by simp⟩,rfl⟩) ?_
  intro kk ss hIk _
  rw [hI] at hIk;obtain ⟨i,x,hi,rfl,hx,rfl⟩:=hIk;have hw:IntKind.i64.wrap (((i:Int)+1)+1)=(i:Int)+1+1:=zAA (by omega) (by omega)
  refine au ?_;intros;apply wr;refine zAC rfl (fun hi'=>?_) (fun hi'=>?_)
  ·simp at hi';have hpw:10 ^ i*10<=10 ^ 10:=by rw [<- Nat.pow_succ];exact Nat.pow_le_pow_right (by omega) (by omega)
   have hpc:10 ^ 10<=1099511627776:=by decide
   obtain ⟨hx1,hx2⟩:=hx;have hstep:=zGW (base:=10) (s:=s) (i:=i+1) (x:=x) (by omega)
   rw [<- hx1] at hstep;rw [zV1] at hstep;generalize hcd:s[i+1]?.getD 0=c at hstep;have hcu:(c.toNat:Int)<=255:=by have:=c.toNat_lt;omega
   have htn:((i:Int)+1).toNat=i+1:=by omega
   have hcp:i+1<s.length:=by omega
   refine au1 (kX2 @htn @hcd) ?_;intros;apply wr;refine cX (digit_ok c) ?_;intros;apply wr;cases hdg:digB c with
   | true =>
    have hdr:48<=c.toNat/\c.toNat<=57:=by simpa [digB] using hdg
    have hd:dig 10 c=some (c.toNat-48):=by unfold dig;rw [if_pos hdr]
    rw [hd] at hstep;have w1:IntKind.i64.wrap (IntKind.u8.wrap ((c.toNat:Int)-48))=((c.toNat-48:Nat):Int):=by rw [IntKind.wrap_u8,zAA (by omega) (by omega)];omega
    generalize hdd:c.toNat-48=d at hstep w1;have hd9:d<=9:=by omega
    have hxn:IntKind.i64.wrap (IntKind.i64.wrap (10*(x:Int))+(d:Int))=((x*10+d:Nat):Int):=by
     rw [zAA (n:=10*(x:Int)) (by omega) (by omega),zAA (by omega) (by omega)];omega
    refine gF01 rfl (kX5 @htn @hcd @w1 @hxn @hw) ?_;intros;apply wr;exact aX (id) (by rw [hI];exact ⟨i+1,(x*10+d),by omega,rfl,⟨by exact hstep,by rw [Nat.pow_succ];omega⟩,rfl⟩) (kX3 (zAA (n:=(i:Int)+1) (by omega) (by omega)) @hw @hxn)
   | false =>
    have hdr2:¬ (48<=c.toNat/\c.toNat<=57):=by
     intro q
     simp [digB,q] at hdg
    have hd:dig 10 c=none:=by unfold dig;rw [if_neg hdr2,if_neg (fun q=>by omega)]
    rw [hd] at hstep;have hn:numX s=(0,false):=by unfold numX;rw [if_neg h,if_pos hm,if_neg hlen,hstep]
    refine gT00 rfl ?_;intros;apply wr;refine zAB ?_;simp [hn]
  simp at hi';have hie:i=s.length-1:=by omega
  obtain ⟨hx1,hx2⟩:=hx;rw [show i+1=s.length by omega,List.drop_length] at hx1
  have hp10:10 ^ i<=10 ^ 10:=Nat.pow_le_pow_right (by omega) (by omega)
  have hpc:(10:Nat) ^ 10=10000000000:=by decide
  simp only [digs] at hx1;refine au ?_;intros;apply wr;have hng:IntKind.i64.wrap (-(x:Int))=-(x:Int):=zAA (by omega) (by omega)
  have hn:numX s=(-(x:Int),decide (-2147483648<=-(x:Int))&&decide (-(x:Int)<=4294967295)):=by unfold numX;rw [if_neg h,if_pos hm,if_neg hlen,hx1];simp only [if_pos hm]
  refine gT01 rfl @hng ?_;intros;apply wr;refine zAB ?_;simp [hn]
  try (rw [Bool.eq_iff_iff];simp;try omega)
 have hm':=hm;rw [zV1] at hm';refine zAC rfl (fun q=>?_) (fun _=>?_)
 ·exfalso
  simp at q;exact hm' (UInt8.toNat_inj.1 (by simp;omega))
 refine au1 @hm' ?_;intros;apply wr;have hsub:IntKind.i64.wrap ((s.length:Int))=(s.length:Int):=zAA (by omega) (by omega)
 refine au1 @hsub ?_;intros;apply wr;by_cases hlen:s.length-0<1\/10<s.length-0
 ·have hn:numX s=(0,false):=by unfold numX;rw [if_neg h,if_neg hm,if_pos hlen]
  refine zAC rfl (fun _=>?_) (fun q=>by simp [hsub] at q;omega)
  refine au ?_;intros;apply wr;refine zAB ?_;simp [hn]
 refine zAC rfl (fun q=>by simp [hsub] at q;omega) (fun _=>?_)
 refine au ?_;intros;apply wr;obtain ⟨I,hI⟩:∃ I:Nat->St->Prop,I=(fun kk ss=>∃ (i:Nat) (x:Nat),i<=(s.length-0)/\kk=(s.length-0)-i/\(digs 10 (s.drop 0) 0=digs 10 (s.drop (i)) x/\x<10 ^ i)/\ss=⟨116,[(8,.int .i64 ((i:Int))),(7,.int .i64 x),(6,.int .i64 0),(0,.str s)],0,[],0⟩):=⟨_,rfl⟩
 refine lX I (id) (by rw [hI];exact ⟨0,0,by simp,rfl,⟨by simp,by simp⟩,rfl⟩) ?_
 intro kk ss hIk _
 rw [hI] at hIk;obtain ⟨i,x,hi,rfl,hx,rfl⟩:=hIk;have hw:IntKind.i64.wrap ((i:Int)+1)=(i:Int)+1:=zAA (by omega) (by omega)
 refine au ?_;intros;apply wr;refine zAC rfl (fun hi'=>?_) (fun hi'=>?_)
 ·simp at hi';have hpw:10 ^ i*10<=10 ^ 10:=by rw [<- Nat.pow_succ];exact Nat.pow_le_pow_right (by omega) (by omega)
  have hpc:10 ^ 10<=1099511627776:=by decide
  obtain ⟨hx1,hx2⟩:=hx;have hstep:=zGW (base:=10) (s:=s) (i:=i) (x:=x) (by omega)
  rw [<- hx1] at hstep;rw [zV1] at hstep;generalize hcd:s[i]?.getD 0=c at hstep;have hcu:(c.toNat:Int)<=255:=by have:=c.toNat_lt;omega
  have htn:((i:Int)+0).toNat=i:=by omega
  have hcp:i<s.length:=by omega
  refine au1 (kX2 @htn @hcd) ?_;intros;apply wr;refine cX (digit_ok c) ?_;intros;apply wr;cases hdg:digB c with
  | true =>
   have hdr:48<=c.toNat/\c.toNat<=57:=by simpa [digB] using hdg
   have hd:dig 10 c=some (c.toNat-48):=by unfold dig;rw [if_pos hdr]
   rw [hd] at hstep;have w1:IntKind.i64.wrap (IntKind.u8.wrap ((c.toNat:Int)-48))=((c.toNat-48:Nat):Int):=by rw [IntKind.wrap_u8,zAA (by omega) (by omega)];omega
   generalize hdd:c.toNat-48=d at hstep w1;have hd9:d<=9:=by omega
   have hxn:IntKind.i64.wrap (IntKind.i64.wrap (10*(x:Int))+(d:Int))=((x*10+d:Nat):Int):=by
    rw [zAA (n:=10*(x:Int)) (by omega) (by omega),zAA (by omega) (by omega)];omega
   refine gF01 rfl (kX5 @htn @hcd @w1 @hxn @hw) ?_;intros;apply wr;exact aX (id) (by rw [hI];exact ⟨i+1,(x*10+d),by omega,rfl,⟨by exact hstep,by rw [Nat.pow_succ];omega⟩,rfl⟩) (kX3 (zAA (n:=(i:Int)+1) (by omega) (by omega)) @hw @hxn)
  | false =>
   have hdr2:¬ (48<=c.toNat/\c.toNat<=57):=by
    intro q
    simp [digB,q] at hdg
   have hd:dig 10 c=none:=by unfold dig;rw [if_neg hdr2,if_neg (fun q=>by omega)]
   rw [hd] at hstep;have hn:numX s=(0,false):=by unfold numX;rw [if_neg h,if_neg hm,if_neg hlen,hstep]
   refine gT00 rfl ?_;intros;apply wr;refine zAB ?_;simp [hn]
 simp at hi';have hie:i=s.length-0:=by omega
 obtain ⟨hx1,hx2⟩:=hx;rw [show i=s.length by omega,List.drop_length] at hx1
 have hp10:10 ^ i<=10 ^ 10:=Nat.pow_le_pow_right (by omega) (by omega)
 have hpc:(10:Nat) ^ 10=10000000000:=by decide
 simp only [digs] at hx1;refine au ?_;intros;apply wr;have hn:numX s=((x:Int),decide (-2147483648<=(x:Int))&&decide ((x:Int)<=4294967295)):=by unfold numX;rw [if_neg h,if_neg hm,if_neg hlen,hx1];simp only [if_neg hm]
 refine gF00 rfl ?_;intros;apply wr;refine zAB ?_;simp [hn]
 try (rw [Bool.eq_iff_iff];simp;try omega)
def zC2 (s:Str):List Str:=(zAj s).dropLast++(if (zAj s).getLast?.getD []=[] then [] else [(zAj s).getLast?.getD []])
theorem zPK {s:Str} {xs:List Str} {y:Str} (h:xs++[y]=zAj s):zC2 s=xs++(if y=[] then [] else [y]):=by
 unfold zC2;rw [<- h];simp
set_option maxHeartbeats 16000000 in
theorem zIf (s:Str) (hl:s.length<=1000000):zAD prog 159 [.str s] (.new 9 1 (strs (zC2 s))):=by
 refine sX func159 ntmps159 ?_;intros;apply wr;refine zAT 3 9 1 (by decide) rfl ?_
 obtain ⟨I,hI⟩:∃ I:Nat->St->Prop,I=(fun kk ss=>∃ (i:Nat) (f:Nat) (xs:List Str),i<=s.length/\kk=s.length-i/\(f<=i/\xs++zId ((s.take i).drop f) (zAj (s.drop i))=zAj s/\xs.length<=i)/\ss=⟨36,[(5,.int .i64 i),(4,.int .i64 f),(3,.own 0),(0,.str s)],1,[(0,some ⟨9,1,false,false,strs xs⟩)],0⟩):=⟨_,rfl⟩
 refine lX I (id) (by rw [hI];exact ⟨0,0,[],by simp,rfl,⟨zV9 _,by simp [zJ0],zV9 _⟩,rfl⟩) ?_
 intro kk ss hIk _
 rw [hI] at hIk;obtain ⟨i,f,xs,hi,rfl,hx,rfl⟩:=hIk;obtain ⟨hf,hxs,hxl⟩:=hx;have hsl:=zBR xs;have hmx:(strs xs).length+1<=maxLen:=by rw [zBR];simp [maxLen];omega
 have hw:IntKind.i64.wrap ((i:Int)+1)=((i+1:Nat):Int):=by rw [zAA (by omega) (by omega)];omega
 have hm16:(xs.length+1)*16<=140737488355328:=by omega
 refine au ?_;intros;apply wr;by_cases hi':i<s.length
 ·obtain ⟨c,hc⟩:∃ c,c=s.getD i 0:=⟨_,rfl⟩;have hcc:s[i]?.getD 0=c:=by rw [hc,zV1]
  have hdr:s.drop i=c::s.drop (i+1):=by rw [zWZ hi',hc,zV1,zV3 hi'];rfl
  rw [hdr] at hxs;refine gT11 @hi' rfl @hcc ?_;intros;apply wr;by_cases h10:c=10
  ·subst h10;rw [zPI] at hxs;have hxa:(xs++[(s.take i).drop f])++zId ((s.take (i+1)).drop (i+1)) (zAj (s.drop (i+1)))=zAj s:=by
    have e0:(s.take (i+1)).drop (i+1)=[]:=List.drop_eq_nil_of_le (by simp;omega)
    rw [e0,zJ0,zWH];exact hxs
   have hone:=zMn xs ((s.take i).drop f);refine gT01 rfl (kX5 @hw @hsl @hmx @hm16 @hone) ?_;intros;apply wr;exact aX (fun x=>if x=0 then 2 else x) (by rw [hI];exact ⟨i+1,(i+1),(xs++[(s.take i).drop f]),by omega,rfl,⟨zV9 _,hxa,by simp;omega⟩,rfl⟩) (kX2 (zAA (n:=(i:Int)+1) (by omega) (by omega)) @hw)
  have hne:¬ ((c.toNat:Int)=10):=by
   intro e
   apply h10;have:c.toNat=(10:UInt8).toNat:=by simp;omega
   exact UInt8.toNat_inj.1 this
  rw [zNR _ _ _ h10,hc,<- zHf hf hi'] at hxs;refine gF10 @hne rfl ?_;intros;apply wr;exact aX (id) (by rw [hI];exact ⟨i+1,f,xs,by omega,rfl,⟨by omega,hxs,by omega⟩,rfl⟩) (kX2 (zAA (n:=(i:Int)+1) (by omega) (by omega)) @hw)
 have hil:i=s.length:=by omega
 subst hil;rw [List.drop_length,List.take_length] at hxs;simp only [zAj,zId,zWT] at hxs;have hr:=zPK hxs;have hone:=zMn xs (s.drop f);by_cases hfl:f<s.length
 ·have hne:¬ s.drop f=[]:=by
   intro e
   have:=congrArg List.length e;simp at this;omega
  rw [if_neg hne] at hr;refine gF00 rfl ?_;intros;apply wr;refine gT11 @hfl rfl (kX4 @hsl @hmx @hm16 @hone) ?_;intros;apply wr;refine zAB ?_;simp [hr]
 have he:s.drop f=[]:=List.drop_eq_nil_of_le (by omega)
 rw [if_pos he] at hr;refine gF00 rfl ?_;intros;apply wr;refine gF10 @hfl rfl ?_;intros;apply wr;refine zAB ?_;simp [hr]
end Go.Proofs.YthjpcmecgjfilaaGreat.As
end
