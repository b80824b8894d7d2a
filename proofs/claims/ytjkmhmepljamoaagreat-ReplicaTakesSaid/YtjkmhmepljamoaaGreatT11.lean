/- A part of the proof of ReplicaTakes. -/
import Derived.Test.YtjkmhmepljamoaaGreatT07
import Derived.Test.YtjkmhmepljamoaaGreatT10
import Derived.Lib.AppendIntMem
import Derived.Lib.ItoaLen
set_option linter.all false
set_option maxHeartbeats 16000000
set_option maxRecDepth 100000
section
namespace Go.Proofs.YtjkmhmepljamoaaGreat
open Go.Ab Tryz
theorem Az(n k:Int)(h0:0<k)(h1:k<=9223372036854775807):AC prog 8 [.int .i64 n,.int .i64 k] (.int .i64 (n%k)):=by
 have e3:=Int.emod_lt_of_pos n h0;have e4:=Int.emod_nonneg n (show k≠0 by omega);have e1:0<=n.tmod k->n.tmod k=n%k:=fun h=>by rw[Int.tmod_eq_emod]at h ⊢;split<;>split at h<;>omega
 have e2:n.tmod k<0->n.tmod k+k=n%k:=fun h=>by rw[Int.tmod_eq_emod]at h ⊢;split<;>split at h<;>omega
 refine sX func8 ntmps8 ?_;intros;apply wr;refine AB rfl (fun h=>?_) (fun h=>?_)
 ·simp at h;refine au ?_;intros;apply wr;refine ar ?_;simp;rw[AA (by omega) (by omega),e2 h]
 simp at h;refine au ?_;intros;apply wr;refine ar ?_;simp;exact e1 h
def Rs:List Int:=[1,2,3,4,5,6,7,8,9,10,11,12,13,16,16,17,18,19,20,21,22,23,24,24,32,32,33,34,35,35,36,40,41,42,43,44,45,48,49,56,57,58,59,60,60,61,61,62,63,64]
theorem RE:AC prog 167 [] (.new 3 1 (ints .i64 Rs)):=by
 refine sX func167 ntmps167 ?_;refine ar ?_;simp[Rs,ints]
def D9(op a b c k z:Int):InstD :=
 if op<=13 then⟨op,a,b,c,0⟩
 else if 40<=op/\op<=48 then⟨op,a,if op=48 then 0 else b,0,k-12⟩
 else if op=16\/op=23\/(32<=op/\op<=36)\/op=49 then⟨op,a,b,0,8*k-32⟩
 else if op=24 then⟨op,a,0,0,k*z⟩
 else if 17<=op/\op<=22 then⟨op,a,b,0,k⟩
 else if op=58\/op=59 then⟨op,a,0,0,k%8⟩
 else if op=60\/op=61 then⟨op,a,0,0,k%12⟩
 else⟨op,0,0,0,0⟩
theorem Nu(op a b c k z:Int)(ho:op∈Rs)(ha:0<=a/\a<6)(hb:0<=b/\b<6)(hc:0<=c/\c<6)(hk:0<=k/\k<24)(hz:z=0\/z=1):validD (D9 op a b c k z)=true:=by
 simp only[Rs,List.mem_cons,List.not_mem_nil,or_false]at ho;have hkz:0<=k*z/\k*z<24:=by rcases hz with rfl|rfl<;>omega
 generalize hq:k*z=q at hkz;rcases ho with rfl|rfl|rfl|rfl|rfl|rfl|rfl|rfl|rfl|rfl|rfl|rfl|rfl|rfl|rfl|rfl|rfl|rfl|rfl|rfl|rfl|rfl|rfl|rfl|rfl|rfl|rfl|rfl|rfl|rfl|rfl|rfl|rfl|rfl|rfl|rfl|rfl|rfl|rfl|rfl|rfl|rfl|rfl|rfl|rfl|rfl|rfl|rfl|rfl|rfl<;>simp[D9,hq,validD,RR,uA,uB,uC,Bz,Ak,AI]<;>omega
noncomputable def vA(n:Int):Int:=mixA n 1
noncomputable def opA(n:Int):Int:=Rs.getD (vA n%50).toNat 0
noncomputable def kA(n:Int):Int:=(vA n).fdiv 1048576%24
noncomputable def zA(n:Int):Int:=(vA n).fdiv 1099511627776%2
noncomputable def Jb(n:Int):InstD:=D9 (opA n) ((vA n).fdiv 256%6) ((vA n).fdiv 4096%6) ((vA n).fdiv 65536%6) (kA n) (zA n)
theorem and1(x:Int):IntKind.i64.wrap ((BitVec.ofInt 64 x &&& 1#64).toNat:Int)=x%2:=by
 have e:(BitVec.ofInt 64 x &&& 1#64).toNat=(x%2).toNat:=by
  rw[BitVec.toNat_and,BitVec.toNat_ofInt,show(1#64).toNat=2^1-1 from rfl,Nat.and_two_pow_sub_one_eq_mod];omega
 rw[e,AA (by omega) (by omega)];omega
@[simp] theorem bi64:IntKind.i64.bits=64:=rfl
theorem Tq(n:Int):opA n∈Rs:=by
 unfold opA;have h1:=Int.emod_nonneg (vA n) (show(50:Int)≠0 by omega);have h2:=Int.emod_lt_of_pos (vA n) (show(0:Int)<50 by omega);have hl:Rs.length=50:=rfl;rw[eP,eR (by omega),Option.getD_some];exact List.getElem_mem _
theorem Im(n:Int):validD (Jb n)=true :=
 Nu _ _ _ _ _ _ (Tq n) (by omega) (by omega) (by omega) (by unfold kA;omega) (by unfold zA;omega)
theorem Nv(n:Int):AC prog 100 [.int .i64 n] (.st (Jb n).row):=by
 have hol:(ints .i64 Rs).length=50:=rfl;have hv1:=Int.emod_nonneg (vA n) (show(50:Int)≠0 by omega);have hv2:=Int.emod_lt_of_pos (vA n) (show(0:Int)<50 by omega);have hx1:(ints .i64 Rs)[(vA n%50).toNat]? =some [.int .i64 (opA n)]:=by
  have hl:(vA n%50).toNat<Rs.length:=by have:Rs.length=50:=rfl;omega
  rw[aY .i64 Rs _ hl,opA,eP,eR hl];rfl
 have hmix:AC prog 110 [.int .i64 n,.int .i64 1] (.int .i64 (vA n)):=Yl n 1;have hmem:=Tq n;unfold Jb kA zA;generalize opA n=op at hx1 hmem ⊢;generalize vA n=v at hv1 hv2 hx1 hmix ⊢;refine sX func100 ntmps100 ?_;refine cX (RE) ?_;refine cX (hmix) ?_;(repeat intro K hK);apply wr;refine CH (α:=Unit) (fun _=>(⟨142,[(5,.ptr 1 5 0 0),(4,.int .i64 v),(2,.ptr 0 5 0 0)],2,[(0,some ⟨198,5,true,false,[[.int .i64 0,.int .i64 0,.int .i64 0,.int .i64 0,.int .i32 0]]⟩),(1,some ⟨198,5,true,false,[[.int .i64 op,.int .i64 (v.fdiv 256%6),.int .i64 (v.fdiv 4096%6),.int .i64 (v.fdiv 65536%6),.int .i32 0]]⟩)],0⟩:St)) (fun _=>True) hK (fun _ hxhJ=>?_) (fun hJ=>?_);all_goals clear hK
 ·have a1:=Int.emod_nonneg (v.fdiv 256) (show(6:Int)≠0 by omega);have a2:=Int.emod_lt_of_pos (v.fdiv 256) (show(0:Int)<6 by omega);refine au ?_;refine cc (Az (v.fdiv 1048576) 24 (by omega) (by omega)) ?_;(repeat intro K hK)
  have k1:=Int.emod_nonneg (v.fdiv 1048576) (show(24:Int)≠0 by omega);have k2:=Int.emod_lt_of_pos (v.fdiv 1048576) (show(0:Int)<24 by omega);generalize hga:v.fdiv 256%6=a at a1 a2 ⊢;generalize hgb:v.fdiv 4096%6=b;generalize hgc:v.fdiv 65536%6=c;generalize hgk:v.fdiv 1048576%24=k at k1 k2 ⊢;refine au ?_;(repeat intro K hK);apply wr;refine AB rfl (fun h1=>?_) (fun h1=>?_)
  ·simp at h1;have hI:∀z,D9 op a b c k z=⟨op,a,b,c,0⟩:=fun z=>by unfold D9;rw[if_pos h1]
   refine au ?_;refine ar ?_;simp[hga,hgb,hgc,hgk,hI]
  simp at h1;refine au ?_;(repeat intro K hK);apply wr;refine AB rfl (fun h2=>?_) (fun h2=>?_)
  ·simp at h2;have w1:IntKind.i64.wrap (k-12)=k-12:=AA (by omega) (by omega);have w2:IntKind.i32.wrap (k-12)=k-12:=by rw[IntKind.wrap_i32];omega
   refine au1 (kX2 @w1 @w2) ?_;(repeat intro K hK);apply wr;refine AB rfl (fun h3=>?_) (fun h3=>?_)
   ·simp at h3;have hI:∀z,D9 op a b c k z=⟨op,a,0,0,k-12⟩:=fun z=>by unfold D9;rw[if_neg (by omega),if_pos h2,if_pos h3]
    refine au ?_;refine ar ?_;simp[hga,hgb,hgc,hgk,hI]
   simp at h3;have hI:∀z,D9 op a b c k z=⟨op,a,b,0,k-12⟩:=fun z=>by unfold D9;rw[if_neg (by omega),if_pos h2,if_neg h3]
   refine au ?_;refine ar ?_;simp[hga,hgb,hgc,hgk,hI]
  simp at h2;refine au ?_;(repeat intro K hK);apply wr;refine AB rfl (fun h3=>?_) (fun h3=>?_)
  ·simp at h3;have w1:IntKind.i64.wrap (8*k)=8*k:=AA (by omega) (by omega);have w2:IntKind.i64.wrap (8*k-32)=8*k-32:=AA (by omega) (by omega);have w3:IntKind.i32.wrap (8*k-32)=8*k-32:=by rw[IntKind.wrap_i32];omega
   have hI:∀z,D9 op a b c k z=⟨op,a,b,0,8*k-32⟩:=fun z=>by unfold D9;rw[if_neg (by omega),if_neg (by omega),if_pos (by omega)]
   refine au1 (kX3 @w1 @w2 @w3) ?_;refine ar ?_;simp[hga,hgb,hgc,hgk,hI]
  simp at h3;refine au ?_;(repeat intro K hK);apply wr;refine AB rfl (fun h4=>?_) (fun h4=>?_)
  ·simp at h4;have hI:∀z,D9 op a b c k z=⟨op,a,0,0,k*z⟩:=fun z=>by unfold D9;rw[if_neg (by omega),if_neg (by omega),if_neg (by omega),if_pos h4]
   refine au ?_;(repeat intro K hK);apply wr;refine ar ?_;simp[hga,hgb,hgc,hgk,hI];have hz:=and1 (v.fdiv 1099511627776);have hz1:=Int.emod_nonneg (v.fdiv 1099511627776) (show(2:Int)≠0 by omega);have hz2:=Int.emod_lt_of_pos (v.fdiv 1099511627776) (show(0:Int)<2 by omega);change IntKind.i32.wrap (IntKind.i64.wrap (k*IntKind.i64.wrap ((BitVec.ofInt 64 (v.fdiv 1099511627776) &&& 1#64).toNat:Int)))=_;rw[hz];generalize v.fdiv 1099511627776%2=z at hz1 hz2 ⊢;have hc:z=0\/z=1:=by omega
   rcases hc with rfl|rfl
   ·rw[Int.mul_zero];decide
   rw[Int.mul_one,AA (by omega) (by omega),IntKind.wrap_i32];omega
  simp at h4;refine au ?_;(repeat intro K hK);apply wr;refine AB rfl (fun h5=>?_) (fun h5=>?_)
  ·simp at h5;have w3:IntKind.i32.wrap k=k:=by rw[IntKind.wrap_i32];omega
   have hI:∀z,D9 op a b c k z=⟨op,a,b,0,k⟩:=fun z=>by unfold D9;rw[if_neg (by omega),if_neg (by omega),if_neg (by omega),if_neg (by omega),if_pos (by omega)]
   refine au1 @w3 ?_;refine ar ?_;simp[hga,hgb,hgc,hgk,hI]
  simp at h5;refine au ?_;(repeat intro K hK);apply wr;refine AB rfl (fun h6=>?_) (fun h6=>?_)
  ·simp at h6;have w3:IntKind.i32.wrap (k.tmod 8)=k%8:=by rw[Int.tmod_eq_emod_of_nonneg k1,IntKind.wrap_i32];omega
   have hI:∀z,D9 op a b c k z=⟨op,a,0,0,k%8⟩:=fun z=>by unfold D9;rw[if_neg (by omega),if_neg (by omega),if_neg (by omega),if_neg (by omega),if_neg (by omega),if_pos (by omega)]
   refine au1 @w3 ?_;refine ar ?_;simp[hga,hgb,hgc,hgk,hI]
  simp at h6;refine au ?_;(repeat intro K hK);apply wr;refine AB rfl (fun h7=>?_) (fun h7=>?_)
  ·simp at h7;have w3:IntKind.i32.wrap (k.tmod 12)=k%12:=by rw[Int.tmod_eq_emod_of_nonneg k1,IntKind.wrap_i32];omega
   have hI:∀z,D9 op a b c k z=⟨op,a,0,0,k%12⟩:=fun z=>by unfold D9;rw[if_neg (by omega),if_neg (by omega),if_neg (by omega),if_neg (by omega),if_neg (by omega),if_neg (by omega),if_pos (by omega)]
   refine au1 @w3 ?_;refine ar ?_;simp[hga,hgb,hgc,hgk,hI]
  simp at h7;have hI:∀z,D9 op a b c k z=⟨op,0,0,0,0⟩:=fun z=>by unfold D9;rw[if_neg (by omega),if_neg (by omega),if_neg (by omega),if_neg (by omega),if_neg (by omega),if_neg (by omega),if_neg (by omega)]
  refine au ?_;refine ar ?_;simp[hga,hgb,hgc,hgk,hI]
 refine An (.node 4 17 (.node 9 17 (.node 12 17 (.node 15 17 (.leaf [0,1,2,3,4,5,6,7,8,9,10,11,12,13,14,15,16,17,18] (bN [0,0,0,4,14,31,63,0,128,414,0,1024,3998,0,8192,32670,65535,65438,262143]) [(18,([[],[],[],[2],[1,2,3],[0,1,2,3,4],[0,1,2,3,4,5],[],[7],[1,2,3,4,7,8],[],[10],[1,2,3,4,7,8,9,10,11],[],[13],[1,2,3,4,7,8,9,10,11,12,13,14],[0,1,2,3,4,5,6,7,8,9,10,11,12,13,14,15],[1,2,3,4,7,8,9,10,11,12,13,14,15]],[(5,9),(5,12),(5,15),(5,17),(6,9),(6,12),(6,15),(6,17)])),(1,([],[]))]) (.leaf [0,1,2,3,4,5,6,7,8,9,10,11,12,13,14,17,15,16,18] (bN [0,0,0,4,14,31,63,0,128,414,0,1024,3998,0,8192,8094,65438,131071,262143]) [(17,([[],[],[],[2],[1,2,3],[0,1,2,3,4],[0,1,2,3,4,5],[],[7],[1,2,3,4,7,8],[],[10],[1,2,3,4,7,8,9,10,11],[],[13],[1,2,3,4,7,8,9,10,11,12],[1,2,3,4,7,8,9,10,11,12,13,14,15]],[(5,9),(5,12),(5,15),(5,16),(6,9),(6,12),(6,15),(6,16)])),(1,([],[])),(1,([],[]))])) (.leaf [0,1,2,3,4,5,6,7,8,9,10,11,13,14,17,12,15,16,18] (bN [0,0,0,4,14,31,63,0,128,414,0,1024,0,4096,926,20382,65438,131071,262143]) [(17,([[],[],[],[2],[1,2,3],[0,1,2,3,4],[0,1,2,3,4,5],[],[7],[1,2,3,4,7,8],[],[10],[],[12],[1,2,3,4,7,8,9],[1,2,3,4,7,8,9,10,11,14],[1,2,3,4,7,8,9,10,11,12,13,14,15]],[(5,9),(5,14),(5,15),(5,16),(6,9),(6,14),(6,15),(6,16)])),(1,([],[])),(1,([],[]))])) (.leaf [0,1,2,3,4,5,6,7,8,10,11,13,14,17,9,12,15,16,18] (bN [0,0,0,4,14,31,63,0,128,0,512,0,2048,30,8606,26526,65438,131071,262143]) [(17,([[],[],[],[2],[1,2,3],[0,1,2,3,4],[0,1,2,3,4,5],[],[7],[],[9],[],[11],[1,2,3,4],[1,2,3,4,7,8,13],[1,2,3,4,7,8,9,10,13,14],[1,2,3,4,7,8,9,10,11,12,13,14,15]],[(5,13),(5,14),(5,15),(5,16),(6,13),(6,14),(6,15),(6,16)])),(1,([],[])),(1,([],[]))])) (.leaf [0,1,2,3,7,8,10,11,13,14,17,4,5,6,9,12,15,16,18] (bN [0,0,0,4,0,16,0,64,0,256,0,1038,3087,7183,3134,19710,53246,131071,262143]) [(17,([[],[],[],[2],[],[4],[],[6],[],[8],[],[1,2,3,10],[0,1,2,3,10,11],[0,1,2,3,10,11,12],[1,2,3,4,5,10,11],[1,2,3,4,5,6,7,10,11,14],[1,2,3,4,5,6,7,8,9,10,11,14,15]],[(3,10),(12,14),(12,15),(12,16),(13,14),(13,15),(13,16)])),(1,([],[])),(1,([],[]))])) (by kernel_rfl) (by kernel_rfl) ?_;simp only[PT.run]
 repeat' (with_reducible apply And.intro)
 all_goals (simp only[Bo,fJ,gI,fC,fK];refine af1 (kX2 @hol @hx1) ?_;(repeat intro K hK);apply wr)
 all_goals ((first|refine .inl ⟨0,_,Az v 50 (by omega) (by omega),?_⟩|refine .inl ⟨0,_,AC.wk (Az v 50 (by omega) (by omega)) (by simp),?_⟩|refine⟨0,_,Az v 50 (by omega) (by omega),?_⟩|refine⟨0,_,AC.wk (Az v 50 (by omega) (by omega)) (by simp),?_⟩);(simp[CZ,C9]))
 all_goals ((refine af1 (kX2 @hol @hx1) ?_);(repeat intro K hK);(apply wr))
 all_goals ((first|refine .inl ⟨0,_,Az (v.fdiv 256) 6 (by omega) (by omega),?_⟩|refine .inl ⟨0,_,AC.wk (Az (v.fdiv 256) 6 (by omega) (by omega)) (by simp),?_⟩|refine⟨0,_,Az (v.fdiv 256) 6 (by omega) (by omega),?_⟩|refine⟨0,_,AC.wk (Az (v.fdiv 256) 6 (by omega) (by omega)) (by simp),?_⟩);(simp[CZ,C9]))
 all_goals ((refine af ?_);(repeat intro K hK);(apply wr))
 all_goals ((first|refine .inl ⟨0,_,Az (v.fdiv 4096) 6 (by omega) (by omega),?_⟩|refine .inl ⟨0,_,AC.wk (Az (v.fdiv 4096) 6 (by omega) (by omega)) (by simp),?_⟩|refine⟨0,_,Az (v.fdiv 4096) 6 (by omega) (by omega),?_⟩|refine⟨0,_,AC.wk (Az (v.fdiv 4096) 6 (by omega) (by omega)) (by simp),?_⟩);(simp[CZ,C9]))
 all_goals ((refine af ?_);(repeat intro K hK);(apply wr))
 all_goals ((first|refine .inl ⟨0,_,Az (v.fdiv 65536) 6 (by omega) (by omega),?_⟩|refine .inl ⟨0,_,AC.wk (Az (v.fdiv 65536) 6 (by omega) (by omega)) (by simp),?_⟩|refine⟨0,_,Az (v.fdiv 65536) 6 (by omega) (by omega),?_⟩|refine⟨0,_,AC.wk (Az (v.fdiv 65536) 6 (by omega) (by omega)) (by simp),?_⟩);(simp[CZ,C9]))
 all_goals ((refine af1 (kX2 @hol @hx1) ?_);(repeat intro K hK);(apply wr))
 all_goals first
  | (refine hJ () _ (fun x=>if x=1 then 7 else 0) trivial ⟨rfl,?_,?_,?_,by simp⟩;(· simp[leT,ltV,lt1,ren,Ao]);(· simp[leO,lt1,Ao]);(· simp))
  | (refine hJ () _ (fun x=>if x=1 then 6 else 0) trivial ⟨rfl,?_,?_,?_,by simp⟩;(· simp[leT,ltV,lt1,ren,Ao]);(· simp[leO,lt1,Ao]);(· simp))
  | (refine hJ () _ (fun x=>if x=1 then 5 else 0) trivial ⟨rfl,?_,?_,?_,by simp⟩;(· simp[leT,ltV,lt1,ren,Ao]);(· simp[leO,lt1,Ao]);(· simp))
  | (refine hJ () _ (fun x=>if x=1 then 4 else 0) trivial ⟨rfl,?_,?_,?_,by simp⟩;(· simp[leT,ltV,lt1,ren,Ao]);(· simp[leO,lt1,Ao]);(· simp))
  | (refine hJ () _ (fun x=>if x=1 then 3 else 0) trivial ⟨rfl,?_,?_,?_,by simp⟩;(· simp[leT,ltV,lt1,ren,Ao]);(· simp[leO,lt1,Ao]);(· simp))
end Go.Proofs.YtjkmhmepljamoaaGreat
end
section
namespace Go.Proofs.YtjkmhmepljamoaaGreat.As
open Go.Ab Go.RowKit Tryz
def Ix:List (List UInt8):=[[],[97,100,100],[115,117,98],[97,110,100],[111,114],[120,111,114],[115,104,108],[115,104,114],[115,97,114],[109,117,108],[100,105,118],[114,101,109],[115,108,116],[115,108,116,117],[],[],[97,100,100,105],[97,110,100,105],[111,114,105],[120,111,114,105],[115,104,108,105],[115,104,114,105],[115,97,114,105],[115,108,116,105],[108,117,105],[],[],[],[],[],[],[],[108,119],[108,98],[108,98,117],[115,119],[115,98],[],[],[],[98,101,113],[98,110,101],[98,108,116],[98,103,101],[98,108,116,117],[98,103,101,117],[],[],[106,97,108],[106,97,108,114],[],[],[],[],[],[],[101,99,97,108,108],[101,114,101,116],[99,115,114,114],[99,115,114,119],[105,110],[111,117,116],[119,102,105],[102,108,117,115,104],[104,97,108,116]]
def mnS(op:Int):List UInt8:=Ix.getD op.toNat []
def Yy(r:Int):List UInt8:=[114]++Lib.itoa r
def IU:List Str:=[[114,48],[114,49],[114,50],[114,51],[114,52],[114,53],[114,54],[114,55],[114,56],[114,57],[114,49,48],[114,49,49],[114,49,50],[114,49,51],[114,49,52],[114,49,53]]
theorem Wc(i:Nat):Lib.itoa (i:Int)=Lib.decDigits i:=Lib.itoa_nonneg i
theorem HS:∀i<16,Yy (i:Nat)=IU.getD i []:=by
 intro i hi;unfold Yy;rw[Wc];by_cases h:i<10
 ·rw[Lib.decDigits_one h];have:i=0\/i=1\/i=2\/i=3\/i=4\/i=5\/i=6\/i=7\/i=8\/i=9:=by omega
  rcases this with rfl|rfl|rfl|rfl|rfl|rfl|rfl|rfl|rfl|rfl<;>rfl
 rw[Lib.decDigits_two h (by omega)];have:i=10\/i=11\/i=12\/i=13\/i=14\/i=15:=by omega
 rcases this with rfl|rfl|rfl|rfl|rfl|rfl<;>rfl
def No(s:Str):List Str->Nat->Option Nat
 | [],_=>none
 | x::r,i=>if s=x then some i else No s r (i+1)
def Yx(s:Str):Option Nat:=No s IU 0
theorem KD(s:Str):∀(l:List Str)(k i:Nat),i<l.length->s=l.getD i []->(∀j,j<i->s≠l.getD j [])->No s l k=some (k+i)
 | x::r,k,0,_,h,_=>by simp only[fC]at h;simp[No,h]
 | x::r,k,i+1,hl,h,hno=>by
  have h0:=hno 0 (by omega);simp only[fC]at h0;simp only[No,h0,if_false];rw[KD s r (k+1) i (by simpa using hl) (by simpa using h) (fun j hj=>by simpa using hno (j+1) (by omega))];congr 1;omega
 | [],_,_,hl,_,_=>by simp at hl
theorem KC(s:Str):∀(l:List Str)(k:Nat),(∀j,j<l.length->s≠l.getD j [])->No s l k=none
 | [],_,_=>rfl
 | x::r,k,hno=>by
  have h0:=hno 0 (by simp);simp only[fC]at h0;simp only[No,h0,if_false];exact KC s r (k+1) fun j hj=>by simpa using hno (j+1) (by simpa using hj)
abbrev regV(s:Str):V:=.tup [.int .i64 ((Yx s).getD 0:Nat),.bool (Yx s).isSome]
theorem reg_at(s:Str)(i:Nat)(hi:i<16)(h:s=114::Lib.itoa i)(hno:∀k,k<i->s≠Yy (k:Nat)):Yx s=some i:=by
 have:=KD s IU 0 i hi (by rw[<- HS i hi];exact h) (fun j hj=>by rw[<- HS j (by omega)];exact hno j hj);simpa[Yx]using this
theorem reg_no(s:Str)(hno:∀k,k<16->s≠Yy (k:Nat)):Yx s=none :=
 KC s IU 0 fun j hj=>by rw[<- HS j hj];exact hno j hj
def FS(l:List (Str×Int)):List (List V):=l.map fun p=>[.str p.1,.int .u32 p.2]
theorem VA(l:List (Str×Int))(s:Str)(n:Int):FS l++[[.str s,.int .u32 n]]=FS (l++[(s,n)]):=by simp[FS]
theorem NI(l:List (Str×Int)):(FS l).length=l.length:=by simp[FS]
def Ja(s:Str):List (Str×Int)->Option Int
 | []=>none
 | x::r=>if x.1=s then some x.2 else Ja s r
theorem Ji{s:Str}{f i:Nat}(hf:f<=i)(hi:i<s.length):(s.take (i+1)).drop f=(s.take i).drop f++[s.getD i 0]:=by
 rw[List.take_add_one,List.drop_append,eP,eR hi,fE,show f-min i s.length=0 by omega];rfl
abbrev errV(e:Int×Int):V:=.st [.int .i64 e.1,.int .i64 e.2]
theorem Eg(op:Int):0<=AI op/\AI op<=9:=by
 unfold AI
 (repeat' split)<;>omega
theorem Sa:∀(k:Nat)(n:Int)(_:0<=n)(_:n<100)(_:n.toNat<=k),AC prog 344 [.int .u64 n] (.str (Lib.decDigits n.toNat)):=by
 intro k;induction k using Nat.strongRecOn with
 | _ k ih =>
  intro n h0 h1 hk;refine sX func344 ntmps344 ?_;intros;apply wr;refine AB rfl (fun h=>?_) (fun h=>?_)
  ·simp at h;obtain⟨d,hd,hb⟩:∃d:UInt8,d=UInt8.ofNat (48+n.toNat)/\IntKind.u8.wrap (IntKind.u64.wrap (48+n))=(d.toNat:Int):=⟨_,rfl,by
    rw[UInt8.toNat_ofNat',IntKind.wrap_u64,IntKind.wrap_u8];omega⟩
   have hB:Cf [V.int .u8 (d.toNat:Int)]:=⟨d,rfl⟩;have he:Lib.decDigits n.toNat=[d]:=by rw[Lib.decDigits_one (by omega),hd]
   refine au1 @hb ?_;refine ar ?_;simp[he]
  simp at h;obtain⟨d,hd,hb⟩:∃d:UInt8,d=UInt8.ofNat (48+n.toNat%10)/\IntKind.u8.wrap (IntKind.u64.wrap (48+n.tmod 10))=(d.toNat:Int):=⟨_,rfl,by
   rw[UInt8.toNat_ofNat',IntKind.wrap_u64,IntKind.wrap_u8,Int.tmod_eq_emod_of_nonneg h0];omega⟩
  have hB:Cf [V.int .u8 (d.toNat:Int)]:=⟨d,rfl⟩;have hq:IntKind.u64.wrap (n.tdiv 10)=n/10:=by rw[Int.tdiv_eq_ediv_of_nonneg h0,IntKind.wrap_u64];omega
  have hr:=ih (n/10).toNat (by omega) (n/10) (by omega) (by omega) (fA _);have hl:(Lib.decDigits (n/10).toNat).length<=20:=by rw[Lib.decDigits_one (by omega)];simp
  have he:Lib.decDigits n.toNat=Lib.decDigits (n/10).toNat++[d]:=by
   rw[Lib.decDigits,dif_neg (by omega)];rw[show n.toNat/10=(n/10).toNat by omega,hd]
  refine au ?_;intros;apply wr;refine An (.node 2 7 (.leaf [0,1,2,3,4,5,6,7,8,9,10] (bN [0,1,3,0,8,24,56,127,255,511,1023]) [(7,([[],[0],[0,1],[],[3],[3,4],[3,4,5]],[(6,2)])),(1,([],[])),(1,([],[])),(1,([],[])),(1,([],[]))]) (.leaf [0,1,3,4,5,6,7,2,8,9,10] (bN [0,1,0,4,12,28,60,127,124,511,1023]) [(9,([[],[0],[],[2],[2,3],[2,3,4],[2,3,4,5],[0,1,2,3,4,5,6],[2,3,4,5,6]],[(8,7)])),(1,([],[])),(1,([],[]))])) (by kernel_rfl) (by kernel_rfl) ?_;simp only[PT.run]
  repeat' (with_reducible apply And.intro)
  all_goals (simp only[Bo,fJ,gI,fC,fK];refine af1 (kX2 @hb @hq) ?_;intros;apply wr)
  all_goals ((first|refine .inl ⟨0,_,hr,?_⟩|refine .inl ⟨0,_,AC.wk (hr) (by simp),?_⟩|refine⟨0,_,hr,?_⟩|refine⟨0,_,AC.wk (hr) (by simp),?_⟩);(simp[CZ,C9]))
  all_goals ((refine af1 (kX2 @hb @hl) ?_);intros;(apply wr))
  all_goals ((refine BO ?_);(simp[he]))
theorem Qi(n:Int)(h0:0<=n)(h1:n<16):AC prog 335 [.int .i64 n] (.str (Lib.itoa n)):=by
 have h:¬n<0:=by omega
 have e1:IntKind.u64.wrap n=n:=by rw[IntKind.wrap_u64];omega
 have he:Lib.itoa n=Lib.decDigits n.toNat:=if_neg h;have hd:=Sa n.toNat n (by omega) (by omega) (fA _);refine sX func335 ntmps335 ?_;refine EL @h @e1 ?_;refine cc1 (hd) @e1 ?_;refine au ?_;refine ar ?_;simp[he]
end Go.Proofs.YtjkmhmepljamoaaGreat.As
end
