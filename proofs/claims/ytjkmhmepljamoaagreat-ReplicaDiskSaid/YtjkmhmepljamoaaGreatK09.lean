/- A part of the proof of ReplicaDisk. -/
import Derived.Test.YtjkmhmepljamoaaGreatK06
import Derived.Test.YtjkmhmepljamoaaGreatK08
import Derived.Lib.AppendIntMem
import Derived.Lib.ItoaLen
set_option linter.all false
set_option maxHeartbeats 16000000
set_option maxRecDepth 100000
section
namespace Go.Proofs.YtjkmhmepljamoaaGreat
open Go.Ab Tryz
theorem Av(n k:Int)(h0:0<k)(h1:k<=9223372036854775807):AC prog 8 [.int .i64 n,.int .i64 k] (.int .i64 (n%k)):=by
 have e3:=Int.emod_lt_of_pos n h0;have e4:=Int.emod_nonneg n (show k≠0 by omega);have e1:0<=n.tmod k->n.tmod k=n%k:=fun h=>by rw[Int.tmod_eq_emod]at h ⊢;split<;>split at h<;>omega
 have e2:n.tmod k<0->n.tmod k+k=n%k:=fun h=>by rw[Int.tmod_eq_emod]at h ⊢;split<;>split at h<;>omega
 refine sX func8 ntmps8 ?_;intros;apply wr;refine AB rfl (fun h=>?_) (fun h=>?_)
 ·simp at h;refine au ?_;intros;apply wr;refine ar ?_;simp;rw[AA,e2 h]
 simp at h;refine au ?_;intros;apply wr;refine ar ?_;simp;exact e1 h
def SS:List Int:=[1,2,3,4,5,6,7,8,9,10,11,12,13,16,16,17,18,19,20,21,22,23,24,24,32,32,33,34,35,35,36,40,41,42,43,44,45,48,49,56,57,58,59,60,60,61,61,62,63,64]
theorem Rc:AC prog 167 [] (.new 3 1 (ints .i64 SS)):=by
 refine sX func167 ntmps167 ?_;refine ar ?_;simp[SS,ints]
def Db(op a b c k z:Int):InstD :=
 if op<=13 then⟨op,a,b,c,0⟩
 else if 40<=op/\op<=48 then⟨op,a,if op=48 then 0 else b,0,k-12⟩
 else if op=16\/op=23\/(32<=op/\op<=36)\/op=49 then⟨op,a,b,0,8*k-32⟩
 else if op=24 then⟨op,a,0,0,k*z⟩
 else if 17<=op/\op<=22 then⟨op,a,b,0,k⟩
 else if op=58\/op=59 then⟨op,a,0,0,k%8⟩
 else if op=60\/op=61 then⟨op,a,0,0,k%12⟩
 else⟨op,0,0,0,0⟩
theorem OM(op a b c k z:Int)(ho:op∈SS)(ha:0<=a/\a<6)(hb:0<=b/\b<6)(hc:0<=c/\c<6)(hk:0<=k/\k<24)(hz:z=0\/z=1):validD (Db op a b c k z)=true:=by
 simp only[SS,List.mem_cons,List.not_mem_nil,or_false]at ho;have hkz:0<=k*z/\k*z<24:=by rcases hz with rfl|rfl<;>omega
 generalize hq:k*z=q at hkz;rcases ho with rfl|rfl|rfl|rfl|rfl|rfl|rfl|rfl|rfl|rfl|rfl|rfl|rfl|rfl|rfl|rfl|rfl|rfl|rfl|rfl|rfl|rfl|rfl|rfl|rfl|rfl|rfl|rfl|rfl|rfl|rfl|rfl|rfl|rfl|rfl|rfl|rfl|rfl|rfl|rfl|rfl|rfl|rfl|rfl|rfl|rfl|rfl|rfl|rfl|rfl<;>simp[Db,hq,validD,Rq,uA,uB,uC,By,Al,AK]<;>omega
noncomputable def vA(n:Int):Int:=mixA n 1
noncomputable def opA(n:Int):Int:=SS.getD (vA n%50).toNat 0
noncomputable def kA(n:Int):Int:=(vA n).fdiv 1048576%24
noncomputable def zA(n:Int):Int:=(vA n).fdiv 1099511627776%2
noncomputable def Jt(n:Int):InstD:=Db (opA n) ((vA n).fdiv 256%6) ((vA n).fdiv 4096%6) ((vA n).fdiv 65536%6) (kA n) (zA n)
theorem and1(x:Int):IntKind.i64.wrap ((BitVec.ofInt 64 x &&& 1#64).toNat:Int)=x%2:=by
 have e:(BitVec.ofInt 64 x &&& 1#64).toNat=(x%2).toNat:=by
  rw[BitVec.toNat_and,BitVec.toNat_ofInt,show(1#64).toNat=2^1-1 from rfl,Nat.and_two_pow_sub_one_eq_mod];omega
 rw[e,AA];omega
@[simp] theorem bi64:IntKind.i64.bits=64:=rfl
theorem UK(n:Int):opA n∈SS:=by
 unfold opA;have h1:=Int.emod_nonneg (vA n) (show(50:Int)≠0 by omega);have h2:=Int.emod_lt_of_pos (vA n) (show(0:Int)<50 by omega);have hl:SS.length=50:=rfl;rw[gP,gR (by omega),Option.getD_some];exact List.getElem_mem _
theorem JK(n:Int):validD (Jt n)=true :=
 OM _ _ _ _ _ _ (UK n) (by omega) (by omega) (by omega) (by unfold kA;omega) (by unfold zA;omega)
theorem ON(n:Int):AC prog 100 [.int .i64 n] (.st (Jt n).row):=by
 have hol:(ints .i64 SS).length=50:=rfl;have hv1:=Int.emod_nonneg (vA n) (show(50:Int)≠0 by omega);have hv2:=Int.emod_lt_of_pos (vA n) (show(0:Int)<50 by omega);have hx1:(ints .i64 SS)[(vA n%50).toNat]? =some [.int .i64 (opA n)]:=by
  have hl:(vA n%50).toNat<SS.length:=by have:SS.length=50:=rfl;omega
  rw[cB .i64 SS _ hl,opA,gP,gR hl];rfl
 have hmix:AC prog 110 [.int .i64 n,.int .i64 1] (.int .i64 (vA n)):=ZN n 1;have hmem:=UK n;unfold Jt kA zA;generalize opA n=op at hx1 hmem ⊢;generalize vA n=v at hv1 hv2 hx1 hmix ⊢;refine sX func100 ntmps100 ?_;refine cX (Rc) ?_;refine cX (hmix) ?_;(repeat intro K hK);apply wr;refine Cc (α:=Unit) (fun _=>(⟨142,[(5,.ptr 1 5 0 0),(4,.int .i64 v),(2,.ptr 0 5 0 0)],2,[(0,some ⟨198,5,true,false,[[.int .i64 0,.int .i64 0,.int .i64 0,.int .i64 0,.int .i32 0]]⟩),(1,some ⟨198,5,true,false,[[.int .i64 op,.int .i64 (v.fdiv 256%6),.int .i64 (v.fdiv 4096%6),.int .i64 (v.fdiv 65536%6),.int .i32 0]]⟩)],0⟩:St)) (fun _=>True) hK (fun _ hxhJ=>?_) (fun hJ=>?_);all_goals clear hK
 ·have a1:=Int.emod_nonneg (v.fdiv 256) (show(6:Int)≠0 by omega);have a2:=Int.emod_lt_of_pos (v.fdiv 256) (show(0:Int)<6 by omega);refine au ?_;refine cc (Av (v.fdiv 1048576) 24 (by omega) (by omega)) ?_;(repeat intro K hK)
  have k1:=Int.emod_nonneg (v.fdiv 1048576) (show(24:Int)≠0 by omega);have k2:=Int.emod_lt_of_pos (v.fdiv 1048576) (show(0:Int)<24 by omega);generalize hga:v.fdiv 256%6=a at a1 a2 ⊢;generalize hgb:v.fdiv 4096%6=b;generalize hgc:v.fdiv 65536%6=c;generalize hgk:v.fdiv 1048576%24=k at k1 k2 ⊢;refine au ?_;(repeat intro K hK);apply wr;refine AB rfl (fun h1=>?_) (fun h1=>?_)
  ·simp at h1;have hI:∀z,Db op a b c k z=⟨op,a,b,c,0⟩:=fun z=>by unfold Db;rw[if_pos h1]
   refine au ?_;refine ar ?_;simp[hga,hgb,hgc,hgk,hI]
  simp at h1;refine au ?_;(repeat intro K hK);apply wr;refine AB rfl (fun h2=>?_) (fun h2=>?_)
  ·simp at h2;have w1:IntKind.i64.wrap (k-12)=k-12:=AA;have w2:IntKind.i32.wrap (k-12)=k-12:=by rw[IntKind.wrap_i32];omega
   refine au1 (kX2 @w1 @w2) ?_;(repeat intro K hK);apply wr;refine AB rfl (fun h3=>?_) (fun h3=>?_)
   ·simp at h3;have hI:∀z,Db op a b c k z=⟨op,a,0,0,k-12⟩:=fun z=>by unfold Db;rw[nG,if_pos h2,if_pos h3]
    refine au ?_;refine ar ?_;simp[hga,hgb,hgc,hgk,hI]
   simp at h3;have hI:∀z,Db op a b c k z=⟨op,a,b,0,k-12⟩:=fun z=>by unfold Db;rw[nG,if_pos h2,if_neg h3]
   refine au ?_;refine ar ?_;simp[hga,hgb,hgc,hgk,hI]
  simp at h2;refine au ?_;(repeat intro K hK);apply wr;refine AB rfl (fun h3=>?_) (fun h3=>?_)
  ·simp at h3;have w1:IntKind.i64.wrap (8*k)=8*k:=AA;have w2:IntKind.i64.wrap (8*k-32)=8*k-32:=AA;have w3:IntKind.i32.wrap (8*k-32)=8*k-32:=by rw[IntKind.wrap_i32];omega
   have hI:∀z,Db op a b c k z=⟨op,a,b,0,8*k-32⟩:=fun z=>by unfold Db;rw[nG,nG,nH]
   refine au1 (kX3 @w1 @w2 @w3) ?_;refine ar ?_;simp[hga,hgb,hgc,hgk,hI]
  simp at h3;refine au ?_;(repeat intro K hK);apply wr;refine AB rfl (fun h4=>?_) (fun h4=>?_)
  ·simp at h4;have hI:∀z,Db op a b c k z=⟨op,a,0,0,k*z⟩:=fun z=>by unfold Db;rw[nG,nG,nG,if_pos h4]
   refine au ?_;(repeat intro K hK);apply wr;refine ar ?_;simp[hga,hgb,hgc,hgk,hI];have hz:=and1 (v.fdiv 1099511627776);have hz1:=Int.emod_nonneg (v.fdiv 1099511627776) (show(2:Int)≠0 by omega);have hz2:=Int.emod_lt_of_pos (v.fdiv 1099511627776) (show(0:Int)<2 by omega);change IntKind.i32.wrap (IntKind.i64.wrap (k*IntKind.i64.wrap ((BitVec.ofInt 64 (v.fdiv 1099511627776) &&& 1#64).toNat:Int)))=_;rw[hz];generalize v.fdiv 1099511627776%2=z at hz1 hz2 ⊢;have hc:z=0\/z=1:=by omega
   rcases hc with rfl|rfl
   ·rw[Int.mul_zero];decide
   rw[Int.mul_one,AA,IntKind.wrap_i32];omega
  simp at h4;refine au ?_;(repeat intro K hK);apply wr;refine AB rfl (fun h5=>?_) (fun h5=>?_)
  ·simp at h5;have w3:IntKind.i32.wrap k=k:=by rw[IntKind.wrap_i32];omega
   have hI:∀z,Db op a b c k z=⟨op,a,b,0,k⟩:=fun z=>by unfold Db;rw[nG,nG,nG,nG,nH]
   refine au1 @w3 ?_;refine ar ?_;simp[hga,hgb,hgc,hgk,hI]
  simp at h5;refine au ?_;(repeat intro K hK);apply wr;refine AB rfl (fun h6=>?_) (fun h6=>?_)
  ·simp at h6;have w3:IntKind.i32.wrap (k.tmod 8)=k%8:=by rw[Int.tmod_eq_emod_of_nonneg k1,IntKind.wrap_i32];omega
   have hI:∀z,Db op a b c k z=⟨op,a,0,0,k%8⟩:=fun z=>by unfold Db;rw[nG,nG,nG,nG,nG,nH]
   refine au1 @w3 ?_;refine ar ?_;simp[hga,hgb,hgc,hgk,hI]
  simp at h6;refine au ?_;(repeat intro K hK);apply wr;refine AB rfl (fun h7=>?_) (fun h7=>?_)
  ·simp at h7;have w3:IntKind.i32.wrap (k.tmod 12)=k%12:=by rw[Int.tmod_eq_emod_of_nonneg k1,IntKind.wrap_i32];omega
   have hI:∀z,Db op a b c k z=⟨op,a,0,0,k%12⟩:=fun z=>by unfold Db;rw[nG,nG,nG,nG,nG,nG,nH]
   refine au1 @w3 ?_;refine ar ?_;simp[hga,hgb,hgc,hgk,hI]
  simp at h7;have hI:∀z,Db op a b c k z=⟨op,0,0,0,0⟩:=fun z=>by unfold Db;rw[nG,nG,nG,nG,nG,nG,nG]
  refine au ?_;refine ar ?_;simp[hga,hgb,hgc,hgk,hI]
 refine BH (.node 4 17 (.node 9 17 (.node 12 17 (.node 15 17 (.leaf [0,1,2,3,4,5,6,7,8,9,10,11,12,13,14,15,16,17,18] (bN [0,0,0,4,14,31,63,0,128,414,0,1024,3998,0,8192,32670,65535,65438,262143]) [(18,([[],[],[],[2],[1,2,3],[0,1,2,3,4],[0,1,2,3,4,5],[],[7],[1,2,3,4,7,8],[],[10],[1,2,3,4,7,8,9,10,11],[],[13],[1,2,3,4,7,8,9,10,11,12,13,14],[0,1,2,3,4,5,6,7,8,9,10,11,12,13,14,15],[1,2,3,4,7,8,9,10,11,12,13,14,15]],[(5,9),(5,12),(5,15),(5,17),(6,9),(6,12),(6,15),(6,17)])),(1,([],[]))]) (.leaf [0,1,2,3,4,5,6,7,8,9,10,11,12,13,14,17,15,16,18] (bN [0,0,0,4,14,31,63,0,128,414,0,1024,3998,0,8192,8094,65438,131071,262143]) [(17,([[],[],[],[2],[1,2,3],[0,1,2,3,4],[0,1,2,3,4,5],[],[7],[1,2,3,4,7,8],[],[10],[1,2,3,4,7,8,9,10,11],[],[13],[1,2,3,4,7,8,9,10,11,12],[1,2,3,4,7,8,9,10,11,12,13,14,15]],[(5,9),(5,12),(5,15),(5,16),(6,9),(6,12),(6,15),(6,16)])),(1,([],[])),(1,([],[]))])) (.leaf [0,1,2,3,4,5,6,7,8,9,10,11,13,14,17,12,15,16,18] (bN [0,0,0,4,14,31,63,0,128,414,0,1024,0,4096,926,20382,65438,131071,262143]) [(17,([[],[],[],[2],[1,2,3],[0,1,2,3,4],[0,1,2,3,4,5],[],[7],[1,2,3,4,7,8],[],[10],[],[12],[1,2,3,4,7,8,9],[1,2,3,4,7,8,9,10,11,14],[1,2,3,4,7,8,9,10,11,12,13,14,15]],[(5,9),(5,14),(5,15),(5,16),(6,9),(6,14),(6,15),(6,16)])),(1,([],[])),(1,([],[]))])) (.leaf [0,1,2,3,4,5,6,7,8,10,11,13,14,17,9,12,15,16,18] (bN [0,0,0,4,14,31,63,0,128,0,512,0,2048,30,8606,26526,65438,131071,262143]) [(17,([[],[],[],[2],[1,2,3],[0,1,2,3,4],[0,1,2,3,4,5],[],[7],[],[9],[],[11],[1,2,3,4],[1,2,3,4,7,8,13],[1,2,3,4,7,8,9,10,13,14],[1,2,3,4,7,8,9,10,11,12,13,14,15]],[(5,13),(5,14),(5,15),(5,16),(6,13),(6,14),(6,15),(6,16)])),(1,([],[])),(1,([],[]))])) (.leaf [0,1,2,3,7,8,10,11,13,14,17,4,5,6,9,12,15,16,18] (bN [0,0,0,4,0,16,0,64,0,256,0,1038,3087,7183,3134,19710,53246,131071,262143]) [(17,([[],[],[],[2],[],[4],[],[6],[],[8],[],[1,2,3,10],[0,1,2,3,10,11],[0,1,2,3,10,11,12],[1,2,3,4,5,10,11],[1,2,3,4,5,6,7,10,11,14],[1,2,3,4,5,6,7,8,9,10,11,14,15]],[(3,10),(12,14),(12,15),(12,16),(13,14),(13,15),(13,16)])),(1,([],[])),(1,([],[]))])) (by kernel_rfl) (by kernel_rfl) ?_;simp only[PT.run]
 repeat' (with_reducible apply And.intro)
 all_goals (simp only[CE,iI,List.map_nil,iC,iK];refine af1 (kX2 @hol @hx1) ?_;(repeat intro K hK);apply wr)
 all_goals ((first|refine .inl ⟨0,_,Av v 50 (by omega) (by omega),?_⟩|refine .inl ⟨0,_,AC.wk (Av v 50 (by omega) (by omega)) (by simp),?_⟩|refine⟨0,_,Av v 50 (by omega) (by omega),?_⟩|refine⟨0,_,AC.wk (Av v 50 (by omega) (by omega)) (by simp),?_⟩);(simp[C0,Cd]))
 all_goals ((refine af1 (kX2 @hol @hx1) ?_);(repeat intro K hK);(apply wr))
 all_goals ((first|refine .inl ⟨0,_,Av (v.fdiv 256) 6 (by omega) (by omega),?_⟩|refine .inl ⟨0,_,AC.wk (Av (v.fdiv 256) 6 (by omega) (by omega)) (by simp),?_⟩|refine⟨0,_,Av (v.fdiv 256) 6 (by omega) (by omega),?_⟩|refine⟨0,_,AC.wk (Av (v.fdiv 256) 6 (by omega) (by omega)) (by simp),?_⟩);(simp[C0,Cd]))
 all_goals ((refine af ?_);(repeat intro K hK);(apply wr))
 all_goals ((first|refine .inl ⟨0,_,Av (v.fdiv 4096) 6 (by omega) (by omega),?_⟩|refine .inl ⟨0,_,AC.wk (Av (v.fdiv 4096) 6 (by omega) (by omega)) (by simp),?_⟩|refine⟨0,_,Av (v.fdiv 4096) 6 (by omega) (by omega),?_⟩|refine⟨0,_,AC.wk (Av (v.fdiv 4096) 6 (by omega) (by omega)) (by simp),?_⟩);(simp[C0,Cd]))
 all_goals ((refine af ?_);(repeat intro K hK);(apply wr))
 all_goals ((first|refine .inl ⟨0,_,Av (v.fdiv 65536) 6 (by omega) (by omega),?_⟩|refine .inl ⟨0,_,AC.wk (Av (v.fdiv 65536) 6 (by omega) (by omega)) (by simp),?_⟩|refine⟨0,_,Av (v.fdiv 65536) 6 (by omega) (by omega),?_⟩|refine⟨0,_,AC.wk (Av (v.fdiv 65536) 6 (by omega) (by omega)) (by simp),?_⟩);(simp[C0,Cd]))
 all_goals ((refine af1 (kX2 @hol @hx1) ?_);(repeat intro K hK);(apply wr))
 all_goals first
  | (refine hJ () _ (fun x=>if x=1 then 7 else 0) trivial ⟨rfl,?_,?_,?_,by simp⟩;(· simp[leT,ltV,lt1,ren,BE]);(· simp[leO,lt1,BE]);(· simp))
  | (refine hJ () _ (fun x=>if x=1 then 6 else 0) trivial ⟨rfl,?_,?_,?_,by simp⟩;(· simp[leT,ltV,lt1,ren,BE]);(· simp[leO,lt1,BE]);(· simp))
  | (refine hJ () _ (fun x=>if x=1 then 5 else 0) trivial ⟨rfl,?_,?_,?_,by simp⟩;(· simp[leT,ltV,lt1,ren,BE]);(· simp[leO,lt1,BE]);(· simp))
  | (refine hJ () _ (fun x=>if x=1 then 4 else 0) trivial ⟨rfl,?_,?_,?_,by simp⟩;(· simp[leT,ltV,lt1,ren,BE]);(· simp[leO,lt1,BE]);(· simp))
  | (refine hJ () _ (fun x=>if x=1 then 3 else 0) trivial ⟨rfl,?_,?_,?_,by simp⟩;(· simp[leT,ltV,lt1,ren,BE]);(· simp[leO,lt1,BE]);(· simp))
end Go.Proofs.YtjkmhmepljamoaaGreat
end
section
namespace Go.Proofs.YtjkmhmepljamoaaGreat.As
open Go.Ab Go.RowKit Tryz
def JU:List (List UInt8):=[[],[97,100,100],[115,117,98],[97,110,100],[111,114],[120,111,114],[115,104,108],[115,104,114],[115,97,114],[109,117,108],[100,105,118],[114,101,109],[115,108,116],[115,108,116,117],[],[],[97,100,100,105],[97,110,100,105],[111,114,105],[120,111,114,105],[115,104,108,105],[115,104,114,105],[115,97,114,105],[115,108,116,105],[108,117,105],[],[],[],[],[],[],[],[108,119],[108,98],[108,98,117],[115,119],[115,98],[],[],[],[98,101,113],[98,110,101],[98,108,116],[98,103,101],[98,108,116,117],[98,103,101,117],[],[],[106,97,108],[106,97,108,114],[],[],[],[],[],[],[101,99,97,108,108],[101,114,101,116],[99,115,114,114],[99,115,114,119],[105,110],[111,117,116],[119,102,105],[102,108,117,115,104],[104,97,108,116]]
def mnS(op:Int):List UInt8:=JU.getD op.toNat []
def Z0(r:Int):List UInt8:=[114]++Lib.itoa r
def Ia:List Str:=[[114,48],[114,49],[114,50],[114,51],[114,52],[114,53],[114,54],[114,55],[114,56],[114,57],[114,49,48],[114,49,49],[114,49,50],[114,49,51],[114,49,52],[114,49,53]]
theorem XA(i:Nat):Lib.itoa (i:Int)=Lib.decDigits i:=Lib.itoa_nonneg i
theorem H9:∀i<16,Z0 (i:Nat)=Ia.getD i []:=by
 intro i hi;unfold Z0;rw[XA];by_cases h:i<10
 ·rw[Lib.decDigits_one h];have:i=0\/i=1\/i=2\/i=3\/i=4\/i=5\/i=6\/i=7\/i=8\/i=9:=by omega
  rcases this with rfl|rfl|rfl|rfl|rfl|rfl|rfl|rfl|rfl|rfl<;>rfl
 rw[Lib.decDigits_two h (by omega)];have:i=10\/i=11\/i=12\/i=13\/i=14\/i=15:=by omega
 rcases this with rfl|rfl|rfl|rfl|rfl|rfl<;>rfl
def OG(s:Str):List Str->Nat->Option Nat
 | [],_=>none
 | x::r,i=>if s=x then some i else OG s r (i+1)
def ZZ(s:Str):Option Nat:=OG s Ia 0
theorem KZ(s:Str):∀(l:List Str)(k i:Nat),i<l.length->s=l.getD i []->(∀j,j<i->s≠l.getD j [])->OG s l k=some (k+i)
 | x::r,k,0,_,h,_=>by simp only[iC]at h;simp[OG,h]
 | x::r,k,i+1,hl,h,hno=>by
  have h0:=hno 0 (by omega);simp only[iC]at h0;simp only[OG,h0,if_false];rw[KZ s r (k+1) i (by simpa using hl) (by simpa using h) (fun j hj=>by simpa using hno (j+1) (by omega))];congr 1;omega
 | [],_,_,hl,_,_=>by simp at hl
theorem KY(s:Str):∀(l:List Str)(k:Nat),(∀j,j<l.length->s≠l.getD j [])->OG s l k=none
 | [],_,_=>rfl
 | x::r,k,hno=>by
  have h0:=hno 0 (by simp);simp only[iC]at h0;simp only[OG,h0,if_false];exact KY s r (k+1) fun j hj=>by simpa using hno (j+1) (by simpa using hj)
abbrev regV(s:Str):V:=.tup [.int .i64 ((ZZ s).getD 0:Nat),.bool (ZZ s).isSome]
theorem reg_at(s:Str)(i:Nat)(hi:i<16)(h:s=114::Lib.itoa i)(hno:∀k,k<i->s≠Z0 (k:Nat)):ZZ s=some i:=by
 have:=KZ s Ia 0 i hi (by rw[<- H9 i hi];exact h) (fun j hj=>by rw[<- H9 j (by omega)];exact hno j hj);simpa[ZZ]using this
theorem reg_no(s:Str)(hno:∀k,k<16->s≠Z0 (k:Nat)):ZZ s=none :=
 KY s Ia 0 fun j hj=>by rw[<- H9 j hj];exact hno j hj
def FY(l:List (Str×Int)):List (List V):=l.map fun p=>[.str p.1,.int .u32 p.2]
theorem VW(l:List (Str×Int))(s:Str)(n:Int):FY l++[[.str s,.int .u32 n]]=FY (l++[(s,n)]):=by simp[FY]
theorem N2(l:List (Str×Int)):(FY l).length=l.length:=by simp[FY]
def Js(s:Str):List (Str×Int)->Option Int
 | []=>none
 | x::r=>if x.1=s then some x.2 else Js s r
theorem KA{s:Str}{f i:Nat}(hf:f<=i)(hi:i<s.length):(s.take (i+1)).drop f=(s.take i).drop f++[s.getD i 0]:=by
 rw[List.take_add_one,List.drop_append,gP,gR hi,iD,show f-min i s.length=0 by omega];rfl
abbrev errV(e:Int×Int):V:=.st [.int .i64 e.1,.int .i64 e.2]
theorem Eh(op:Int):0<=AK op/\AK op<=9:=by
 unfold AK
 (repeat' split)<;>omega
theorem Sz:∀(k:Nat)(n:Int)(_:0<=n)(_:n<100)(_:n.toNat<=k),AC prog 344 [.int .u64 n] (.str (Lib.decDigits n.toNat)):=by
 intro k;induction k using Nat.strongRecOn with
 | _ k ih =>
  intro n h0 h1 hk;refine sX func344 ntmps344 ?_;intros;apply wr;refine AB rfl (fun h=>?_) (fun h=>?_)
  ·simp at h;obtain⟨d,hd,hb⟩:∃d:UInt8,d=UInt8.ofNat (48+n.toNat)/\IntKind.u8.wrap (IntKind.u64.wrap (48+n))=(d.toNat:Int):=⟨_,rfl,by
    rw[UInt8.toNat_ofNat',IntKind.wrap_u64,IntKind.wrap_u8];omega⟩
   have hB:Ch [V.int .u8 (d.toNat:Int)]:=⟨d,rfl⟩;have he:Lib.decDigits n.toNat=[d]:=by rw[Lib.decDigits_one (by omega),hd]
   refine au1 @hb ?_;refine ar ?_;simp[he]
  simp at h;obtain⟨d,hd,hb⟩:∃d:UInt8,d=UInt8.ofNat (48+n.toNat%10)/\IntKind.u8.wrap (IntKind.u64.wrap (48+n.tmod 10))=(d.toNat:Int):=⟨_,rfl,by
   rw[UInt8.toNat_ofNat',IntKind.wrap_u64,IntKind.wrap_u8,Int.tmod_eq_emod_of_nonneg h0];omega⟩
  have hB:Ch [V.int .u8 (d.toNat:Int)]:=⟨d,rfl⟩;have hq:IntKind.u64.wrap (n.tdiv 10)=n/10:=by rw[Int.tdiv_eq_ediv_of_nonneg h0,IntKind.wrap_u64];omega
  have hr:=ih (n/10).toNat (by omega) (n/10) (by omega) (by omega) (g8 _);have hl:(Lib.decDigits (n/10).toNat).length<=20:=by rw[Lib.decDigits_one (by omega)];simp
  have he:Lib.decDigits n.toNat=Lib.decDigits (n/10).toNat++[d]:=by
   rw[Lib.decDigits,dif_neg (by omega)];rw[show n.toNat/10=(n/10).toNat by omega,hd]
  refine au ?_;intros;apply wr;refine BH (.node 2 7 (.leaf [0,1,2,3,4,5,6,7,8,9,10] (bN [0,1,3,0,8,24,56,127,255,511,1023]) [(7,([[],[0],[0,1],[],[3],[3,4],[3,4,5]],[(6,2)])),(1,([],[])),(1,([],[])),(1,([],[])),(1,([],[]))]) (.leaf [0,1,3,4,5,6,7,2,8,9,10] (bN [0,1,0,4,12,28,60,127,124,511,1023]) [(9,([[],[0],[],[2],[2,3],[2,3,4],[2,3,4,5],[0,1,2,3,4,5,6],[2,3,4,5,6]],[(8,7)])),(1,([],[])),(1,([],[]))])) (by kernel_rfl) (by kernel_rfl) ?_;simp only[PT.run]
  repeat' (with_reducible apply And.intro)
  all_goals (simp only[CE,iI,List.map_nil,iC,iK];refine af1 (kX2 @hb @hq) ?_;intros;apply wr)
  all_goals ((first|refine .inl ⟨0,_,hr,?_⟩|refine .inl ⟨0,_,AC.wk (hr) (by simp),?_⟩|refine⟨0,_,hr,?_⟩|refine⟨0,_,AC.wk (hr) (by simp),?_⟩);(simp[C0,Cd]))
  all_goals ((refine af1 (kX2 @hb @hl) ?_);intros;(apply wr))
  all_goals ((refine BS ?_);(simp[he]))
theorem RB(n:Int)(h0:0<=n)(h1:n<16):AC prog 335 [.int .i64 n] (.str (Lib.itoa n)):=by
 have h:¬n<0:=by omega
 have e1:IntKind.u64.wrap n=n:=by rw[IntKind.wrap_u64];omega
 have he:Lib.itoa n=Lib.decDigits n.toNat:=if_neg h;have hd:=Sz n.toNat n (by omega) (by omega) (g8 _);refine sX func335 ntmps335 ?_;refine EP @h @e1 ?_;refine cc1 (hd) @e1 ?_;refine au ?_;refine ar ?_;simp[he]
theorem Gk(lo hi:Nat)(op:Int)(hh:hi<65)(h1:(lo:Int)<=op)(h2:op<=(hi:Int)):
  (((JU.drop lo).take (hi-lo+1)).map fun s=>[V.str s])[(op-lo).toNat]? =some [.str (mnS op)]:=by
 have e:lo+(op-lo).toNat=op.toNat:=by omega
 rw[iG,List.getElem?_take_of_lt (by omega),iP,e,mnS,gP,gR (show op.toNat<JU.length from Nat.lt_of_le_of_lt (by omega) hh)];rfl
set_option maxHeartbeats 16000000 in
theorem JV(op:Int):AC prog 285 [.int .i64 op] (.str (mnS op)):=by
 refine sX func285 ntmps285 ?_;intros;apply wr;refine AB rfl (fun h=>?_) (fun h=>?_)
 ·simp at h;have hw:IntKind.i64.wrap (op-1)=op-1:=AA;have hx:=Gk 1 13 op (by decide) h.1 h.2;simp[JU]at hx;refine au1 (kX2 @hw @hx) ?_;refine ar ?_;simp
 simp at h;refine au ?_;intros;apply wr;refine AB rfl (fun h=>?_) (fun h=>?_)
 ·simp at h;have hw:IntKind.i64.wrap (op-16)=op-16:=AA;have hx:=Gk 16 24 op (by decide) h.1 h.2;simp[JU]at hx;refine au1 (kX2 @hw @hx) ?_;refine ar ?_;simp
 simp at h;refine au ?_;intros;apply wr;refine AB rfl (fun h=>?_) (fun h=>?_)
 ·simp at h;have hw:IntKind.i64.wrap (op-32)=op-32:=AA;have hx:=Gk 32 36 op (by decide) h.1 h.2;simp[JU]at hx;refine au1 (kX2 @hw @hx) ?_;refine ar ?_;simp
 simp at h;refine au ?_;intros;apply wr;refine AB rfl (fun h=>?_) (fun h=>?_)
 ·simp at h;have hw:IntKind.i64.wrap (op-40)=op-40:=AA;have hx:=Gk 40 45 op (by decide) h.1 h.2;simp[JU]at hx;refine au1 (kX2 @hw @hx) ?_;refine ar ?_;simp
 simp at h;refine au ?_;intros;apply wr;refine AB rfl (fun h=>?_) (fun h=>?_)
 ·simp at h;subst h;refine au ?_;refine ar ?_;simp[mnS,JU]
 simp at h;refine au ?_;intros;apply wr;refine AB rfl (fun h=>?_) (fun h=>?_)
 ·simp at h;subst h;refine au ?_;refine ar ?_;simp[mnS,JU]
 simp at h;refine au ?_;intros;apply wr;refine AB rfl (fun h=>?_) (fun h=>?_)
 ·simp at h;have hw:IntKind.i64.wrap (op-56)=op-56:=AA;have hx:=Gk 56 64 op (by decide) h.1 h.2;simp[JU]at hx;refine au1 (kX2 @hw @hx) ?_;refine ar ?_;simp
 simp at h;refine au ?_;have hn:mnS op=[]:=by
  unfold mnS;rcases Nat.lt_or_ge op.toNat 65 with q|q
  ·exact(by decide:∀n<65,AK (n:Nat)=0->JU.getD n []=[]) _ q (by unfold AK;(repeat rw[nG]))
  rw[gP,iV q];rfl
 refine ar ?_;simp[hn]
theorem reg_ok(r:Int)(h0:0<=r)(h1:r<16):AC prog 320 [.int .i64 r] (.str (Z0 r)):=by
 have hl:=Lib.itoa_length_le r (by omega) (by omega);refine sX func320 ntmps320 ?_;refine cY (RB r h0 h1) @hl ?_;refine ar ?_;simp[Z0]
def SN(c:UInt8):Bool:=decide (97<=c.toNat)&&decide (c.toNat<=122)
def RD(c:UInt8):Bool:=decide (48<=c.toNat)&&decide (c.toNat<=57)
theorem Dw(c:UInt8):AC prog 281 [.int .u8 c.toNat] (.bool (SN c)):=by
 refine sX func281 ntmps281 ?_;intros;apply wr;refine ar ?_;simp[SN];try (rw[Bool.eq_iff_iff];simp;try omega)
theorem digit_ok(c:UInt8):AC prog 282 [.int .u8 c.toNat] (.bool (RD c)):=by
 refine sX func282 ntmps282 ?_;intros;apply wr;refine ar ?_;simp[RD];try (rw[Bool.eq_iff_iff];simp;try omega)
set_option maxHeartbeats 4000000 in
theorem QM(s:Str):AC prog 283 [.str s] (regV s):=by
 refine sX func283 ntmps283 ?_;intros;apply wr;obtain⟨I,hI⟩:∃I:Nat->St->Prop,I=(fun kk ss=>∃(i:Nat),i<=16/\kk=16-i/\((∀k,k<i->s≠Z0 (k:Nat)))/\ss=⟨14,[(4,.int .i64 i),(0,.str s)],0,[],0⟩):=⟨_,rfl⟩;refine lX I (id) (by rw[hI];exact⟨0,by simp,rfl,(by intro k hk;omega),rfl⟩) ?_;intro kk ss hIk _;rw[hI]at hIk;obtain⟨i,hi,rfl,hx,rfl⟩:=hIk;have hw:IntKind.i64.wrap ((i:Int)+1)=((i+1:Nat):Int):=by rw[AA];omega
 refine au ?_;intros;apply wr;refine AB rfl (fun h=>?_) (fun h=>?_)
 ·simp at h;refine au ?_;refine cX (reg_ok (i:Int) (by omega) (by omega)) ?_;intros;apply wr;refine AB rfl (fun h2=>?_) (fun h2=>?_)
  ·simp at h2;refine au ?_;refine ar ?_;simp[reg_at s i (by omega) h2 hx]
  simp at h2;have hx2:∀k,k<i+1->s≠Z0 (k:Nat):=fun k hk=>by
   by_cases e:k=i
   ·subst e;exact h2
   exact hx k (by omega)
  refine au ?_;intros;apply wr;exact aX (id) (by rw[hI];exact⟨i+1,by omega,rfl,hx2,rfl⟩) (kX2 (AA (n:=(i:Int)+1)) @hw)
 simp at h;have hi:i=16:=by omega
 subst hi;refine au ?_;refine ar ?_;simp[reg_no s hx]
def UC(s:Str):Bool:=decide (1<=s.length)&&decide (s.length<=12)&&SN (s.getD 0 0)&&(ZZ s).isNone
set_option maxHeartbeats 4000000 in
theorem H4(s:Str):AC prog 218 [.str s] (.bool (UC s)):=by
 refine sX func218 ntmps218 ?_;refine cX (QM s) ?_;intros;apply wr;first|refine B0 (Dw (s.getD 0 0)) rfl (fun hgd=>?_) (by simp[BY]) ?_|refine BI (Dw (s.getD 0 0)) rfl (by simp) (fun hgd=>?_) (by simp[BY]) ?_
 all_goals simp
 all_goals (try (first|exact hgd|(simp at hgd;first|done|assumption|grind)))
 refine au ?_;have e1:decide ((1:Int)<=(s.length:Int))=decide (1<=s.length):=decide_eq_decide.2 (by omega);have e2:decide ((s.length:Int)<=12)=decide (s.length<=12):=decide_eq_decide.2 (by omega);refine ar ?_;simp[UC,e1,e2]
def opF(s:Str):Nat->Nat->Nat
 | 0,_=>0
 | k+1,op=>if AK (op:Nat)≠0/\mnS (op:Nat)=s then op else opF s k (op+1)
def opD(s:Str):Nat:=opF s 64 1
set_option maxHeartbeats 4000000 in
theorem Hu(s:Str):AC prog 221 [.str s] (.int .i64 (opD s)):=by
 refine sX func221 ntmps221 ?_;intros;apply wr;obtain⟨I,hI⟩:∃I:Nat->St->Prop,I=(fun kk ss=>∃(i:Nat),i<=64/\kk=64-i/\(opD s=opF s (64-i) (i+1))/\ss=⟨18,[(3,.int .i64 (i+1:Nat)),(0,.str s)],0,[],0⟩):=⟨_,rfl⟩;refine lX I (id) (by rw[hI];exact⟨0,by simp,rfl,rfl,rfl⟩) ?_;intro kk ss hIk _;rw[hI]at hIk;obtain⟨i,hi,rfl,hx,rfl⟩:=hIk;have hw:IntKind.i64.wrap ((i:Int)+1+1)=(i:Int)+1+1:=AA;refine au ?_;intros;apply wr;refine AB rfl (fun h=>?_) (fun h=>?_)
 ·simp at h;have hst:opF s (64-i) (i+1)=if AK ((i+1:Nat):Int)≠0/\mnS ((i+1:Nat):Int)=s then i+1 else opF s (64-(i+1)) (i+1+1):=by
   rw[show 64-i=(64-(i+1))+1 by omega];rfl
  rw[hst]at hx;have hc:((i+1:Nat):Int)=(i:Int)+1:=by omega
  rw[hc]at hx;have hfr:=Eh ((i:Int)+1);refine au ?_;refine cX (JH ((i:Int)+1)) ?_;intros;apply wr;first|refine B0 (JV ((i:Int)+1)) rfl (fun hgd=>?_) (by simp[BY]) ?_|refine BI (JV ((i:Int)+1)) rfl (by simp) (fun hgd=>?_) (by simp[BY]) ?_
  all_goals simp
  all_goals (try (first|exact hgd|(simp at hgd;first|done|assumption|grind)))
  refine au ?_;intros;apply wr;refine AB rfl (fun h2=>?_) (fun h2=>?_)
  ·have hq:AK ((i:Int)+1)≠0/\mnS ((i:Int)+1)=s:=by
    simp at h2;exact⟨by omega,h2.2⟩
   rw[if_pos hq]at hx;refine au ?_;refine ar ?_;simp[hx]
  have hq:¬(AK ((i:Int)+1)≠0/\mnS ((i:Int)+1)=s):=by
   intro hq;simp at h2;exact h2 (by omega) hq.2
  rw[if_neg hq]at hx;refine au1 @hw ?_;intros;apply wr;exact aX (id) (by rw[hI];exact⟨i+1,by omega,rfl,hx,rfl⟩) (kX2 (AA (n:=(i:Int)+1)) @hw)
 simp at h;have hi:i=64:=by omega
 subst hi;refine au ?_;refine ar ?_;simp[hx,opF]
def patT:List (Str×Int×Str):=[([108,105],0,[114,44,120]),([99,115,114,119],59,[114,44,110]),([115,104,108,105],20,[114,44,114,44,110]),([111,114,105],18,[114,44,114,44,110]),([97,100,100],1,[114,44,114,44,114]),([115,119],35,[114,44,110,40,114,41]),([97,100,100,105],16,[114,44,114,44,110]),([98,108,116],42,[114,44,114,44,120]),([111,117,116],61,[114,44,110]),([101,114,101,116],57,[]),([99,115,114,114],58,[114,44,110]),([115,108,116,105],23,[114,44,114,44,110]),([98,101,113],40,[114,44,114,44,120]),([105,110],60,[114,44,110]),([97,110,100,105],17,[114,44,114,44,110])]
def patR(s:Str):Option Str:=(patT.find? fun x=>x.1==s).map fun x=>x.2.2
theorem dC:∀x∈patT,(opD x.1:Int)=x.2.1:=by decide +kernel
set_option maxHeartbeats 16000000 in
theorem pat_ok:∀x∈patT,AC prog 219 [.str x.1] (.tup [.str x.2.2,.bool true]):=by
 intro x hx;have ho:=dC x hx;have hc:=Hu x.1;rw[ho]at hc;have hf:=JH x.2.1;simp only[patT,List.mem_cons,List.not_mem_nil,or_false]at hx;rcases hx with rfl|rfl|rfl|rfl|rfl|rfl|rfl|rfl|rfl|rfl|rfl|rfl|rfl|rfl|rfl;all_goals simp only at hc hf ⊢
 all_goals ((refine sX func219 ntmps219 ?_);intros;(apply wr))
 all_goals ((refine cc (hc) ?_))
 all_goals ((exact wx1 (qX1 (hf)) trivial @AK.eq_1))
theorem Re{s p:Str}(h:patR s=some p):AC prog 219 [.str s] (.tup [.str p,.bool true]):=by
 obtain⟨x,hx,rfl⟩:=Option.map_eq_some_iff.1 h;have e:=List.find?_some hx;simp only[beq_iff_eq]at e;subst e;exact pat_ok x (List.mem_of_find?_eq_some hx)
end Go.Proofs.YtjkmhmepljamoaaGreat.As
end
