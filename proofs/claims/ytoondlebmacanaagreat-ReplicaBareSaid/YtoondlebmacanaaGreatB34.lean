/- A part of the proof of ReplicaBare+ReplicaWindow. -/
import Derived.Test.YtoondlebmacanaaGreatB03
import Derived.Test.YtoondlebmacanaaGreatB06
import Derived.Test.YtoondlebmacanaaGreatB16
import Derived.Test.YtoondlebmacanaaGreatB18
import Derived.Test.YtoondlebmacanaaGreatB20
import Derived.Test.YtoondlebmacanaaGreatB30
import Derived.Test.YtoondlebmacanaaGreatB31
import Derived.Test.YtoondlebmacanaaGreatB33
set_option linter.unusedSimpArgs false
set_option linter.unusedVariables false
set_option maxHeartbeats 16000000
set_option maxRecDepth 100000
section
namespace Go.Proofs.YtoondlebmacanaaGreat.As
open Go.Ab Go.RowKit
def zSD (a:List ArgD):ArgD:=a.getD (a.length-1) arg0
def valR (S:List (Str × Int)) (st:StD):Option Int :=
 if (zSD st.l).2.2=[] then some (zSD st.l).2.1
 else (zEc (zSD st.l).2.2 S).map fun a=>if 0<st.op then a.tdiv 4-st.at' else a
def encE (i:InstD):Int:=if validD i then encW i else 0
def codR (st:StD) (v:Int):Option (List Int) :=
 if st.what=zTY then some [v % 4294967296]
 else if st.what=zMe then some (List.replicate st.size.toNat 0)
 else if st.what=liWd then some [encE ⟨24,(st.l.getD 0 arg0).1,0,0,v % 4294967296 / 65536⟩,encE ⟨18,(st.l.getD 0 arg0).1,(st.l.getD 0 arg0).1,0,v % 65536⟩]
 else if st.what=mvW then some [encE ⟨16,(st.l.getD 0 arg0).1,(st.l.getD 1 arg0).1,0,0⟩]
 else if st.what=nopW then some [encE ⟨16,0,0,0,0⟩]
 else (zIM st.op st.l v).map fun w=>[w]
def zGv (S:List (Str × Int)):List StD→List Int→Except (Int × Int) (List Int)
 | [],out=>.ok out
 | st::r,out=>match valR S st with
  | none=>.error (302,st.line)
  | some v=>match codR st v with
   | none=>.error (304,st.line)
   | some w=>zGv S r (out++w)
def asmR (s:Str):Except (Int × Int) (List Int):=match zHK s with
 | .error e=>.error e
 | .ok p=>zGv p.syms p.sts []
def zHC (s:Str):V:=match asmR s with
 | .error e=>.tup [.sl 1 true [],errV e]
 | .ok out=>.tup [.new 25 1 (ints .u32 out),errV (0,0)]
theorem zWG (l:List StD) (i:Nat) (h:i<l.length):(stsV l)[i]? =some l[i].row:=by simp [stsV,h]
theorem zMQ:∀ {L:List Str} {n e m:Int} {p:PrR},redF L n p=.error (e,m)→e≠0
 | [],n,e,m,p,h=>by simp [redF] at h
 | t::ts,n,e,m,p,h=>by
  simp only [redF] at h;split at h
  ·simp only [Except.error.injEq,Prod.mk.injEq] at h;omega
  split at h
  ·simp only [Except.error.injEq,Prod.mk.injEq] at h;omega
  split at h
  ·simp only [Except.error.injEq,Prod.mk.injEq] at h;omega
  exact zMQ h
theorem zQB {s:Str} {e n:Int} (h:zHK s=.error (e,n)):e≠0:=by
 unfold zHK at h;split at h
 ·simp only [Except.error.injEq,Prod.mk.injEq] at h;omega
 exact zMQ h
theorem zEH (i:InstD) (hi:-2147483648≤i.imm∧i.imm≤2147483647):zAD Tryz.prog 89 [.st i.row] (.tup [.int .u32 (encE i),.bool (validD i)]):=zEI i hi
theorem zDz (k:IntKind) (l:List Int) (x:Int):ints k l++[[V.int k x]]=ints k (l++[x]):=by simp [ints]
theorem zR7 (k:IntKind) (l:List Int) (x y:Int):ints k l++[[V.int k x],[V.int k y]]=ints k (l++[x,y]):=by simp [ints]
set_option maxHeartbeats 32000000 in
theorem zI0 (s:Str) (hsl:s.length≤999999):zAD Tryz.prog 36 [.str s] (zHC s):=by
 refine sX Tryz.func36 Tryz.ntmps36 ?_;(repeat intro K hK);apply wr
 have hrd:=zVg s (by omega)
 unfold zE7 at hrd;cases hr:zHK s with
 | error e =>
  obtain ⟨e,n⟩:=e;rw [hr] at hrd;have hne:e≠0:=zQB hr;have hv:zHC s=.tup [.sl 1 true [],errV (e,n)]:=by unfold zHC asmR;rw [hr]
  refine cX (hrd) ?_;(repeat intro K hK);apply wr
  refine gT10 @hne rfl ?_;(repeat intro K hK);apply wr
  refine zAG 3 [0,0,3] [(2,([[],[]],[])),(1,([],[]))] ?_;refine af ?_;(repeat intro K hK);apply wr
  refine af ?_;(repeat intro K hK);apply wr
  refine zAI ?_;refine zAA ?_;simp [hv]
 | ok p =>
  obtain ⟨hg,hpl,hsyl⟩:=zNo hr;rw [hr] at hrd;have ha:asmR s=zGv p.syms p.sts []:=by unfold asmR;rw [hr]
  obtain ⟨S,T,w⟩:=p;simp only at hrd ha hpl hsyl;refine cXf (hrd) ?_;(repeat intro K hK);apply wr
  refine zBE rfl ?_;(repeat intro K hK);apply wr
  refine zAW 7 25 1 (by decide) rfl ?_
  simp;obtain ⟨I,hI⟩:∃ I:Nat→St→Prop,I=(fun kk ss=>∃ (i:Nat) (out:List Int),i≤T.length∧kk=T.length-i∧(zGv S T []=zGv S (T.drop i) out∧out.length≤1024*i)∧ss=⟨194,[(8,.int .i64 i),(7,.own 1),(5,.sl 6 false (stsV T)),(4,.sl 2 false (zDB S)),(3,.ptr 0 2 0 0)],2,[(0,some ⟨115,2,true,false,[[.int .i64 0,.int .i64 0]]⟩),(1,some ⟨25,1,false,false,ints .u32 out⟩)],0⟩):=⟨_,rfl⟩
  refine lX I (fun x=>if x=1 then 6 else x) (by rw [hI];exact ⟨0,[],by simp,rfl,by simp,rfl⟩) ?_
  intro kk ss hIk _
  rw [hI] at hIk;obtain ⟨i,out,hi,rfl,hx,rfl⟩:=hIk;obtain ⟨hx,hol⟩:=hx;have hTl:=zMp T;have hw:IntKind.i64.wrap ((i:Int)+1)=(i:Int)+1:=zAB (by omega) (by omega)
  refine af1 @hTl ?_;(repeat intro K hK);apply wr
  by_cases hi':i<T.length
  ·obtain ⟨st,hst⟩:∃ st,st=T[i]:=⟨_,rfl⟩;have hstm:st∈T:=by rw [hst];exact zW4 hi'
   obtain ⟨gS,ga1,ga2⟩:=hg.1 st hstm;have hget:(stsV T)[i]? =some st.row:=by rw [hst];exact zWG T i hi'
   have hdr:T.drop i=st::T.drop (i+1):=by rw [List.drop_eq_getElem_cons hi',hst]
   rw [hdr,zGv] at hx;have hal:=zIz st.l;have hl6:=gS.1;refine cT1 @hi' rfl ?_
   iterate 12 (first|(with_reducible first|refine zA6 fun K hK=>?_|refine zAu ?_)|((with_reducible first|refine zAk (by kernel_rfl) ?_|refine zBC ?_|refine zA9 ?_|refine zBB ?_|refine zBA ?_|refine zCt ?_|refine zCq ?_|refine zCs ?_|refine zCr ?_|refine zA7 ?_|refine zA5 ?_);simp [hget,hTl])|((repeat ((fail_if_success ((with_reducible first|refine hK _ ?_|refine hK _ _ _ _ ?_)));clear hK));(with_reducible first|refine hK _ ?_|refine hK _ _ _ _ ?_);clear hK)|(with_reducible refine zDd fun K hK=>?_;simp [hget,hTl])|(with_reducible refine zDc ?_;try simp only [thn,blk])|(with_reducible refine zDe fun K hK=>?_;simp only [List.take_succ_cons,List.take_zero])|(with_reducible refine zCo fun K hK=>?_;simp [hget,hTl])|(with_reducible refine zDT ?_)|(with_reducible refine zCy ?_;simp only [List.drop_succ_cons,List.drop_zero];simp only [stS,eT,eO,zWz,List.nil_append,cond_true,cond_false,Bool.and_true,Bool.and_false,Bool.true_and,Bool.false_and])|(with_reducible refine zCG ?_ ?_;(· (simp [hget,hTl]<;>first|omega|grind)))|refine And.intro (by first|omega|assumption|grind) ?_)
   refine zBe (α:=Int) (fun v=>(⟨194,[(10,.int .i64 v),(9,.ptr 2 6 0 0),(8,.int .i64 i),(7,.own 1),(5,.sl 6 false (stsV T)),(4,.sl 2 false (zDB S)),(3,.ptr 0 2 0 0)],3,[(0,some ⟨115,2,true,false,[[.int .i64 0,.int .i64 0]]⟩),(1,some ⟨25,1,false,false,ints .u32 out⟩),(2,some ⟨182,6,true,false,[[.str st.what,.int .i64 st.op,.sl 3 false (zDk st.l),.int .i64 st.line,.int .i64 st.at',.int .i64 st.size]]⟩)],0⟩:St)) (fun v=>valR S st=some v∧-4294967296≤v∧v≤4294967296) hK (fun v hxhV=>?_) (fun hV=>?_)
   all_goals clear hK
   ·obtain ⟨hvr,hv1,hv2⟩:=hxhV;rw [hvr] at hx;simp only at hx;have hu:IntKind.u32.wrap v=v % 4294967296:=IntKind.wrap_u32 v;have hil:=zLy .u32 out;have hmx:(ints .u32 out).length+1≤maxLen:=by rw [hil];simp [maxLen];omega
    have hm4:(out.length+1)*4≤140737488355328:=by omega
    refine af ?_;(repeat intro K hK);apply wr
    by_cases w1:st.what=zTY
    ·have hc:codR st v=some [v % 4294967296]:=by unfold codR;rw [if_pos w1]
     refine cT1 @w1 rfl ?_;rw [hc] at hx;simp only at hx;have hap:=zDz .u32 out (v % 4294967296);refine af1 (kX5 @hu @hmx @hm4 @hap @hil) ?_;(repeat intro K hK);apply wr
     exact aX (fun x=>if x=1 then 4 else x) (by rw [hI];exact ⟨i+1,(out++[v % 4294967296]),by omega,rfl,⟨hx,by simp;omega⟩,rfl⟩) (kX3 (zAB (n:=(i:Int)+1) (by omega) (by omega)) @hw @hap)
    refine zAi @w1 rfl ?_;(repeat intro K hK);apply wr
    by_cases w2:st.what=zMe
    ·obtain ⟨⟨hs0,hs1⟩,_⟩:=gS.2;obtain ⟨z,hz⟩:∃ z:Nat,z=st.size.toNat:=⟨_,rfl⟩;have hzs:st.size=(z:Int):=by omega
     have hc:codR st v=some (List.replicate z 0):=by unfold codR;rw [if_neg w1,if_pos w2,hz]
     rw [hc] at hx;simp only at hx;refine zDl @w2 rfl ?_;(repeat intro K hK);apply wr
     obtain ⟨Ij,hIj⟩:∃ I:Nat→St→Prop,I=(fun kk ss=>∃ (j:Nat) ,j≤z∧kk=z-j∧(True)∧ss=⟨194,[(14,.int .i64 j),(10,.int .i64 v),(9,.ptr 2 6 0 0),(8,.int .i64 i),(7,.own 1),(5,.sl 6 false (stsV T)),(4,.sl 2 false (zDB S)),(3,.ptr 0 2 0 0)],3,[(0,some ⟨115,2,true,false,[[.int .i64 0,.int .i64 0]]⟩),(1,some ⟨25,1,false,false,ints .u32 (out++List.replicate j 0)⟩),(2,some ⟨182,6,true,false,[[.str st.what,.int .i64 st.op,.sl 3 false (zDk st.l),.int .i64 st.line,.int .i64 st.at',.int .i64 st.size]]⟩)],0⟩):=⟨_,rfl⟩
     refine lX Ij (id) (by rw [hIj];exact ⟨0,by simp,rfl,trivial,rfl⟩) ?_
     intro kk ss hIk _
     rw [hIj] at hIk;obtain ⟨j,hj,rfl,hxj,rfl⟩:=hIk;have hwj:IntKind.i64.wrap ((j:Int)+1)=(j:Int)+1:=zAB (by omega) (by omega)
     have hil2:=zLy .u32 (out++List.replicate j 0);rw [zWj,List.length_replicate] at hil2;have hmx2:(ints .u32 (out++List.replicate j 0)).length+1≤maxLen:=by rw [hil2];simp [maxLen];omega
     have hm42:(out.length+j+1)*4≤140737488355328:=by omega
     have hap2:=zDz .u32 (out++List.replicate j 0) 0;have hrp:out++List.replicate j (0:Int)++[0]=out++List.replicate (j+1) 0:=by rw [zWu,List.replicate_succ']
     rw [hrp] at hap2;obtain ⟨o2,ho2⟩:∃ o2,o2=out++List.replicate j (0:Int):=⟨_,rfl⟩;rw [← ho2] at hil2 hmx2 hap2 ⊢;refine af1 @hzs ?_;(repeat intro K hK);apply wr
     by_cases hj':j<z
     ·refine zBv @hj' rfl (kX4 @hil2 @hmx2 @hm42 @hap2) ?_;(repeat intro K hK);apply wr
      exact aX (fun x=>if x=1 then 4 else x) (by rw [hIj];exact ⟨j+1,by omega,rfl,trivial,rfl⟩) (kX4 (zAB (n:=(j:Int)+1) (by omega) (by omega)) @hwj @hap2 @hzs)
     have hjz:j=z:=by omega
     subst hjz;rw [← ho2] at hx;refine zAi @hj' rfl ?_;(repeat intro K hK);apply wr
     exact aX (id) (by rw [hI];exact ⟨i+1,o2,by omega,rfl,⟨hx,by rw [ho2];simp;omega⟩,rfl⟩) (kX2 (zAB (n:=(i:Int)+1) (by omega) (by omega)) @hw)
    refine zAi @w2 rfl ?_;(repeat intro K hK);apply wr
    by_cases w3:st.what=liWd
    ·have g0:=zBn st.l 0 (by have:=gS.2.2.2.1 w3;omega)
     have hd1:IntKind.i32.wrap (v % 4294967296 / 65536)=v % 4294967296 / 65536:=by rw [IntKind.wrap_i32];omega
     have hd2:IntKind.i32.wrap (v % 4294967296 % 65536)=v % 4294967296 % 65536:=by rw [IntKind.wrap_i32];omega
     have hfd:(v % 4294967296).fdiv 65536=v % 4294967296 / 65536:=zWZ _ (by decide)
     have hc:codR st v=some [encE ⟨24,(st.l.getD 0 arg0).1,0,0,v % 4294967296 / 65536⟩,encE ⟨18,(st.l.getD 0 arg0).1,(st.l.getD 0 arg0).1,0,v % 65536⟩]:=by unfold codR;rw [if_neg w1,if_neg w2,if_pos w3]
     generalize st.l.getD 0 arg0=r at g0 hc;rw [hc] at hx;simp only at hx;have hdf:IntKind.i32.wrap ((v % 4294967296).fdiv 65536)=v % 4294967296 / 65536:=by rw [hfd,hd1]
     have hd2':IntKind.i32.wrap (v % 4294967296 % 65536)=v % 65536:=by rw [hd2];omega
     have hdm:IntKind.i32.wrap (IntKind.u32.wrap ((BitVec.ofInt 32 (v % 4294967296) &&& 65535#32).toNat:Int))=v % 65536:=by
      have:=zAY (v % 4294967296) 16 65536 (by decide) (by decide)
      rw [show BitVec.ofNat 32 (65536-1)=65535#32 from rfl] at this
      rw [this,show ((65536:Nat):Int)=65536 from rfl];exact hd2'
     have hem:zAD Tryz.prog 89 [.st [.int .i64 18,.int .i64 r.1,.int .i64 r.1,.int .i64 0,.int .i32 (IntKind.i32.wrap (IntKind.u32.wrap ((BitVec.ofInt 32 (v % 4294967296) &&& 65535#32).toNat:Int)))]] (.tup [.int .u32 (encE ⟨18,r.1,r.1,0,v % 65536⟩),.bool (validD ⟨18,r.1,r.1,0,v % 65536⟩)]):=by
      rw [hdm];exact zEH ⟨18,r.1,r.1,0,v % 65536⟩ ⟨by simp only;omega,by simp only;omega⟩
     have hm42:(out.length+2)*4≤140737488355328:=by omega
     have hmx2:(ints .u32 out).length+2≤maxLen:=by rw [hil];simp [maxLen];omega
     refine zBv @w3 rfl (kX3 @g0 @hu @hal) ?_;(repeat intro K hK);apply wr
     simp only [hdf];refine cXf (zEH ⟨24,r.1,0,0,v % 4294967296 / 65536⟩ ⟨by simp only;omega,by simp only;omega⟩) ?_;(repeat intro K hK);apply wr
     refine zAG 21 [0,1,3,7,15,0,32,96,224,480,0,1024,3072,7168,16383,32767,65535,131071,131071,262143,1048575] [(14,([[],[0],[0,1],[0,1,2],[0,1,2,3],[],[5],[5,6],[5,6,7],[5,6,7,8],[],[10],[10,11],[10,11,12]],[])),(1,([],[])),(1,([],[])),(1,([],[])),(3,([[],[],[0]],[])),(1,([],[]))] ?_;refine af1 (kX3 @g0 @hu @hal) ?_;(repeat intro K hK);apply wr
     refine cc (hem) ?_;have hap:=zR7 .u32 out (encE ⟨24,r.1,0,0,v % 4294967296 / 65536⟩) (encE ⟨18,r.1,r.1,0,v % 65536⟩);refine af1 (kX5 @hu @hmx2 @hm42 @hap @hil) ?_;(repeat intro K hK);apply wr
     exact aX (fun x=>if x=1 then 8 else x) (by rw [hI];exact ⟨i+1,(out++[encE ⟨24,r.1,0,0,v % 4294967296 / 65536⟩,encE ⟨18,r.1,r.1,0,v % 65536⟩]),by omega,rfl,⟨hx,by simp;omega⟩,rfl⟩) (kX3 (zAB (n:=(i:Int)+1) (by omega) (by omega)) @hw @hap)
    refine zAi @w3 rfl ?_;(repeat intro K hK);apply wr
    by_cases w4:st.what=mvW
    ·have g0:=zBn st.l 0 (by have:=gS.2.2.2.2.1 w4;omega)
     have g1:=zBn st.l 1 (by have:=gS.2.2.2.2.1 w4;omega)
     have hc:codR st v=some [encE ⟨16,(st.l.getD 0 arg0).1,(st.l.getD 1 arg0).1,0,0⟩]:=by unfold codR;rw [if_neg w1,if_neg w2,if_neg w3,if_pos w4]
     generalize st.l.getD 0 arg0=r at g0 hc;generalize st.l.getD 1 arg0=q at g1 hc;refine zDl @w4 rfl ?_;(repeat intro K hK);apply wr
     refine zAG 17 [0,1,3,7,15,0,32,96,224,480,1023,2047,4095,8191,8191,16383,65535] [(10,([[],[0],[0,1],[0,1,2],[0,1,2,3],[],[5],[5,6],[5,6,7],[5,6,7,8]],[])),(1,([],[])),(1,([],[])),(1,([],[])),(3,([[],[],[0]],[])),(1,([],[]))] ?_;refine af1 (kX2 @g0 @g1) ?_;(repeat intro K hK);apply wr
     refine af1 (kX2 @g0 @g1) ?_;(repeat intro K hK);apply wr
     refine cc (zEH ⟨16,r.1,q.1,0,0⟩ ⟨by simp only;omega,by simp only;omega⟩) ?_
     rw [hc] at hx;simp only at hx;have hap:=zDz .u32 out (encE ⟨16,r.1,q.1,0,0⟩);refine af1 (kX5 @hu @hmx @hm4 @hap @hil) ?_;(repeat intro K hK);apply wr
     exact aX (fun x=>if x=1 then 6 else x) (by rw [hI];exact ⟨i+1,(out++[encE ⟨16,r.1,q.1,0,0⟩]),by omega,rfl,⟨hx,by simp;omega⟩,rfl⟩) (kX3 (zAB (n:=(i:Int)+1) (by omega) (by omega)) @hw @hap)
    refine zAi @w4 rfl ?_;(repeat intro K hK);apply wr
    by_cases w5:st.what=nopW
    ·refine zDl @w5 rfl ?_;(repeat intro K hK);apply wr
     refine cc (zEH ⟨16,0,0,0,0⟩ ⟨by decide,by decide⟩) ?_
     have hc:codR st v=some [encE ⟨16,0,0,0,0⟩]:=by unfold codR;rw [if_neg w1,if_neg w2,if_neg w3,if_neg w4,if_pos w5]
     rw [hc] at hx;simp only at hx;have hap:=zDz .u32 out (encE ⟨16,0,0,0,0⟩);refine af1 (kX5 @hu @hmx @hm4 @hap @hil) ?_;(repeat intro K hK);apply wr
     exact aX (fun x=>if x=1 then 6 else x) (by rw [hI];exact ⟨i+1,(out++[encE ⟨16,0,0,0,0⟩]),by omega,rfl,⟨hx,by simp;omega⟩,rfl⟩) (kX3 (zAB (n:=(i:Int)+1) (by omega) (by omega)) @hw @hap)
    have hio:=zKm st v (gS.2.2.2.2.2 w1 w2 w3 w4 w5);have hc:codR st v=(zIM st.op st.l v).map fun w=>[w]:=by unfold codR;rw [if_neg w1,if_neg w2,if_neg w3,if_neg w4,if_neg w5]
    unfold zHH at hio;refine zAi @w5 rfl ?_;(repeat intro K hK);apply wr
    refine cXf (hio) ?_;(repeat intro K hK);apply wr
    cases hir:zIM st.op st.l v with
    | none =>
     rw [hir] at hc;rw [hc] at hx;have hv:zHC s=.tup [.sl 1 true [],errV (304,st.line)]:=by unfold zHC;rw [ha,hx];rfl
     refine zDl @hir rfl ?_;(repeat intro K hK);apply wr
     refine zAG 5 [0,1,3,0,15] [(4,([[],[0],[0,1],[]],[])),(1,([],[]))] ?_;refine af ?_;(repeat intro K hK);apply wr
     refine af ?_;(repeat intro K hK);apply wr
     refine zAI ?_;refine zAA ?_;simp [hv]
    | some wd =>
     rw [hir] at hc;simp only [Option.map_some] at hc;refine zDE @hir rfl @hir ?_;(repeat intro K hK);apply wr
     rw [hc] at hx;simp only at hx;have hap:=zDz .u32 out (wd);refine af1 (kX5 @hu @hmx @hm4 @hap @hil) ?_;(repeat intro K hK);apply wr
     exact aX (fun x=>if x=1 then 6 else x) (by rw [hI];exact ⟨i+1,(out++[wd]),by omega,rfl,⟨hx,by simp;omega⟩,rfl⟩) (kX3 (zAB (n:=(i:Int)+1) (by omega) (by omega)) @hw @hap)
   by_cases hl0:st.l.length=0
   ·have hvr:valR S st=some 0:=by
     have:st.l=[]:=zWk hl0;simp [valR,zSD,this]
    have hl0':¬ (0:Int)<(st.l.length:Int):=by omega
    refine af1 @hal ?_;(repeat intro K hK);apply wr
    refine zAi @hl0 rfl ?_;(repeat intro K hK);apply wr
    refine hV 0 _ (id) (⟨hvr,by omega,by omega⟩) ⟨rfl,?_,?_,?_,by simp⟩
    ·simp [leT,ltV,lt1,ren,ren1]
    ·simp [leO,lt1,ren1]
    (simp;try omega)
   have hl0':(0:Int)<(st.l.length:Int):=by omega
   have hl1:IntKind.i64.wrap ((st.l.length:Int)-1)=(st.l.length:Int)-1:=zAB (by omega) (by omega)
   have htn:((st.l.length:Int)-1).toNat=st.l.length-1:=by omega
   have glast:=zBn st.l (st.l.length-1) (by omega)
   have hlr:valR S st=if (st.l.getD (st.l.length-1) arg0).2.2=[] then some (st.l.getD (st.l.length-1) arg0).2.1 else (zEc (st.l.getD (st.l.length-1) arg0).2.2 S).map fun a=>if 0<st.op then a.tdiv 4-st.at' else a:=rfl
   have hra:=gS.2.2.1 _ (zW4 (show st.l.length-1<st.l.length by omega))
   have hge:st.l[st.l.length-1]=st.l.getD (st.l.length-1) arg0:=by rw [zWX,zWa (by omega)];rfl
   rw [hge] at hra;generalize st.l.getD (st.l.length-1) arg0=r at glast hlr hra;obtain ⟨r1,r2,r3⟩:=r;obtain ⟨_,hb1,hb2⟩:=hra;simp only at glast hlr hb1 hb2;refine af1 @hal ?_;(repeat intro K hK);apply wr
   refine zAC rfl (fun _=>?_) (fun h=>absurd (by simpa using h) hl0)
   refine af1 (kX4 @hal @hl1 @htn @glast) ?_;(repeat intro K hK);apply wr
   by_cases h3:r3=[]
   ·rw [if_pos h3] at hlr;refine zAi @h3 rfl ?_;(repeat intro K hK);apply wr
    refine hV r2 _ (id) (⟨hlr,by omega,by omega⟩) ⟨rfl,?_,?_,?_,by simp⟩
    ·simp [leT,ltV,lt1,ren,ren1]
    ·simp [leO,lt1,ren1]
    (simp;try omega)
   rw [if_neg h3] at hlr;refine zDl @h3 rfl ?_;(repeat intro K hK);apply wr
   refine cXf (zFL S r3 (by omega)) ?_;(repeat intro K hK);apply wr
   cases hfd:zEc r3 S with
   | none =>
    rw [hfd] at hlr;simp only [Option.map_none] at hlr;rw [hlr] at hx;have hv:zHC s=.tup [.sl 1 true [],errV (302,st.line)]:=by unfold zHC;rw [ha,hx]
    refine zDl @hfd rfl ?_;(repeat intro K hK);apply wr
    refine zAG 5 [0,1,3,0,15] [(4,([[],[0],[0,1],[]],[])),(1,([],[]))] ?_;refine af ?_;(repeat intro K hK);apply wr
    refine af ?_;(repeat intro K hK);apply wr
    refine zAI ?_;refine zAA ?_;simp [hv]
   | some ad =>
    rw [hfd] at hlr;simp only [Option.map_some] at hlr;obtain ⟨zz,hz1,hz2⟩:=zJZ hfd;obtain ⟨hz3,hz4⟩:=hg.2.1 zz hz1;rw [hz2] at hz3 hz4;have hwa:IntKind.i64.wrap ad=ad:=zAB (by omega) (by omega)
    have ht4:ad.tdiv 4=ad / 4:=Int.tdiv_eq_ediv_of_nonneg hz3;have hwd:IntKind.i64.wrap (ad / 4)=ad / 4:=zAB (by omega) (by omega)
    have hwm:IntKind.i64.wrap (ad / 4-st.at')=ad / 4-st.at':=zAB (by omega) (by omega)
    refine zDE @hfd rfl (kX2 @hfd @hwa) ?_;(repeat intro K hK);apply wr
    by_cases hop:0<st.op
    ·rw [if_pos hop,ht4] at hlr;refine zBv @hop rfl (kX5 @hwa @hwd @hwm @ht4 @hfd) ?_;(repeat intro K hK);apply wr
     refine hV (ad / 4-st.at') _ (id) (⟨hlr,by omega,by omega⟩) ⟨rfl,?_,?_,?_,by simp⟩
     ·simp [leT,ltV,lt1,ren,ren1,hwd,hwm,ht4]
     ·simp [leO,lt1,ren1,hwd,hwm,ht4]
     (simp;try omega)
    rw [if_neg hop] at hlr;refine zAi @hop rfl ?_;(repeat intro K hK);apply wr
    refine hV ad _ (id) (⟨hlr,by omega,by omega⟩) ⟨rfl,?_,?_,?_,by simp⟩
    ·simp [leT,ltV,lt1,ren,ren1,hfd,hwa]
    ·simp [leO,lt1,ren1,hfd,hwa]
    (simp;try omega)
  have:i=T.length:=by omega
  subst this;rw [List.drop_length,zGv] at hx;have hv:zHC s=.tup [.new 25 1 (ints .u32 out),errV (0,0)]:=by unfold zHC;rw [ha,hx]
  refine zBE rfl ?_;(repeat intro K hK);apply wr
  refine zAA ?_;simp [hv]
end Go.Proofs.YtoondlebmacanaaGreat.As
end
section
namespace Go.Proofs.YtoondlebmacanaaGreat
open Go.Ab Go.RowKit
structure MayC (c:CpuD):Prop where
 x:c.x 0=0
 s:c.csr 0≤31
 e:c.csr 7≤31
 r:c.csr 6≤255
 v:c.csr 1 % 4=0
structure MayM (m:MchD):Prop where
 p:pagesD m.mem≠0
 c:MayC m.cpu
 n:m.count≤1152921504606846976
 h:¬ (m.waiting=true∧m.halted=true)
 k:m.keys.length≤16
 t:timMay m.tim=true
 d:dskMay m.dk (pagesD m.mem)=true
 i:nicMay m.nc (pagesD m.mem)=true
 b:balMay m.given (pagesD m.mem)=true
theorem zBx (m:MchD):mayD m=true↔MayM m:=by
 constructor
 ·intro h
  unfold mayD at h;simp only [zWd,Bool.not_eq_true',Bool.and_eq_false_iff,decide_eq_true_eq,bne_iff_ne,beq_iff_eq,ne_eq] at h;obtain ⟨⟨⟨⟨⟨⟨⟨⟨h1,h2⟩,h3⟩,h4⟩,h5⟩,h6⟩,h7⟩,h8⟩,⟨⟨⟨h9,h10⟩,h11⟩,h12⟩,h13⟩:=h;exact ⟨h1,⟨h2,h3,h4,h5,h6⟩,h7,by rcases h8 with h8|h8<;>simp [h8],by omega,h10,h11,h12,h13⟩
 rintro ⟨h1,⟨h2,h3,h4,h5,h6⟩,h7,h8,h9,h10,h11,h12,h13⟩
 unfold mayD;simp only [zWd,Bool.not_eq_true',Bool.and_eq_false_iff,decide_eq_true_eq,bne_iff_ne,beq_iff_eq,ne_eq];refine ⟨⟨⟨⟨⟨⟨⟨⟨h1,h2⟩,h3⟩,h4⟩,h5⟩,h6⟩,h7⟩,?_⟩,⟨⟨⟨by omega,h10⟩,h11⟩,h12⟩,h13⟩
 cases hw:m.waiting<;>cases hh:m.halted<;>simp_all
theorem MayC.setR {c:CpuD} (h:MayC c) {r v:Int} (hr:0≤r):MayC (c.setR r v):=by
 unfold CpuD.setR;split
 ·exact h
 rename_i q;refine ⟨?_,h.s,h.e,h.r,h.v⟩;simp only [CpuD.setX];rw [if_neg (by simp;omega)];exact h.x
theorem MayC.setP {c:CpuD} (h:MayC c) (p:Int):MayC (c.setP p):=⟨h.x,h.s,h.e,h.r,h.v⟩
theorem MayC.trap {c:CpuD} (h:MayC c) (k b:Int):MayC (zA4 c k b):=⟨h.x,by simp [zA4];exact (zQq _).2,by simp [zA4];exact h.e,by simp [zA4];exact h.r,by simp [zA4];exact h.v⟩
theorem MayC.ret {c:CpuD} (h:MayC c):MayC (retD c):=⟨h.x,by simp [retD];exact (zT6 _).2,by simp [retD];exact h.e,by simp [retD];exact h.r,by simp [retD];exact h.v⟩
theorem and31 (v:Int):iand .u32 v 31≤31:=by rw [show iand .u32 v 31=v % 32 from zAY v 5 32 (by omega) (by decide)];omega
theorem andn3 {v:Int} (h:W32 v):zAV .u32 v 3 % 4=0:=by
 obtain ⟨n,rfl⟩:=Int.eq_ofNat_of_zero_le h.1;have hn:n<4294967296:=by have:=h.2;omega
 have hb:∀ m:Nat,BitVec.ofInt 32 (m:Int)=BitVec.ofNat 32 m:=fun m=>by simp
 have e:(BitVec.ofNat 32 n &&& ~~~ BitVec.ofNat 32 3).toNat % 4=0:=by
  apply Nat.eq_of_testBit_eq;intro i;rw [show (4:Nat)=2 ^ 2 from rfl,Nat.testBit_mod_two_pow,← BitVec.getLsbD,BitVec.getLsbD_and,BitVec.getLsbD_not]
  by_cases hi:i<2
  ·have:i=0∨i=1:=by omega
   rcases this with rfl|rfl<;>simp
  simp [hi]
 unfold zAV;rw [show IntKind.u32.bits=32 from rfl,hb n,show BitVec.ofInt 32 3=BitVec.ofNat 32 3 from rfl,zCj (by have:=(BitVec.isLt (BitVec.ofNat 32 n &&& ~~~BitVec.ofNat 32 3));omega)]
 omega
theorem MayC.write {c:CpuD} (h:MayC c) (k:Int) {v:Int} (hv:W32 v):MayC (zBW c k v):=by
 have h31:=and31 v;have h3:=andn3 hv;have h255:iand .u32 v 255≤255:=by rw [zBw];omega
 unfold zBW;split
 ·rename_i q;refine ⟨h.x,?_,?_,?_,?_⟩<;>simp only [CpuD.setS]<;>split<;>first|assumption|exact h.s|exact h.e|exact h.r|exact h.v|(exfalso;omega)
 split
 ·rename_i q;refine ⟨h.x,?_,?_,?_,?_⟩<;>simp only [CpuD.setS]<;>split<;>first|assumption|exact h.s|exact h.e|exact h.r|exact h.v|(exfalso;omega)
 split
 ·rename_i q;refine ⟨h.x,?_,?_,?_,?_⟩<;>simp only [CpuD.setS]<;>split<;>first|assumption|exact h.s|exact h.e|exact h.r|exact h.v|(exfalso;omega)
 split
 ·rename_i q;refine ⟨h.x,?_,?_,?_,?_⟩<;>simp only [CpuD.setS]<;>split<;>first|exact h.s|exact h.e|exact h.r|exact h.v|(exfalso;omega)
 exact h
theorem MayC.execute {c:CpuD} (h:MayC c) (hc:OkC c) (i:InstD) (hi:OkI i):MayC (zAE c i).1:=by
 have ha:=hi.a0;unfold zAE;exact zAs (P:=fun z:CpuD × EffD=>MayC z.1) (fun _=>(h.setR ha).setP _) (fun _=>zAs (P:=fun z:CpuD × EffD=>MayC z.1) (fun _=>h.setP _) (fun _=>zAs (P:=fun z:CpuD × EffD=>MayC z.1) (fun _=>(h.setR ha).setP _) (fun _=>zAs (P:=fun z:CpuD × EffD=>MayC z.1) (fun _=>(h.setR ha).setP _) (fun _=>zAs (P:=fun z:CpuD × EffD=>MayC z.1) (fun _=>h.trap _ _) (fun _=>zAs (P:=fun z:CpuD × EffD=>MayC z.1) (fun _=>h.ret) (fun _=>zAs (P:=fun z:CpuD × EffD=>MayC z.1) (fun _=>(h.setR ha).setP _) (fun _=>zAs (P:=fun z:CpuD × EffD=>MayC z.1) (fun _=>(h.write _ (hc.x _)).setP _) (fun _=>zAs (P:=fun z:CpuD × EffD=>MayC z.1) (fun _=>h.setP _) (fun _=>zAs (P:=fun z:CpuD × EffD=>MayC z.1) (fun _=>h.setP _) (fun _=>zAs (P:=fun z:CpuD × EffD=>MayC z.1) (fun _=>h.setP _) (fun _=>zAs (P:=fun z:CpuD × EffD=>MayC z.1) (fun _=>h.setP _) (fun _=>zAs (P:=fun z:CpuD × EffD=>MayC z.1) (fun _=>h.setP _) (fun _=>(h.setR ha).setP _)))))))))))))
theorem MayC.load {c:CpuD} (h:MayC c) (l:List Int) (i:InstD) (hi:OkI i):MayC (zAc c l i).1:=by
 unfold zAc;generalize zAF c l (uw (c.x i.b.toNat+uw i.imm)) (zAa i.op) 2=R;obtain ⟨a,m,k⟩:=R;simp only;split
 ·exact h.trap _ _
 exact (h.setR hi.a0).setP _
theorem MayC.store {c:CpuD} (h:MayC c) (l:List Int) (i:InstD):MayC (zAZ c l i).1:=by
 unfold zAZ;generalize zAF c l (uw (c.x i.b.toNat+uw i.imm)) (zAa i.op) 3=R;obtain ⟨a,m,k⟩:=R;simp only;split
 ·exact h.trap _ _
 exact h.setP _
theorem MayC.exec {c:CpuD} (h:MayC c) (hc:OkC c) (l:List Int):MayC (zAr c l).1:=by
 unfold zAr;generalize zAF c l c.pc 4 1=R;obtain ⟨a,m,k⟩:=R;simp only;split
 ·exact h.trap _ _
 unfold zBl;split
 ·exact h.trap _ _
 rename_i hv;have hi:=zBd (by simpa using hv)
 split
 ·exact h.trap _ _
 split
 ·exact h.load _ _ hi
 split
 ·exact h.store _ _
 exact h.execute hc _ hi
theorem zOK {m:MchD} (h:MayM m) (hh:m.halted=false):MayM (zAO m)∧(zAO m).waiting=false∧(zAO m).halted=false:=by
 have hw:∀ c,MayC c→MayM {m with waiting:=false,cpu:=c}:=fun c hc=>⟨h.p,hc,h.n,by simp,h.k,h.t,h.d,h.i,h.b⟩
 unfold zAO;split
 ·exact ⟨hw _ h.c,rfl,hh⟩
 split
 ·exact ⟨hw _ h.c,rfl,hh⟩
 exact ⟨hw _ (h.c.trap _ _),rfl,hh⟩
theorem zRl {c:CpuD} {l:List Int} (hc:OkC c) (hl:OkW l):(zAr c l).2.1.length=l.length:=(zTp hc hl).2.2.1
theorem zOC {m:MchD} (hM:OkM m) (h:MayM m) (hh:m.halted=false):MayM (zCC m)∧(zCC m).waiting=false∧(zCC m).halted=false:=by
 obtain ⟨hb,h1,h2⟩:=zOK h hh;have ho:=zI8 hM;have hlen:pagesD (zAr (zAO m).cpu m.mem).2.1=pagesD (zAO m).mem:=by
  rw [zB8 (zRl ho.c hM.w)];have:(zAO m).mem=m.mem:=zKU m;rw [this]
 refine ⟨⟨by show pagesD (zAr _ _).2.1≠0;rw [hlen];exact hb.p,hb.c.exec ho.c _,hb.n,hb.h,hb.k,hb.t,?_,?_,?_⟩,h1,h2⟩
 ·show dskMay _ (pagesD (zAr _ _).2.1)=true;rw [hlen];exact hb.d
 ·show nicMay _ (pagesD (zAr _ _).2.1)=true;rw [hlen];exact hb.i
 show balMay _ (pagesD (zAr _ _).2.1)=true;rw [hlen];exact hb.b
theorem zTh:∀ (p x:Nat),x<2 ^ 64→(Lib.bitLen x≤p↔x<2 ^ p)
 | 0,x,hx=>by
  by_cases h:x=0
  ·subst h;decide
  have:=Lib.bitLen_half x h hx;rw [this];simp;omega
 | p+1,x,hx=>by
  by_cases h:x=0
  ·subst h;exact ⟨fun _=>Nat.two_pow_pos _,fun _=>by rw [show Lib.bitLen 0=0 by decide];omega⟩
  have e:=Lib.bitLen_half x h hx;have ih:=zTh p (x / 2) (by omega)
  rw [e,Nat.pow_succ];omega
theorem bitLen_le (x:Int) (p:Nat) (h:W32 x):bitLen x≤p↔x<2 ^ p:=by
 unfold bitLen;have h0:=h.1;have e:x<2 ^ p↔x.toNat<2 ^ p:=by
  rw [show (2:Int) ^ p=((2 ^ p:Nat):Int) by push_cast;rfl];omega
 rw [e];exact zTh p x.toNat (by have:=h.2;omega)
theorem zCe (g p:Int) (hg:W32 g) (hp:0≤p):balMay g p=true↔g<2 ^ p.toNat:=by
 unfold balMay;rw [decide_eq_true_eq,← bitLen_le g p.toNat hg];omega
theorem ior_lt {a b:Int} (ha:W32 a) (hb:W32 b) {p:Nat} (h1:a<2 ^ p) (h2:b<2 ^ p):ior .u32 a b<2 ^ p:=by
 obtain ⟨n,rfl⟩:=Int.eq_ofNat_of_zero_le ha.1;obtain ⟨k,rfl⟩:=Int.eq_ofNat_of_zero_le hb.1;have q1:n<2 ^ p:=by
  have:(n:Int)<((2 ^ p:Nat):Int):=by push_cast;exact h1
  omega
 have q2:k<2 ^ p:=by
  have:(k:Int)<((2 ^ p:Nat):Int):=by push_cast;exact h2
  omega
 have hn:n<4294967296:=by have:=ha.2;omega
 have hk:k<4294967296:=by have:=hb.2;omega
 have hb':∀ m:Nat,BitVec.ofInt 32 (m:Int)=BitVec.ofNat 32 m:=fun m=>by simp
 unfold ior;rw [show IntKind.u32.bits=32 from rfl,hb' n,hb' k,BitVec.toNat_or,BitVec.toNat_ofNat,BitVec.toNat_ofNat,Nat.mod_eq_of_lt (show n<2 ^ 32 from hn),Nat.mod_eq_of_lt (show k<2 ^ 32 from hk),zCj (Nat.or_lt_two_pow (n:=32) hn hk)]
 have:=Nat.or_lt_two_pow q1 q2;have e:((n ||| k:Nat):Int)<((2 ^ p:Nat):Int):=by omega
 push_cast at e
 exact e
theorem zR4 {a:Int} (ha:W32 a) (b:Int):zAV .u32 a b≤a:=by
 obtain ⟨n,rfl⟩:=Int.eq_ofNat_of_zero_le ha.1;have hn:n<4294967296:=by have:=ha.2;omega
 unfold zAV;have hb':∀ m:Nat,BitVec.ofInt 32 (m:Int)=BitVec.ofNat 32 m:=fun m=>by simp
 rw [show IntKind.u32.bits=32 from rfl,hb' n,BitVec.toNat_and,BitVec.toNat_ofNat,Nat.mod_eq_of_lt (show n<2 ^ 32 from hn)]
 have:=Nat.and_le_left (n:=n) (m:=(~~~ BitVec.ofInt 32 b).toNat);rw [zCj (by omega)]
 omega
theorem zVZ {v:Int} (h0:0≤v) (h1:v<32):W32 (2 ^ v.toNat):=by
 have h:(2:Nat) ^ v.toNat<2 ^ 32:=Nat.pow_lt_pow_right (by decide) (by omega)
 have e:(2:Int) ^ v.toNat=((2 ^ v.toNat:Nat):Int):=by push_cast;rfl
 rw [e];generalize 2 ^ v.toNat=q at h;constructor<;>omega
theorem zM7 {g:Int} {l:List Int} (hg:W32 g) (p:Int) {v:Int} (hv:W32 v) (h:balMay g (pagesD l)=true):balMay (zAh g l p v).1 (pagesD l)=true:=by
 have hp:=(zAb l).1;rw [zCe _ _ hg hp] at h;unfold zAh;split
 ·rw [zCe _ _ hg hp];exact h
 rename_i q;have hw:=zVZ hv.1 (by omega)
 split
 ·split
  ·rename_i z;rw [zCe _ _ (zVF _ _) hp];refine ior_lt hg hw h ?_;have:(2:Nat) ^ v.toNat<2 ^ (pagesD l).toNat:=Nat.pow_lt_pow_right (by decide) (by have:=hv.1;omega)
   rw [show (2:Int) ^ v.toNat=((2 ^ v.toNat:Nat):Int) by push_cast;rfl,show (2:Int) ^ (pagesD l).toNat=((2 ^ (pagesD l).toNat:Nat):Int) by push_cast;rfl]
   omega
  rw [zCe _ _ hg hp];exact h
 split
 ·rw [zCe _ _ (zKj _ _) hp];exact Int.lt_of_le_of_lt (zR4 hg _) h
 rw [zCe _ _ hg hp];exact h
theorem zUC {a:Int} (h:W32 a):IntKind.i64.wrap a=a:=zAB (by have:=h.1;omega) (by have:=h.2;omega)
theorem zPN {d:DskD} {l:List Int} (hd:OkD d) (h:dskMay d (pagesD l)=true) {c:Int} (hc:c=1∨c=2) (t:Int):dskMay (zAo d l c t).1 (pagesD l)=true:=by
 unfold zAo;split
 ·exact h
 rename_i q;have q:d.state=0:=by simpa using q
 have hbl:¬ d.blocks > 64:=by intro z;unfold dskMay at h;rw [if_pos z] at h;cases h
 have h2:=h;unfold dskMay at h2;rw [if_neg hbl,if_pos (.inl q)] at h2;split
 ·unfold dskMay;simp only;rw [if_neg hbl,if_pos (by simp)];exact h2
 rename_i z;have z1:d.block<d.blocks:=by omega
 have z2:d.frame<pagesD l:=by omega
 unfold dskMay;simp only;rw [if_neg hbl,if_neg (by simp),if_pos (by simp),zUC hd.c]
 simp only [z1,z2,decide_true,Bool.and_true];rcases hc with rfl|rfl
 ·simp [zHd]
 simp [zHd,zD3 hd.c.1 z2]
theorem zNI {d:DskD} {l:List Int} (hd:OkD d) (h:dskMay d (pagesD l)=true) (p v t:Int):dskMay (zAn d l p v t).1 (pagesD l)=true:=by
 unfold zAn;split
 ·exact h
 split
 ·exact h
 split
 ·split
  ·exact zPN hd h (by omega) t
  split
  ·rename_i z;have hbl:¬ d.blocks > 64:=by intro y;unfold dskMay at h;rw [if_pos y] at h;cases h
   have z2:=z.2;unfold zBj at z2;simp only [Bool.or_eq_true,decide_eq_true_eq] at z2;unfold dskMay at h ⊢;rw [if_neg hbl,if_pos (by omega)] at h
   simp only;rw [if_neg hbl,if_pos (by simp)];exact h
  exact h
 exact h
theorem zNZ {n:NicD} {l:List Int} (hn:OkN n) (h:nicMay n (pagesD l)=true) (p v t:Int):nicMay (zAd n l p v t).1 (pagesD l)=true:=by
 unfold zAd;split
 ·exact h
 split
 ·exact h
 split
 ·split
  ·exact h
  split
  ·show nicMay (if _ then _ else _) _=true
   split
   ·rename_i z;obtain ⟨z1,z2,z3⟩:=z;have hg:n.got=0:=by unfold nicMay at h;simp [z2,z3] at h;exact h.2
    unfold nicMay;simp [z3,hg,zUC hn.a];omega
   exact h
  split
  ·unfold nicMay at h ⊢;simp only;by_cases hp:n.posted=true
   ·by_cases hr:n.received=true
    ·simp [hp,hr] at h
    have hr:n.received=false:=by simpa using hr
    simp [hp,hr] at h ⊢;exact h.1
   have hp:n.posted=false:=by simpa using hp
   simp [hp] at h ⊢;exact h.1
  exact h
 exact h
theorem zRd {m:MchD} {e:EffD} (hM:OkM m) (he:OkE e) (h:MayM m) (hw:m.waiting=false) (hh:m.halted=false) (k t:Int) (hr:e.kind=1→0≤e.reg):MayM (zBQ m e k t).1:=by
 unfold zBQ;split
 ·rename_i q;have hR:MayM (zAS m e.port k).1:=by
   unfold zAS;split
   ·refine ⟨h.p,h.c,h.n,h.h,?_,h.t,h.d,h.i,h.b⟩;have:=h.k;unfold zDR;split
    ·simp;omega
    split<;>exact h.k
   repeat' split
   all_goals exact h
  exact ⟨hR.p,hR.c.setR (hr q),hR.n,hR.h,hR.k,hR.t,hR.d,hR.i,hR.b⟩
 split
 ·unfold zAJ;split
  ·exact h
  split
  ·refine ⟨h.p,h.c,h.n,h.h,h.k,?_,h.d,h.i,h.b⟩;show timMay (armD e.val)=true
   unfold timMay armD;by_cases z:e.val=0<;>simp [z]
  split
  ·exact ⟨h.p,h.c,h.n,h.h,h.k,h.t,zNI hM.d h.d _ _ _,h.i,h.b⟩
  split
  ·exact ⟨h.p,h.c,h.n,h.h,h.k,h.t,h.d,zNZ hM.r h.i _ _ _,h.b⟩
  split
  ·obtain ⟨-,-,a3⟩:=zTg hM.gv hM.w e.port e.val;have hl:=zB8 a3;refine ⟨by show pagesD (zAh _ _ _ _).2≠0;rw [hl];exact h.p,h.c,h.n,h.h,h.k,h.t,?_,?_,?_⟩
   ·show dskMay _ (pagesD (zAh _ _ _ _).2)=true;rw [hl];exact h.d
   ·show nicMay _ (pagesD (zAh _ _ _ _).2)=true;rw [hl];exact h.i
   show balMay _ (pagesD (zAh _ _ _ _).2)=true;rw [hl];exact zM7 hM.gv _ he.v h.b
  exact h
 split
 ·exact ⟨h.p,h.c,h.n,by simp [hh],h.k,h.t,h.d,h.i,h.b⟩
 split
 ·exact ⟨h.p,h.c,h.n,by simp [hw],h.k,h.t,h.d,h.i,h.b⟩
 exact h
theorem zHn {m:MchD} (hM:OkM m) (hr:runsD m=true) (k:Int):MayM (goD m k).1:=by
 have hx:=hr;unfold runsD at hx;simp only [zWd,Bool.not_eq_true',decide_eq_true_eq] at hx;obtain ⟨⟨⟨h1,h2⟩,h3⟩,h4⟩:=hx;obtain ⟨a1,a2⟩:=zGC hM;obtain ⟨b1,b2,b3⟩:=zOC hM ((zBx m).1 h1) h2;have hd:=zRd a1 a2 b1 b2 b3 k m.count (fun q=>(a2.r q).1)
 have hq:=zEG (zCC m) (effD m) k m.count;rw [zDQ] at hq;unfold goD;refine ⟨hd.p,hd.c,?_,hd.h,hd.k,hd.t,hd.d,hd.i,hd.b⟩;show _+1≤_
 rw [hq];omega
theorem zGT {m:MchD} (hM:OkM m) (h:mayD m=true) (k:Int):mayD (stepD m k).1=true:=by
 unfold stepD;split
 ·rename_i q;exact (zBx _).2 (zHn hM q k)
 exact h
theorem zJH {d:DskD} {l:List Int} (h:dskMay d (pagesD l)=true) (e:EvD):dskMay (zAM d l e).1 (pagesD l)=true:=by
 have hbl:¬ d.blocks > 64:=by intro y;unfold dskMay at h;rw [if_pos y] at h;cases h
 have hD:dskMay (doneD d e.n) (pagesD l)=true:=by
  unfold dskMay doneD;simp only;rw [if_neg hbl,if_pos (by split<;>omega)]
  simp
 unfold zAM
 repeat' split
 all_goals first|exact h|exact hD
theorem zS2 {n:NicD} {l:List Int} (h:nicMay n (pagesD l)=true) (s:Str):nicMay (zAe n l s).1 (pagesD l)=true:=by
 unfold zAe;split
 ·rename_i z;unfold nicMay;simp;omega
 exact h
theorem zCl {m:MchD} (hM:OkM m) (h:mayD m=true) (e:EvD):mayD (applyD m e).1=true:=by
 have hm:=(zBx m).1 h;unfold applyD;split
 ·exact h
 split
 ·split
  ·refine (zBx _).2 ⟨hm.p,hm.c,hm.n,hm.h,hm.k,?_,hm.d,hm.i,hm.b⟩;show timMay (zDt m.tim).1=true
   unfold zDt;split
   ·simp [timMay]
   exact hm.t
  exact h
 split
 ·split
  ·refine (zBx _).2 ⟨hm.p,hm.c,hm.n,hm.h,?_,hm.t,hm.d,hm.i,hm.b⟩;show (zD6 m.keys _).1.length≤16
   unfold zD6;split
   ·exact hm.k
   simp;omega
  exact h
 split
 ·obtain ⟨-,a2⟩:=zHe (d:=m.dk) hM.w e;have hl:=zB8 a2;refine (zBx _).2 ⟨by show pagesD (zAM _ _ _).2.1≠0;rw [hl];exact hm.p,hm.c,hm.n,hm.h,hm.k,hm.t,?_,?_,?_⟩
  ·show dskMay _ (pagesD (zAM _ _ _).2.1)=true;rw [hl];exact zJH hm.d e
  ·show nicMay _ (pagesD (zAM _ _ _).2.1)=true;rw [hl];exact hm.i
  show balMay _ (pagesD (zAM _ _ _).2.1)=true;rw [hl];exact hm.b
 split
 ·split
  ·obtain ⟨-,-,a3⟩:=zT5 hM.r hM.w e.data;have hl:=zB8 a3;refine (zBx _).2 ⟨by show pagesD (zAe _ _ _).2.1≠0;rw [hl];exact hm.p,hm.c,hm.n,hm.h,hm.k,hm.t,?_,?_,?_⟩
   ·show dskMay _ (pagesD (zAe _ _ _).2.1)=true;rw [hl];exact hm.d
   ·show nicMay _ (pagesD (zAe _ _ _).2.1)=true;rw [hl];exact zS2 hm.i _
   show balMay _ (pagesD (zAe _ _ _).2.1)=true;rw [hl];exact hm.b
  exact h
 split
 ·split
  ·exact (zBx _).2 ⟨hm.p,hm.c,hm.n,hm.h,hm.k,hm.t,hm.d,hm.i,hm.b⟩
  exact h
 exact h
theorem encW_w {i:InstD} (h:validD i=true):W32 (encW i):=by
 obtain ⟨f1,f2,f3,f4,f5,f6⟩:=zEi h;unfold encW;constructor<;>rcases f6 with h|h<;>omega
theorem zPK (op a b c k z:Int) (hk:0≤k∧k<24) (hz:z=0∨z=1):-2147483648≤(zCY op a b c k z).imm∧(zCY op a b c k z).imm≤2147483647:=by
 have hkz:0≤k*z∧k*z<24:=by rcases hz with rfl|rfl<;>omega
 generalize hq:k*z=q at hkz;unfold zCY;rw [hq]
 (repeat' split)<;>simp only<;>omega
theorem zPJ (n:Int):-2147483648≤(zHG n).imm∧(zHG n).imm≤2147483647 :=
 zPK _ _ _ _ _ _ (by unfold kA;omega) (by unfold zA;omega)
noncomputable def zKY (x:Int):Int:=if x.tmod 17=0 then x % 4294967296 else encW (zHG x)
theorem zUX (x:Int):W32 (zKY x):=by
 unfold zKY;split
 ·omega
 exact encW_w (zGl x)
noncomputable def zCX (l:List Int):List Int:=l.map zKY
theorem zOV (l:List Int):OkW (zCX l):=by
 intro w hw
 obtain ⟨x,_,rfl⟩:=List.mem_map.1 hw;exact zUX x
theorem zDq (l:List Int):(zCX l).length=l.length:=by simp [zCX]
@[simp] theorem codeL_nil:ints .u32 (zCX [])=[]:=rfl
theorem zUk (n:Int):zAD Tryz.prog 89 [.st (zHG n).row] (.tup [.int .u32 (encW (zHG n)),.bool true]):=by
 have h:=zEI (zHG n) (zPJ n);simpa [zGl n] using h
theorem andF (x:Int):IntKind.u32.wrap (IntKind.i64.wrap ((BitVec.ofInt 64 x &&& 4294967295#64).toNat:Int))=x % 4294967296:=by
 have e:(BitVec.ofInt 64 x &&& 4294967295#64).toNat=(x % 4294967296).toNat:=by
  rw [BitVec.toNat_and,BitVec.toNat_ofInt,show (4294967295#64).toNat=2 ^ 32-1 from rfl,Nat.and_two_pow_sub_one_eq_mod]
  omega
 rw [e,zAB (by omega) (by omega),IntKind.wrap_u32];omega
theorem zRZ (l:List Int) (hb:l.length≤100000):zAD Tryz.prog 37 [.sl 1 false (ints .i64 l)] (.new 25 1 (ints .u32 (zCX l))):=by
 have hl:=zAN .i64 l;refine sX Tryz.func37 Tryz.ntmps37 ?_;intros;apply wr;refine zAW 3 25 1 (by decide) rfl ?_
 obtain ⟨I,hI⟩:∃ I:Nat→St→Prop,I=(fun kk ss=>∃ (i:Nat) ,i≤l.length∧kk=l.length-i∧(True)∧ss=⟨42,[(4,.int .i64 i),(3,.own 0),(0,.sl 1 false (ints .i64 l))],1,[(0,some ⟨25,1,false,false,ints .u32 (zCX (l.take i))⟩)],0⟩):=⟨_,rfl⟩
 refine lX I (id) (by rw [hI];exact ⟨0,by simp,rfl,trivial,rfl⟩) ?_
 intro kk ss hIk _
 rw [hI] at hIk;obtain ⟨i,hi,rfl,hx,rfl⟩:=hIk;refine au1 @hl ?_;intros;apply wr;refine zAC rfl (fun h=>?_) (fun h=>?_)
 ·simp at h;have hlt:i<l.length:=by omega
  obtain ⟨x,hx⟩:∃ x,l[i]? =some x:=⟨_,zWa hlt⟩;have hg:(ints .i64 l)[i]? =some [.int .i64 x]:=zBU hx;have hS:zCX (l.take (i+1))=zCX (l.take i)++[zKY x]:=by
   rw [zCX,List.take_add_one,List.map_append,hx];rfl
  have hn:(ints .u32 (zCX (l.take i))).length=i:=by rw [zAN,zDq,zWw];omega
  have hS':ints .u32 (zCX (l.take i))++[[V.int .u32 (zKY x)]]=ints .u32 (zCX (l.take (i+1))):=by rw [hS];simp [ints]
  refine au1 (kX2 @hg @hl) ?_;intros;apply wr;refine zAC rfl (fun hm=>?_) (fun hm=>?_)
  ·simp at hm;have hw:zKY x=x % 4294967296:=if_pos hm;rw [hw] at hS';have hF:IntKind.u32.wrap (iand .i64 x 4294967295)=x % 4294967296:=andF x;refine aum1 (kX5 @hg @hl @hn @hF @maxLen.eq_1) ?_;intros;apply wr;exact aX (fun x=>if x=0 then 2 else x) (by rw [hI];exact ⟨i+1,by omega,rfl,trivial,rfl⟩) (kX2 (zAB (n:=(i:Int)+1) (by omega) (by omega)) @hS')
  simp at hm;have hw:zKY x=encW (zHG x):=if_neg hm;rw [hw] at hS';refine au1 (kX2 @hg @hl) ?_;intros;apply wr;refine cX (zKm x) ?_;intros;apply wr;refine cc (zUk x) ?_;refine aum1 (kX2 @hn @maxLen.eq_1) ?_;intros;apply wr;exact aX (fun x=>if x=0 then 9 else x) (by rw [hI];exact ⟨i+1,by omega,rfl,trivial,rfl⟩) (kX2 (zAB (n:=(i:Int)+1) (by omega) (by omega)) @hS')
 simp at h;have ht:l.take i=l:=List.take_of_length_le h;rw [ht];refine au ?_;intros;apply wr;refine zAA ?_;simp
def padW (w:List Int):List Int:=w++List.replicate (256-w.length) 0
def newD (w:List Int):MchD:={zMch with cpu:=⟨fun _=>0,0,fun i=>if i=0 then 1 else 0⟩,mem:=padW w,dk:={zDsk with blocks:=4}}
theorem zMK (w:List Int) (h:w.length≤256):(padW w).length=256:=by simp [padW];omega
theorem zV9 {α:Type} (z:α) (us:List α) (n:Nat) (h:us.length≤n):spl (List.replicate n z) 0 us=us++List.replicate (n-us.length) z:=by
 apply List.ext_getElem?;intro j;rw [zCS _ _ _ _ (by simpa using h)]
 by_cases hj:j<us.length
 ·rw [if_pos ⟨by omega,by omega⟩,zWr hj];rfl
 rw [if_neg (by omega),zWp (by omega),List.getElem?_replicate,List.getElem?_replicate]
 by_cases h2:j<n
 ·rw [if_pos h2,if_pos (by omega)]
 rw [if_neg h2,if_neg (by omega)]
theorem zSY (w:List Int) (h:w.length≤256):spl (ints .u32 mem0) 0 (ints .u32 w)=ints .u32 (padW w):=by
 rw [← zL8,zV9 _ _ _ (by rw [zAN];exact h),zAN]
 unfold padW ints;rw [List.map_append,List.map_replicate]
theorem zVO (w:List Int) (h:w.length≤256):zAD Tryz.prog 38 [iv 8,iv 4,.sl 1 false (ints .u32 w)] (.tup [.st (newD w).row,.bool true]):=by
 have hl:=zAN .u32 w;have hs:=zSY w h;refine sY Tryz.func38 Tryz.ntmps38 @hl ?_;intros;apply wr;refine zAC rfl (fun h1=>?_) (fun h1=>?_)
 ·simp at h1;exfalso;omega
 refine au1 @hl ?_;intros;apply wr;refine cX (zMU) ?_;intros;apply wr;refine cc (zQM) ?_;have hsl:min w.length 256=w.length:=by omega
 refine au1 (kX3 @hl @zC4 @hsl) ?_;intros;apply wr;refine zAI ?_;refine zAA ?_;have ht:(ints .u32 w).take 256=ints .u32 w:=List.take_of_length_le (by omega)
 simp [newD,hs,hsl,ht]
end Go.Proofs.YtoondlebmacanaaGreat
end
section
set_option maxRecDepth 1000000
namespace Go.Proofs.YtoondlebmacanaaGreat
open Go.Ab Go.RowKit
def kW:List Int:=[403701760,303104152,990904321,403701760,303104031,990904327,403701760,303104004,990904326,404750336,304218624,405798912,305332224,406847488,306446344,340983816,307560455,342032386,23461890,592838656,271777793,708116474,403701760,303104006,1024458759,403701760,303104002,1024458761,403701760,303104100,1024458755,403701760,303104640,990904322,403701760,303104021,990904320,956301312,990904325,974127107,386990096,672137233,974127106,269549572,990904322,1009778690,1026555904,403701760,303104001,1024458756,403701760,303104007,1024458757,286392321,269549569,1024458758,974127109,956301312,1007681536,1024458752,1023410182,1023410185,403701760,303104006,1024458759,403701760,303104002,1024458761,1007681538,269549588,1024458755,1007681546,1024458762,974127109,956301312]
def kMem (f:Nat→Int):List Int:=kW++(List.replicate 85 0++(List.range 96).map f)
def kM0 (f:Nat→Int):MchD:={zMch with cpu:=⟨fun _=>0,0,fun i=>if i=0 then 1 else 0⟩,mem:=kMem f,dk:={zDsk with blocks:=4}}
def itD (m:MchD):Nat→MchD
 | 0=>m
 | n+1=>(goD (itD m n) 0).1
def rdsD (m:MchD):Bool:=decide ((zAO m).cpu.csr 0 % 2=1)&&zAT m.mem (zAO m).cpu.pc 4&&validD (decI (wAt m.mem ((zAO m).cpu.pc / 4)))&&decide ((decI (wAt m.mem ((zAO m).cpu.pc / 4))).op=60)&&decide ((decI (wAt m.mem ((zAO m).cpu.pc / 4))).imm=2)
def zPr (m:MchD):Bool:=decide ((effD m).kind=0)||(decide ((effD m).kind=2)&&(decide ((effD m).port=3)||decide ((effD m).port=7)||(decide ((effD m).port=9)&&decide ((effD m).val=2))))
def slimB (m:MchD):Bool:=!zD4 (zAO m).cpu&&[1,16,18,20,24,35,42,57,59,61].contains (decI (wAt (zAF (zAO m).cpu m.mem (zAO m).cpu.pc 4 1).2.1 ((zAF (zAO m).cpu m.mem (zAO m).cpu.pc 4 1).1 / 4))).op
def zHt (m:MchD):Bool:=!m.halted&&(!zKk m&&(!rdsD m&&(zPr m&&slimB m)))
theorem k_q1 (f:Nat→Int):((List.range 87).all fun k=>zHt (itD (kM0 f) k))=true:=by kernel_rfl
end Go.Proofs.YtoondlebmacanaaGreat
end
section
namespace Go.Proofs.YtoondlebmacanaaGreat
open Go.Ab Go.RowKit
theorem zRP (m:MchD):(zAO m).dk=m.dk:=by
 unfold zAO;split
 ·rfl
 split<;>rfl
theorem zIf {m:MchD} (h:zPr m=true):(goD m 0).1.dk=m.dk∧(goD m 0).2=[]:=by
 have ha:(zCC m).dk=m.dk:=zRP m;unfold goD zBQ;simp only;unfold zPr at h;simp only [Bool.or_eq_true,zWd,decide_eq_true_eq] at h;generalize effD m=e at *
 rcases h with h|⟨h,q⟩
 ·rw [if_neg (by omega),if_neg (by omega),if_neg (by omega),if_neg (by omega)]
  exact ⟨ha,rfl⟩
 rw [if_neg (by omega),if_pos h]
 rcases q with (q|q)|⟨q,v⟩
 ·unfold zAJ;rw [q];exact ⟨ha,rfl⟩
 ·unfold zAJ;rw [q];exact ⟨ha,rfl⟩
 unfold zAJ;rw [q,v];exact ⟨ha,by simp [zAd]⟩
theorem it_ok {m:MchD} (hM:OkM m) (hmay:mayD m=true) (hc:m.count=0) (n:Nat) (hn:n≤1000) (hq:∀ k<n,zHt (itD m k)=true):OkM (itD m n)∧mayD (itD m n)=true∧(itD m n).count=n∧(itD m n).dk=m.dk:=by
 induction n with
 | zero=>exact ⟨hM,hmay,by show m.count=_;rw [hc];rfl,rfl⟩
 | succ n ih =>
  obtain ⟨h1,h2,h3,h4⟩:=ih (by omega) fun k hk=>hq k (by omega)
  have q:=hq n (by omega)
  unfold zHt at q;simp only [zWd,Bool.not_eq_true'] at q;obtain ⟨q1,q2,q3,q4,q5⟩:=q;have hr:runsD (itD m n)=true:=by unfold runsD;rw [h2,q1,q2,h3];simp;omega
  obtain ⟨g1,g2⟩:=zNO h1 hr zA1;refine ⟨g1,(zBx _).2 (zHn h1 hr 0),by rw [show itD m (n+1)=(goD (itD m n) 0).1 from rfl,g2,h3];simp,?_⟩
  rw [show itD m (n+1)=(goD (itD m n) 0).1 from rfl,(zIf q4).1,h4]
theorem zT0 {w:List Int} (hw:OkW w) (hl:w.length≤256):OkM (newD w):=by
 have hp:=zMK w hl;refine ⟨⟨fun i=>zA1,zA1,fun i=>?_,by simp [newD]⟩,?_,by simp [newD,hp],by simp [newD],zA1,?_,?_,zA1,zA1,by simp [newD]⟩
 ·show W32 (if i=0 then 1 else 0)
  split
  ·exact ⟨by omega,by omega⟩
  exact zA1
 ·intro x hx
  rcases List.mem_append.1 (show x∈w++List.replicate (256-w.length) 0 from hx) with q|q
  ·exact hw x q
  rw [(List.mem_replicate.1 q).2];exact zA1
 ·constructor<;>(constructor<;>simp [newD])
 constructor<;>(constructor<;>simp [newD])
theorem zME {w:List Int} (hl:w.length≤256):mayD (newD w)=true:=by
 have hp:=zMK w hl;have hg:pagesD (padW w)=8:=by unfold pagesD;rw [hp];decide
 have h0:(8 != (0:Int))=true:=by decide
 have h1:balMay 0 8=true:=by kernel_rfl
 have h2:nicMay zNic 8=true:=by kernel_rfl
 have h3:dskMay {zDsk with blocks:=4} 8=true:=by kernel_rfl
 have h4:timMay zTim=true:=by kernel_rfl
 have hm:(newD w).mem=padW w:=rfl;unfold mayD;rw [hm,hg,show (newD w).given=0 from rfl,show (newD w).nc=zNic from rfl,show (newD w).dk={zDsk with blocks:=4} from rfl,show (newD w).tim=zTim from rfl,h0,h1,h2,h3,h4]
 rfl
noncomputable def imgD (k:Int) (l:List Int):List Int:=if k<2 then kW++(List.replicate 85 0++zCX l) else zCX l
noncomputable def mkD (k:Int) (l:List Int):MchD:=if k=1 then itD (newD (imgD k l)) 87 else newD (imgD k l)
theorem kW_w:OkW kW:=by
 have h:kW.all (fun x=>decide (0≤x)&&decide (x<4294967296))=true:=by decide +kernel
 intro x hx
 have:=List.all_eq_true.1 h x hx;simp at this;exact ⟨by omega,by omega⟩
theorem zIL (k:Int) (l:List Int):(imgD k l).length≤l.length+160:=by
 unfold imgD;split
 ·simp only [zWj,List.length_replicate,zDq,show kW.length=75 from rfl];omega
 rw [zDq];omega
theorem zTs (k:Int) (l:List Int):OkW (imgD k l):=by
 unfold imgD;split
 ·intro x hx
  rcases List.mem_append.1 hx with q|q
  ·exact kW_w x q
  rcases List.mem_append.1 q with q|q
  ·rw [(List.mem_replicate.1 q).2];exact zA1
  exact zOV l x q
 exact zOV l
theorem zWH (c:List Int) (h:c.length≤96):c++List.replicate (96-c.length) 0=(List.range 96).map fun i=>c.getD i 0:=by
 apply List.ext_getElem?;intro j;rw [zWl,List.getElem?_append];by_cases hj:j<c.length
 ·rw [if_pos hj,List.getElem?_range (by omega),Option.map_some,zWX,zWa hj];rfl
 rw [if_neg hj,List.getElem?_replicate];by_cases h2:j<96
 ·rw [if_pos (by omega),List.getElem?_range h2,Option.map_some,zWX,zWy (by omega)];rfl
 rw [if_neg (by omega),zWy (by simpa using h2)];rfl
theorem zTz (l:List Int) (hl:l.length≤60):newD (imgD 1 l)=kM0 fun i=>(zCX l).getD i 0:=by
 have hc:=zDq l;have e:padW (imgD 1 l)=kMem fun i=>(zCX l).getD i 0:=by
  unfold padW imgD kMem;rw [if_pos (by decide),← zWH (zCX l) (by omega)]
  have:256-(kW++(List.replicate 85 0++zCX l)).length=96-(zCX l).length:=by
   simp only [zWj,List.length_replicate,show kW.length=75 from rfl];omega
  rw [this,zWu,zWu]
 unfold newD kM0;rw [e]
theorem zTy (k:Int) (l:List Int) (hl:l.length≤60):OkM (mkD k l)∧mayD (mkD k l)=true∧(mkD k l).dk.state=0:=by
 have hi:=zIL k l;have h1:=zT0 (zTs k l) (by omega)
 have h2:=zME (w:=imgD k l) (by omega)
 unfold mkD;split
 ·rename_i hk;subst hk;have hq:∀ j<87,zHt (itD (newD (imgD 1 l)) j)=true:=by
   intro j hj
   rw [zTz l hl];exact List.all_eq_true.1 (k_q1 fun i=>(zCX l).getD i 0) j (List.mem_range.2 hj)
  obtain ⟨g1,g2,g3,g4⟩:=it_ok h1 h2 rfl 87 (by omega) hq
  exact ⟨g1,g2,by rw [g4];rfl⟩
 exact ⟨h1,h2,rfl⟩
end Go.Proofs.YtoondlebmacanaaGreat
end
section
set_option maxRecDepth 1000000
namespace Go.Proofs.YtoondlebmacanaaGreat.As
open Go.Ab Go.RowKit
def kSrc:List UInt8:=[108,105,32,114,49,44,32,104,97,110,100,108,101,114,10,99,115,114,119,32,114,49,44,32,49,10,108,105,32,114,49,44,32,51,49,10,99,115,114,119,32,114,49,44,32,55,10,108,105,32,114,49,44,32,52,10,99,115,114,119,32,114,49,44,32,54,10,108,105,32,114,50,44,32,53,49,50,10,108,105,32,114,51,44,32,48,10,108,105,32,114,52,44,32,56,10,109,97,112,58,32,115,104,108,105,32,114,53,44,32,114,51,44,32,56,10,111,114,105,32,114,53,44,32,114,53,44,32,55,10,115,104,108,105,32,114,54,44,32,114,51,44,32,50,10,97,100,100,32,114,54,44,32,114,54,44,32,114,50,10,115,119,32,114,53,44,32,48,40,114,54,41,10,97,100,100,105,32,114,51,44,32,114,51,44,32,49,10,98,108,116,32,114,51,44,32,114,52,44,32,109,97,112,10,108,105,32,114,49,44,32,54,10,111,117,116,32,114,49,44,32,55,10,108,105,32,114,49,44,32,50,10,111,117,116,32,114,49,44,32,57,10,108,105,32,114,49,44,32,49,48,48,10,111,117,116,32,114,49,44,32,51,10,108,105,32,114,49,44,32,54,52,48,10,99,115,114,119,32,114,49,44,32,50,10,108,105,32,114,49,44,32,50,49,10,99,115,114,119,32,114,49,44,32,48,10,101,114,101,116,10,104,97,110,100,108,101,114,58,32,99,115,114,119,32,114,49,44,32,53,10,99,115,114,114,32,114,49,44,32,51,10,115,108,116,105,32,114,49,44,32,114,49,44,32,49,54,10,98,101,113,32,114,49,44,32,114,48,44,32,105,114,113,10,99,115,114,114,32,114,49,44,32,50,10,97,100,100,105,32,114,49,44,32,114,49,44,32,52,10,99,115,114,119,32,114,49,44,32,50,10,105,110,32,114,51,44,32,50,10,111,117,116,32,114,51,44,32,48,10,108,105,32,114,49,44,32,49,10,111,117,116,32,114,49,44,32,52,10,108,105,32,114,49,44,32,55,10,111,117,116,32,114,49,44,32,53,10,97,110,100,105,32,114,49,44,32,114,50,44,32,49,10,97,100,100,105,32,114,49,44,32,114,49,44,32,49,10,111,117,116,32,114,49,44,32,54,10,99,115,114,114,32,114,49,44,32,53,10,101,114,101,116,10,105,114,113,58,32,105,110,32,114,49,44,32,48,10,111,117,116,32,114,49,44,32,48,10,111,117,116,32,114,48,44,32,54,10,111,117,116,32,114,48,44,32,57,10,108,105,32,114,49,44,32,54,10,111,117,116,32,114,49,44,32,55,10,108,105,32,114,49,44,32,50,10,111,117,116,32,114,49,44,32,57,10,105,110,32,114,49,44,32,50,10,97,100,100,105,32,114,49,44,32,114,49,44,32,50,48,10,111,117,116,32,114,49,44,32,51,10,105,110,32,114,49,44,32,49,48,10,111,117,116,32,114,49,44,32,49,48,10,99,115,114,114,32,114,49,44,32,53,10,101,114,101,116,10]
theorem kAsm:(match asmR kSrc with|.ok l=>l==kW|.error _=>false)=true:=by decide +kernel
theorem kernel_ok:zAD Tryz.prog 36 [.str kSrc] (.tup [.new 25 1 (ints .u32 kW),errV (0,0)]):=by
 have h:=zI0 kSrc (by decide)
 have k:=kAsm;unfold zHC at h;cases e:asmR kSrc with
 | error z=>rw [e] at k;simp at k
 | ok l =>
  rw [e] at h k;simp only [beq_iff_eq] at k;subst k;exact h
end Go.Proofs.YtoondlebmacanaaGreat.As
end
section
namespace Go.Proofs.YtoondlebmacanaaGreat
open Go.Ab Go.RowKit
abbrev rowM (m:MchD) (v:V):List V:=m.cpu.row++v::.str m.keys::(m.tim.row++(m.dk.row++(m.nc.row++[uv m.tgt,uv m.given,lv m.count,.bool m.waiting,.bool m.halted])))
abbrev mchO (m:MchD) (v:V):Ob:=⟨42,49,true,false,[rowM m v]⟩
def zH1 (nx:Nat) (ob:List (Nat × Option Ob)) (id j:Nat) (m:MchD) (nx':Nat) (ob':List (Nat × Option Ob)):Prop :=
 nx≤nx'∧lookO ob' id=some (mchO m (.own j))∧lookO ob' j=some (⟨25,1,false,false,ints .u32 m.mem⟩)∧∀ i,i<nx→i≠id→i≠j→lookO ob' i=lookO ob i
abbrev zMR0:=[uv 0,uv 0,uv 0,uv 0,uv 0,uv 0,uv 0,uv 0,uv 0,uv 0,uv 0,uv 0,uv 0,uv 0,uv 0,uv 0,uv 0,uv 0,uv 0,uv 0,uv 0,uv 0,uv 0,uv 0,uv 0,.sl 0 true [],.str [],.bool false,uv 0,.bool false,uv 0,uv 0,uv 0,iv 0,iv 0,uv 0,uv 0,.str [],uv 0,uv 0,.bool false,uv 0,.bool false,uv 0,uv 0,uv 0,lv 0,.bool false,.bool false]
abbrev nilE:V:=.sl 0 true []
theorem zU0 {c:CpuD} {i:InstD} (h:(zAE c i).2.kind=1):i.op=60:=by
 have hz:zEff.kind=1→i.op=60:=by simp [zEff]
 unfold zAE at h
 revert h
 exact zAs (P:=fun z:CpuD × EffD=>z.2.kind=1→i.op=60) (fun _=>hz) (fun _=>zAs (P:=fun z:CpuD × EffD=>z.2.kind=1→i.op=60) (fun _=>hz) (fun _=>zAs (P:=fun z:CpuD × EffD=>z.2.kind=1→i.op=60) (fun _=>hz) (fun _=>zAs (P:=fun z:CpuD × EffD=>z.2.kind=1→i.op=60) (fun _=>hz) (fun _=>zAs (P:=fun z:CpuD × EffD=>z.2.kind=1→i.op=60) (fun _=>hz) (fun _=>zAs (P:=fun z:CpuD × EffD=>z.2.kind=1→i.op=60) (fun _=>hz) (fun _=>zAs (P:=fun z:CpuD × EffD=>z.2.kind=1→i.op=60) (fun _=>hz) (fun _=>zAs (P:=fun z:CpuD × EffD=>z.2.kind=1→i.op=60) (fun _=>hz) (fun _=>zAs (P:=fun z:CpuD × EffD=>z.2.kind=1→i.op=60) (fun q _=>q) (fun _=>zAs (P:=fun z:CpuD × EffD=>z.2.kind=1→i.op=60) (fun _ h=>by simp at h) (fun _=>zAs (P:=fun z:CpuD × EffD=>z.2.kind=1→i.op=60) (fun _ h=>by simp at h) (fun _=>zAs (P:=fun z:CpuD × EffD=>z.2.kind=1→i.op=60) (fun _ h=>by simp at h) (fun _=>zAs (P:=fun z:CpuD × EffD=>z.2.kind=1→i.op=60) (fun _ h=>by simp at h) (fun _=>hz)))))))))))))
theorem ex_60 {c:CpuD} {i:InstD} (h:i.op=60):(zAE c i).2=⟨1,i.imm,i.a,0⟩:=by
 unfold zAE;rw [if_neg (by omega),if_neg (by omega),if_neg (by omega),if_neg (by omega),if_neg (by omega),if_neg (by omega),if_neg (by omega),if_neg (by omega),if_pos h]
theorem zKO {c:CpuD} {l:List Int} {w:Int} (h:(zBl c l w).2.2.kind=1):validD (decI w)=true∧(decI w).op=60∧c.csr 0 % 2=1∧(zBl c l w).2.2.port=(decI w).imm:=by
 unfold zBl at h ⊢;split at h
 ·simp [zEff] at h
 rename_i q1;split at h
 ·simp [zEff] at h
 rename_i q2;split at h
 ·simp [zEff] at h
 rename_i q3;split at h
 ·simp [zEff] at h
 rename_i q4;have q:=zU0 h;rw [if_neg q1,if_neg q2,if_neg q3,if_neg q4];refine ⟨by simpa using q1,q,?_,by simp only;rw [ex_60 q]⟩
 have:¬ c.csr 0 % 2=0:=fun z=>q2 ⟨by rw [q];rfl,z⟩
 omega
theorem zWV {c:CpuD} {l:List Int} {w:Int} (h1:validD (decI w)=true) (h2:(decI w).op=60) (h3:c.csr 0 % 2=1):(zBl c l w).2.2=⟨1,(decI w).imm,(decI w).a,0⟩:=by
 unfold zBl;rw [if_neg (by simp [h1]),if_neg (fun q=>by have:=q.2;omega),if_neg (by omega),if_neg (by omega)]
 exact ex_60 h2
theorem res_k {c:CpuD} {l:List Int} (h:c.csr 0 % 2=1):zAF c l c.pc 4 1=if zAT l c.pc 4=true then (c.pc,l,0) else (0,l,if c.pc % 4≠0 then 3 else 4):=by
 have hp:¬ zD4 c=true:=by unfold zD4;simp;omega
 unfold zAF;by_cases h4:c.pc % 4=0
 ·rw [if_neg (by simp [h4]),if_neg hp]
  split
  ·rfl
  rw [if_neg (by simp [h4])];rfl
 have hw:¬ zAT l c.pc 4=true:=by unfold zAT;simp [h4]
 rw [if_pos h4,if_neg hw,if_pos h4]
theorem zT4 {m:MchD} (hr:runsD m=true):rdsD m=readsD m:=by
 have e1:readsD m=(decide ((effD m).kind=1)&&decide ((effD m).port=2)):=by unfold readsD;rw [hr];rfl
 rw [e1,Bool.eq_iff_iff];unfold rdsD effD;generalize (zAO m).cpu=c;obtain ⟨w,hw⟩:∃ w,w=wAt m.mem (c.pc / 4):=⟨_,rfl⟩;rw [← hw];simp only [zWd,decide_eq_true_eq];constructor
 ·rintro ⟨⟨⟨⟨h1,h2⟩,h3⟩,h4⟩,h5⟩
  unfold zAr;rw [res_k h1,if_pos h2];simp only [ne_eq,not_true_eq_false,if_false];rw [← hw,zWV h3 h4 h1];exact ⟨rfl,h5⟩
 rintro ⟨h1,h2⟩
 have hk:c.csr 0 % 2=1:=by
  unfold zAr at h1;generalize zAF c m.mem c.pc 4 1=R at h1;obtain ⟨a,l,k⟩:=R;simp only at h1;split at h1
  ·simp [zEff] at h1
  exact (zKO h1).2.2.1
 unfold zAr at h1 h2;rw [res_k hk] at h1 h2;by_cases hwi:zAT m.mem c.pc 4=true
 ·rw [if_pos hwi] at h1 h2;simp only [ne_eq,not_true_eq_false,if_false] at h1 h2;rw [← hw] at h1 h2;obtain ⟨a1,a2,a3,a4⟩:=zKO h1;rw [a4] at h2;exact ⟨⟨⟨⟨hk,hwi⟩,a1⟩,a2⟩,h2⟩
 rw [if_neg hwi] at h1;simp only at h1;rw [if_pos (by split<;>omega)] at h1
 simp [zEff] at h1
inductive Tr (u:Int):MchD→List EntD→List OutD→MchD→List EntD→Prop
 | nil {m l}:m.count=u→firstOk m.count l=true→Tr u m l [] m l
 | ev {m e l O m' r}:m.count<u→e.kind≠1→Tr u (applyD m e).1 l O m' r→Tr u m (⟨m.count,e⟩::l) O m' r
 | go {m l O m' r}:m.count<u→runsD m=true→readsD m=false→(∀ e,l.head? =some e→m.count<e.at_)→Tr u (goD m 0).1 l O m' r→Tr u m l ((goD m 0).2++O) m' r
 | clk {m k l O m' r}:m.count<u→W32 k→runsD m=true→readsD m=true→Tr u (goD m k).1 l O m' r→Tr u m (⟨m.count,⟨1,k,[]⟩⟩::l) ((goD m k).2++O) m' r
theorem Tr.le {u:Int} {m m':MchD} {l r:List EntD} {O:List OutD} (h:Tr u m l O m' r):m.count≤u:=by
 cases h<;>omega
theorem Tr.first {u:Int} {m m':MchD} {l r:List EntD} {O:List OutD} (h:Tr u m l O m' r):firstOk m.count l=true:=by
 cases h with
 | nil _ h=>exact h
 | ev _ _ _=>simp [firstOk]
 | go _ _ _ h _ =>
  cases l with
  | nil=>rfl
  | cons e l=>have:=h e rfl;simp [firstOk];omega
 | clk _ _ _ _ _=>simp [firstOk]
theorem zCk (m:MchD) (e:EvD):(applyD m e).1.count=m.count:=by
 unfold applyD
 (repeat' split)<;>rfl
theorem zEt (m:MchD) (k:Int):(goD m k).1.count=m.count+1:=by
 show (zBQ _ _ _ _).1.count+1=_
 rw [zEG,zDQ]
theorem Tr.split {u:Int} {m m':MchD} {l r:List EntD} {O:List OutD} (h:Tr u m l O m' r):∀ t:Int,m.count≤t→t≤u→∃ y L O1 O2,Tr t m l O1 y L∧Tr u y L O2 m' r∧O=O1++O2∧y.count=t:=by
 induction h with
 | @nil m l h1 h2 =>
  intro t h3 h4
  exact ⟨m,l,[],[],.nil (by omega) h2,.nil h1 h2,rfl,by omega⟩
 | @ev m e l O m' r h1 h2 h3 ih =>
  intro t h4 h5
  by_cases h:m.count=t
  ·have hT:Tr u m (⟨m.count,e⟩::l) O m' r:=.ev h1 h2 h3;exact ⟨m,_,[],O,.nil h hT.first,hT,rfl,h⟩
  obtain ⟨y,L,O1,O2,a1,a2,a3,a4⟩:=ih t (by rw [zCk];omega) h5
  exact ⟨y,L,O1,O2,.ev (by omega) h2 a1,a2,a3,a4⟩
 | @go m l O m' r h1 h2 h3 h4 h5 ih =>
  intro t h6 h7
  by_cases h:m.count=t
  ·have hT:Tr u m l ((goD m 0).2++O) m' r:=.go h1 h2 h3 h4 h5;exact ⟨m,_,[],_,.nil h hT.first,hT,rfl,h⟩
  obtain ⟨y,L,O1,O2,a1,a2,a3,a4⟩:=ih t (by rw [zEt];omega) h7
  exact ⟨y,L,_,O2,.go (by omega) h2 h3 h4 a1,a2,by rw [a3,zWu],a4⟩
 | @clk m k l O m' r h1 h2 h3 h4 h5 ih =>
  intro t h6 h7
  by_cases h:m.count=t
  ·have hT:Tr u m (⟨m.count,⟨1,k,[]⟩⟩::l) ((goD m k).2++O) m' r:=.clk h1 h2 h3 h4 h5;exact ⟨m,_,[],_,.nil h hT.first,hT,rfl,h⟩
  obtain ⟨y,L,O1,O2,a1,a2,a3,a4⟩:=ih t (by rw [zEt];omega) h7
  exact ⟨y,L,_,O2,.clk (by omega) h2 h3 h4 a1,a2,by rw [a3,zWu],a4⟩
theorem Tr.pre {t:Int} {m y:MchD} {l L:List EntD} {O:List OutD} (h:Tr t m l O y L):∀ n:Nat,(∀ k e,n≤k→l[k]? =some e→t≤e.at_)→∃ us,L=l.drop us∧us≤n∧us≤l.length∧Tr t m (l.take n) O y ((l.take n).drop us):=by
 induction h with
 | @nil m l h1 h2 =>
  intro n _
  refine ⟨0,rfl,by omega,by omega,.nil h1 ?_⟩
  cases n with
  | zero=>rfl
  | succ n=>cases l with|nil=>rfl|cons e l=>simpa [firstOk] using h2
 | @ev m e l O m' r h1 h2 h3 ih =>
  intro n hn
  cases n with
  | zero=>have:=hn 0 _ (by omega) rfl;simp only at this;omega
  | succ n =>
   obtain ⟨us,a1,a2,a3,a4⟩:=ih n (fun k e hk he=>hn (k+1) e (by omega) (by simpa using he))
   exact ⟨us+1,by simpa using a1,by omega,by simp;omega,by simpa using Tr.ev h1 h2 a4⟩
 | @go m l O m' r h1 h2 h3 h4 h5 ih =>
  intro n hn
  obtain ⟨us,a1,a2,a3,a4⟩:=ih n hn;refine ⟨us,a1,a2,a3,.go h1 h2 h3 (fun e he=>?_) a4⟩
  cases n with
  | zero=>simp at he
  | succ n=>cases l with|nil=>simp at he|cons x l=>exact h4 e (by simpa using he)
 | @clk m k l O m' r h1 h2 h3 h4 h5 ih =>
  intro n hn
  cases n with
  | zero=>have:=hn 0 _ (by omega) rfl;simp only at this;omega
  | succ n =>
   obtain ⟨us,a1,a2,a3,a4⟩:=ih n (fun k e hk he=>hn (k+1) e (by omega) (by simpa using he))
   exact ⟨us+1,by simpa using a1,by omega,by simp;omega,by simpa using Tr.clk h1 h2 h3 h4 a4⟩
theorem Tr.end_cnt {u:Int} {m m':MchD} {l r:List EntD} {O:List OutD} (h:Tr u m l O m' r):m'.count=u:=by
 induction h with
 | nil h _=>exact h
 | ev _ _ _ ih=>exact ih
 | go _ _ _ _ _ ih=>exact ih
 | clk _ _ _ _ _ ih=>exact ih
theorem Tr.ok {u:Int} {m m':MchD} {l r:List EntD} {O:List OutD} (h:Tr u m l O m' r) (hE:∀ e∈l,W32 e.ev.n):OkM m→mayD m=true→OkM m'∧mayD m'=true:=by
 induction h with
 | nil _ _=>exact fun a b=>⟨a,b⟩
 | @ev m e l O m' r _ _ _ ih =>
  exact fun a b=>ih (fun x hx=>hE x (zWc _ hx)) (zFN a (hE _ (zWf ..))).1 (zCl a b e)
 | go _ h2 _ _ _ ih=>exact fun a b=>ih hE (zNO a h2 zA1).1 ((zBx _).2 (zHn a h2 0))
 | clk _ hk h2 _ _ ih=>exact fun a b=>ih (fun x hx=>hE x (zWc _ hx)) (zNO a h2 hk).1 ((zBx _).2 (zHn a h2 _))
end Go.Proofs.YtoondlebmacanaaGreat
end
