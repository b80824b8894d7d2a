/- A part of the proof of ReplicaDisk. -/
import Derived.Test.YtjkmhmepljamoaaGreatK12
set_option linter.all false
set_option maxHeartbeats 16000000
set_option maxRecDepth 100000
section
namespace Go.Proofs.YtjkmhmepljamoaaGreat.As
open Go.Ab Go.RowKit Tryz
def cG(a:List ArgD):ArgD:=a.getD (a.length-1) arg0
def valR(S:List (Str×Int))(st:StD):Option Int :=
 if st.l.length=0 then some 0
 else if(cG st.l).2.2=[]then some (cG st.l).2.1
 else(Js (cG st.l).2.2 S).bind fun a=>if(0<=a/\a<=4096)/\0<=st.at'/\st.at'<=1024 then some (if 0<st.op then a/4-st.at' else a)else none
def Yy(i:InstD):Int:=if validD i then Wb i else 0
abbrev liWd:Str:=[108,105]
def codR(st:StD)(v:Int):Option (List Int) :=
 if st.what=liWd then(if st.l.length=0 then none else some [Yy ⟨24,(st.l.getD 0 arg0).1,0,0,v%4294967296/65536⟩,Yy ⟨18,(st.l.getD 0 arg0).1,(st.l.getD 0 arg0).1,0,v%65536⟩])
 else if ZR st.op st.l then(RP st.op st.l v).map fun w=>[w]else none
abbrev plainW(w:Str):Prop:=w≠[46,119,111,114,100]/\w≠[46,115,112,97,99,101]/\w≠[109,118]/\w≠[110,111,112]
def Ke(S:List (Str×Int)):List StD->List Int->Option (List Int)
 | [],out=>some out
 | st::r,out=>(valR S st).bind fun v=>if plainW st.what/\st.l.length<=6/\-4294967296<=v/\v<=4294967296 then(codR st v).bind fun w=>Ke S r (out++w)else none
theorem aG{st:StD}{v:Int}{w:List Int}(h:codR st v=some w):w.length<=2:=by
 unfold codR at h;split at h
 ·split at h<;>cases h;exact g8 2
 split at h
 ·obtain⟨_,_,rfl⟩:=Option.map_eq_some_iff.1 h;exact Nat.le_succ 1
 cases h
theorem fM(l:List StD)(i:Nat)(h:i<l.length):(Ox l)[i]? =some l[i].row:=by simp[Ox,h]
theorem KV(i:InstD)(hi:-2147483648<=i.imm/\i.imm<=2147483647):AC prog 98 [.st i.row] (.tup [.int .u32 (Yy i),.bool (validD i)]):=Fg i hi
theorem Ts(k:IntKind)(l:List Int)(x:Int):ints k l++[[V.int k x]]=ints k (l++[x]):=by simp[ints]
theorem Ww(k:IntKind)(l:List Int)(x y:Int):ints k l++[[V.int k x],[V.int k y]]=ints k (l++[x,y]):=by simp[ints]
set_option maxHeartbeats 32000000 in
theorem MD(s:Str)(L:List Str)(P:PrR)(W:List Int)(hsl:s.length<=8192)(hL:lnF s [] []=some L)(hLl:L.length<=1000)(h0:ZY L 1 prR0=some P)(hPl:P.sts.length<=1000/\P.syms.length<=1000)(hW:Ke P.syms P.sts []=some W):AC prog 43 [.str s] (.tup [.new 25 1 (ints .u32 W),errV (0,0)]):=by
 refine sX func43 ntmps43 ?_;refine cc (dT s L P hsl hL hLl h0) ?_;obtain⟨S,T,w⟩:=P;simp only at hPl hW;refine au ?_;refine C3 ?_;(repeat intro K hK);apply wr;refine AT 7 25 1 (by decide) rfl ?_;simp;obtain⟨I,hI⟩:∃I:Nat->St->Prop,I=(fun kk ss=>∃(i:Nat)(out:List Int),i<=T.length/\kk=T.length-i/\(Ke S (T.drop i) out=some W/\out.length<=2*i)/\ss=⟨194,[(8,.int .i64 i),(7,.own 1),(5,.sl 6 false (Ox T)),(4,.sl 2 false (FY S)),(3,.ptr 0 2 0 0)],2,[(0,some ⟨115,2,true,false,[[.int .i64 0,.int .i64 0]]⟩),(1,some ⟨25,1,false,false,ints .u32 out⟩)],0⟩):=⟨_,rfl⟩;refine lX I (fun x=>if x=1 then 6 else x) (by rw[hI];exact⟨0,[],by simp,rfl,⟨hW,by simp⟩,rfl⟩) ?_;intro kk ss hIk _;rw[hI]at hIk;obtain⟨i,out,hi,rfl,hx,rfl⟩:=hIk;obtain⟨hx,hol⟩:=hx;have hTl:=Qa T;have hw:IntKind.i64.wrap ((i:Int)+1)=(i:Int)+1:=AA;refine au1 @hTl ?_;(repeat intro K hK);apply wr;by_cases hi':i<T.length
 ·obtain⟨st,hst⟩:∃st,st=T[i]:=⟨_,rfl⟩;have hget:(Ox T)[i]? =some st.row:=by rw[hst];exact fM T i hi'
  rw[List.drop_eq_getElem_cons hi',<- hst,Ke]at hx;obtain⟨v,hvr,hx⟩:=Option.bind_eq_some_iff.1 hx;split at hx
  case isFalse=>cases hx
  rename_i hz;obtain⟨⟨w1,w2,w4,w5⟩,hl6,hv1,hv2⟩:=hz;obtain⟨c,hc,hx⟩:=Option.bind_eq_some_iff.1 hx;have hcl:=aG hc;have hal:=MC st.l;refine cT1 @hi' rfl ?_
  iterate 12 (first|(with_reducible first|refine B5 fun K hK=>?_|refine BK ?_)|((with_reducible first|refine Au (by kernel_rfl) ?_|refine Bb ?_|refine B8 ?_|refine Ba ?_|refine B9 ?_|refine B6 ?_|refine B2 ?_);simp[hget,hTl])|((repeat ((fail_if_success ((with_reducible refine hK _ ?_)));clear hK));(with_reducible refine hK _ ?_);clear hK)|refine And.intro (by first|omega|assumption|grind) ?_)
  refine Cc (α:=Nat) (fun n=>(⟨194,[(10,.int .i64 v),(9,.ptr 2 6 0 0),(8,.int .i64 i),(7,.own 1),(5,.sl 6 false (Ox T)),(4,.sl 2 false (FY S)),(3,.ptr 0 2 0 0)],3,[(0,some ⟨115,2,true,false,[[.int .i64 0,.int .i64 0]]⟩),(1,some ⟨25,1,false,false,ints .u32 out⟩),(2,some ⟨190,6,true,false,[st.row]⟩)],0⟩:St)) (fun n=>True) hK (fun n hxhV=>?_) (fun hV=>?_);all_goals clear hK
  ·have hu:IntKind.u32.wrap v=v%4294967296:=IntKind.wrap_u32 v;have hil:=Wv .u32 out;have hmx:(ints .u32 out).length+2<=maxLen:=by rw[hil];simp[maxLen];omega
   have hm4:(out.length+2)*4<=140737488355328:=by omega
   refine au ?_;refine BU @w1 ?_;refine BU @w2 ?_;(repeat intro K hK);apply wr;unfold codR at hc;by_cases w3:st.what=liWd
   ·rw[if_pos w3]at hc;split at hc
    ·cases hc
    rename_i hl0;have g0:=Cm st.l 0 (by omega);generalize st.l.getD 0 arg0=r at g0 hc;cases hc;have hdf:IntKind.i32.wrap ((v%4294967296).fdiv 65536)=v%4294967296/65536:=by rw[gU _ (by decide),IntKind.wrap_i32];omega
    have hdm:IntKind.i32.wrap (IntKind.u32.wrap ((BitVec.ofInt 32 (v%4294967296) &&& 65535#32).toNat:Int))=v%65536:=by
     have:=AV (v%4294967296) 16 65536 (by decide) (by decide);rw[show BitVec.ofNat 32 (65536-1)=65535#32 from rfl]at this;rw[this,show((65536:Nat):Int)=65536 from rfl,IntKind.wrap_i32];omega
    have hem:AC prog 98 [.st [.int .i64 18,.int .i64 r.1,.int .i64 r.1,.int .i64 0,.int .i32 (IntKind.i32.wrap (IntKind.u32.wrap ((BitVec.ofInt 32 (v%4294967296) &&& 65535#32).toNat:Int)))]] (.tup [.int .u32 (Yy ⟨18,r.1,r.1,0,v%65536⟩),.bool (validD ⟨18,r.1,r.1,0,v%65536⟩)]):=by
     rw[hdm];exact KV ⟨18,r.1,r.1,0,v%65536⟩ ⟨by simp only;omega,by simp only;omega⟩
    refine DI @w3 (kX3 @g0 @hu @hal) ?_;(repeat intro K hK);apply wr;simp only[hdf];refine cX (KV ⟨24,r.1,0,0,v%4294967296/65536⟩ ⟨by simp only;omega,by simp only;omega⟩) ?_;(repeat intro K hK);apply wr;refine AD 21 [0,1,3,7,15,0,32,96,224,480,0,1024,3072,7168,16383,32767,65535,131071,131071,262143,1048575] [(14,([[],[0],[0,1],[0,1,2],[0,1,2,3],[],[5],[5,6],[5,6,7],[5,6,7,8],[],[10],[10,11],[10,11,12]],[])),(1,([],[])),(1,([],[])),(1,([],[])),(3,([[],[],[0]],[])),(1,([],[]))] ?_;refine af1 (kX3 @g0 @hu @hal) ?_;refine cc (hem) ?_;have hap:=Ww .u32 out (Yy ⟨24,r.1,0,0,v%4294967296/65536⟩) (Yy ⟨18,r.1,r.1,0,v%65536⟩);refine af1 (kX5 @hu @hmx @hm4 @hap @hil) ?_;(repeat intro K hK);apply wr;exact aX (fun x=>if x=1 then 8 else x) (by rw[hI];exact⟨i+1,(out++[Yy ⟨24,r.1,0,0,v%4294967296/65536⟩,Yy ⟨18,r.1,r.1,0,v%65536⟩]),by omega,rfl,⟨hx,by simp;omega⟩,rfl⟩) (kX3 (AA (n:=(i:Int)+1)) @hw @hap)
   rw[if_neg w3]at hc;split at hc
   case isFalse=>cases hc
   rename_i hoa;obtain⟨u,hir,hc⟩:=Option.map_eq_some_iff.1 hc;cases hc;refine Ac @w3 ?_;refine Ac @w4 ?_;refine Ac @w5 ?_;refine cXf (ON st v u hoa hir) ?_;(repeat intro K hK);apply wr;refine cF0 rfl ?_;have hap:=Ts .u32 out u;have hmx1:(ints .u32 out).length+1<=maxLen:=by omega
   have hm41:(out.length+1)*4<=140737488355328:=by omega
   refine af1 (kX4 @hmx1 @hm41 @hap @hil) ?_;(repeat intro K hK);apply wr;exact aX (fun x=>if x=1 then 6 else x) (by rw[hI];exact⟨i+1,(out++[u]),by omega,rfl,⟨hx,by simp;omega⟩,rfl⟩) (kX3 (AA (n:=(i:Int)+1)) @hw @hap)
  unfold valR at hvr;split at hvr
  ·rename_i hl0;cases hvr;refine af1 @hal ?_;refine Ac @hl0 ?_;(repeat intro K hK);apply wr;refine hV 0 _ (id) (trivial) ⟨rfl,?_,?_,?_,by simp⟩
   ·simp[leT,ltV,lt1,ren,BE]
   ·simp[leO,lt1,BE]
   (simp;try omega)
  rename_i hl0;have hl1:IntKind.i64.wrap ((st.l.length:Int)-1)=(st.l.length:Int)-1:=AA;have htn:((st.l.length:Int)-1).toNat=st.l.length-1:=by omega
  have glast:=Cm st.l (st.l.length-1) (by omega);change (if(st.l.getD (st.l.length-1) arg0).2.2=[]then some (st.l.getD (st.l.length-1) arg0).2.1 else(Js (st.l.getD (st.l.length-1) arg0).2.2 S).bind _)=_ at hvr;generalize st.l.getD (st.l.length-1) arg0=r at glast hvr;obtain⟨r1,r2,r3⟩:=r;simp only at glast hvr;refine af1 @hal ?_;(repeat intro K hK);apply wr;refine AB rfl (fun _=>?_) (fun h=>absurd (by simpa using h) hl0);refine af1 (kX4 @hal @hl1 @htn @glast) ?_;(repeat intro K hK);apply wr;by_cases h3:r3=[]
  ·rw[if_pos h3]at hvr;cases hvr;refine Ac @h3 ?_;(repeat intro K hK);apply wr;refine hV 0 _ (id) (trivial) ⟨rfl,?_,?_,?_,by simp⟩
   ·simp[leT,ltV,lt1,ren,BE]
   ·simp[leO,lt1,BE]
   (simp;try omega)
  rw[if_neg h3]at hvr;obtain⟨ad,hfd,hvr⟩:=Option.bind_eq_some_iff.1 hvr;split at hvr
  case isFalse=>cases hvr
  rename_i hz;have hwa:IntKind.i64.wrap ad=ad:=AA;have ht4:ad.tdiv 4=ad/4:=Int.tdiv_eq_ediv_of_nonneg (by omega);have hwd:IntKind.i64.wrap (ad/4)=ad/4:=AA;have hwm:IntKind.i64.wrap (ad/4-st.at')=ad/4-st.at':=AA;refine Ei @h3 ?_;refine cXf (KC S r3 (by omega)) ?_;refine Cw @hfd (kX2 @hfd @hwa) ?_;(repeat intro K hK);apply wr;by_cases hop:0<st.op
  ·rw[if_pos hop]at hvr;cases hvr;refine Cg @hop (kX5 @hwa @hwd @hwm @ht4 @hfd) ?_;(repeat intro K hK);apply wr;refine hV 0 _ (id) (trivial) ⟨rfl,?_,?_,?_,by simp⟩
   ·simp[leT,ltV,lt1,ren,BE,hwd,hwm,ht4]
   ·simp[leO,lt1,BE,hwd,hwm,ht4]
   (simp;try omega)
  rw[if_neg hop]at hvr;cases hvr;refine Ac @hop ?_;(repeat intro K hK);apply wr;refine hV 0 _ (id) (trivial) ⟨rfl,?_,?_,?_,by simp⟩
  ·simp[leT,ltV,lt1,ren,BE,hfd,hwa]
  ·simp[leO,lt1,BE,hfd,hwa]
  (simp;try omega)
 rw[List.drop_eq_nil_of_le (by omega),Ke]at hx;cases hx;refine Ac @hi' ?_;refine ar ?_;simp
end Go.Proofs.YtjkmhmepljamoaaGreat.As
end
