/- A part of the proof of ReplicaDisk. -/
import Derived.Test.YtjkmhmepljamoaaGreatK09
set_option linter.all false
set_option maxHeartbeats 16000000
set_option maxRecDepth 100000
section
namespace Go.Proofs.YtjkmhmepljamoaaGreat.As
open Go.Ab Go.RowKit Tryz
theorem YV(l:List (Str×Int))(i:Nat)(h:i<l.length):(FY l)[i]? =some [.str l[i].1,.int .u32 l[i].2]:=by simp[FY,h]
theorem KC(l:List (Str×Int))(s:Str)(hl:l.length<=1000000):AC prog 97 [.sl 2 false (FY l),.str s] (.tup [.int .u32 ((Js s l).getD 0),.bool (Js s l).isSome]):=by
 have hll:=N2 l;refine sX func97 ntmps97 ?_;intros;apply wr;obtain⟨I,hI⟩:∃I:Nat->St->Prop,I=(fun kk ss=>∃(i:Nat),i<=l.length/\kk=l.length-i/\(Js s l=Js s (l.drop i))/\ss=⟨25,[(6,.int .i64 i),(0,.sl 2 false (FY l)),(1,.str s)],0,[],0⟩):=⟨_,rfl⟩;refine lX I (id) (by rw[hI];exact⟨0,by simp,rfl,rfl,rfl⟩) ?_;intro kk ss hIk _;rw[hI]at hIk;obtain⟨i,hi,rfl,hx,rfl⟩:=hIk;have hw:IntKind.i64.wrap ((i:Int)+1)=((i+1:Nat):Int):=by rw[AA];omega
 refine au1 @hll ?_;intros;apply wr;by_cases hi':i<l.length
 ·obtain⟨z,hz⟩:∃z,z=l[i]:=⟨_,rfl⟩;have hget:(FY l)[i]? =some [.str z.1,.int .u32 z.2]:=by rw[hz];exact YV _ i hi'
  have hdr:l.drop i=z::l.drop (i+1):=by rw[List.drop_eq_getElem_cons hi',hz]
  rw[hdr,Js]at hx;refine DI @hi' (kX2 @hget @hll) ?_;intros;apply wr;by_cases he:z.1=s
  ·rw[if_pos he]at hx;refine DI @he (kX2 @hget @hll) ?_;refine ar ?_;simp[hx]
  rw[if_neg he]at hx;refine BU @he ?_;intros;apply wr;exact aX (id) (by rw[hI];exact⟨i+1,by omega,rfl,hx,rfl⟩) (kX2 (AA (n:=(i:Int)+1)) @hw)
 have:i=l.length:=by omega
 subst this;rw[List.drop_length]at hx;refine C3 ?_;refine ar ?_;simp[hx,Js]
theorem dg(n:Int)(h:48<=n/\n<=57):AC prog 282 [.int .u8 n] (.bool true):=by
 refine sX func282 ntmps282 ?_;refine ar ?_;simp[h]
def numT:List (Str×Int):=[([49],1),([51,49],31),([55],7),([52],4),([54],6),([53,49,50],512),([48],0),([56],8),([50],2),([57],9),([49,48,48],100),([51],3),([54,52,48],640),([50,49],21),([53],5),([49,54],16),([50,48],20),([49,48],10)]
def numX(s:Str):Option Int:=(numT.find? fun x=>x.1==s).map Prod.snd
set_option maxHeartbeats 16000000 in
theorem K5:∀x∈numT,AC prog 284 [.str x.1] (.tup [.int .i64 x.2,.bool true]):=by
 intro x hx;simp only[numT,List.mem_cons,List.not_mem_nil,or_false]at hx;rcases hx with rfl|rfl|rfl|rfl|rfl|rfl|rfl|rfl|rfl|rfl|rfl|rfl|rfl|rfl|rfl|rfl|rfl|rfl;all_goals ((refine sX func284 ntmps284 ?_);(repeat intro K hK);(apply wr))
 all_goals (((refine au ?_;(repeat intro K hK);apply wr));(repeat' ((first|(refine AB rfl (fun h=>?_) (fun h=>?_)<;>(first|(simp at h;done)|(simp at h)|skip)<;>(first|(exfalso;omega)|skip))|refine cc (dg 48 (by decide)) ?_|refine cc (dg 49 (by decide)) ?_|refine cc (dg 50 (by decide)) ?_|refine cc (dg 51 (by decide)) ?_|refine cc (dg 52 (by decide)) ?_|refine cc (dg 53 (by decide)) ?_|refine cc (dg 54 (by decide)) ?_|refine cc (dg 55 (by decide)) ?_|refine cc (dg 56 (by decide)) ?_|refine cc (dg 57 (by decide)) ?_|refine Aa 4 ?_|refine BD fun K hK=>?_|exact rt|fail)<;>(refine au ?_;(repeat intro K hK);apply wr))))
theorem Mz{s:Str}{n:Int}(h:numX s=some n):AC prog 284 [.str s] (.tup [.int .i64 n,.bool true]):=by
 obtain⟨x,hx,rfl⟩:=Option.map_eq_some_iff.1 h;have e:=List.find?_some hx;simp only[beq_iff_eq]at e;subst e;exact K5 x (List.mem_of_find?_eq_some hx)
def lnF:Str->Str->List Str->Option (List Str)
 | [],q,xs=>if q=[]then some xs else none
 | c::r,q,xs=>if c=10 then lnF r [] (xs++[q])else lnF r (q++[c]) xs
theorem V5{c:UInt8}(k:Nat){n:Int}(h:c≠UInt8.ofNat k)(hn:n=k)(hk:k<256):¬(c.toNat:Int)=n:=fun e=>h (UInt8.toNat_inj.1 (by simp;omega))
set_option maxHeartbeats 16000000 in
theorem LO(s:Str)(L:List Str)(hl:s.length<=1000000)(h:lnF s [] []=some L):AC prog 162 [.str s] (.new 9 1 (strs L)):=by
 refine sX func162 ntmps162 ?_;intros;apply wr;refine AT 3 9 1 (by decide) rfl ?_;obtain⟨I,hI⟩:∃I:Nat->St->Prop,I=(fun kk ss=>∃(i:Nat)(f:Nat)(xs:List Str),i<=s.length/\kk=s.length-i/\(f<=i/\lnF (s.drop i) ((s.take i).drop f) xs=some L/\xs.length<=i)/\ss=⟨36,[(5,.int .i64 i),(4,.int .i64 f),(3,.own 0),(0,.str s)],1,[(0,some ⟨9,1,false,false,strs xs⟩)],0⟩):=⟨_,rfl⟩;refine lX I (id) (by rw[hI];exact⟨0,0,[],by simp,rfl,⟨g8 _,by simpa using h,g8 _⟩,rfl⟩) ?_;intro kk ss hIk _;rw[hI]at hIk;obtain⟨i,f,xs,hi,rfl,hx,rfl⟩:=hIk;obtain⟨hf,hxs,hxl⟩:=hx;have hsl:=BV xs;have hmx:(strs xs).length+1<=maxLen:=by rw[BV];simp[maxLen];omega
 have hw:IntKind.i64.wrap ((i:Int)+1)=((i+1:Nat):Int):=by rw[AA];omega
 have hm16:(xs.length+1)*16<=140737488355328:=by omega
 refine au ?_;intros;apply wr;by_cases hi':i<s.length
 ·obtain⟨c,hc⟩:∃c,c=s.getD i 0:=⟨_,rfl⟩;have hcc:s[i]?.getD 0=c:=by rw[hc,gP]
  have hdr:s.drop i=c::s.drop (i+1):=by rw[List.drop_eq_getElem_cons hi',hc,gP,gR hi'];rfl
  rw[hdr,lnF]at hxs;refine DI @hi' @hcc ?_;intros;apply wr;by_cases h10:c=10
  ·subst h10;rw[if_pos rfl]at hxs;have hone:=Q8 xs ((s.take i).drop f);have e0:(s.take (i+1)).drop (i+1)=[]:=List.drop_eq_nil_of_le (by simp;omega);refine IZ (kX5 @hw @hsl @hmx @hm16 @hone) ?_;intros;apply wr;exact aX (fun x=>if x=0 then 2 else x) (by rw[hI];exact⟨i+1,(i+1),(xs++[(s.take i).drop f]),by omega,rfl,⟨g8 _,by rw[e0];exact hxs,by simp;omega⟩,rfl⟩) (kX2 (AA (n:=(i:Int)+1)) @hw)
  have hne:¬(c.toNat:Int)=10:=V5 10 h10 rfl (by decide);rw[if_neg h10,hc,<- KA hf hi']at hxs;refine BU @hne ?_;intros;apply wr;exact aX (id) (by rw[hI];exact⟨i+1,f,xs,by omega,rfl,⟨by omega,hxs,by omega⟩,rfl⟩) (kX2 (AA (n:=(i:Int)+1)) @hw)
 rw[List.drop_eq_nil_of_le (by omega),iZ (by omega),lnF]at hxs;have hfl:¬f<s.length:=fun q=>by
  rw[if_neg (fun e=>by have:=congrArg List.length e;simp at this;omega)]at hxs;cases hxs
 rw[if_pos (List.drop_eq_nil_of_le (by omega))]at hxs;cases hxs;refine BU @hi' ?_;refine BU @hfl ?_;refine ar ?_;simp
end Go.Proofs.YtjkmhmepljamoaaGreat.As
end
