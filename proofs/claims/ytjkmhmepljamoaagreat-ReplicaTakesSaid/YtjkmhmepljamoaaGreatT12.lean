/- A part of the proof of ReplicaTakes. -/
import Derived.Test.YtjkmhmepljamoaaGreatT11
set_option linter.all false
set_option maxHeartbeats 16000000
set_option maxRecDepth 100000
section
namespace Go.Proofs.YtjkmhmepljamoaaGreat.As
open Go.Ab Go.RowKit Tryz
theorem G5(lo hi:Nat)(op:Int)(hh:hi<65)(h1:(lo:Int)<=op)(h2:op<=(hi:Int)):
  (((Ix.drop lo).take (hi-lo+1)).map fun s=>[V.str s])[(op-lo).toNat]? =some [.str (mnS op)]:=by
 have e:lo+(op-lo).toNat=op.toNat:=by omega
 rw[fH,List.getElem?_take_of_lt (by omega),fS,e,mnS,eP,eR (show op.toNat<Ix.length from Nat.lt_of_le_of_lt (by omega) hh)];rfl
set_option maxHeartbeats 16000000 in
theorem Iy(op:Int):AC prog 285 [.int .i64 op] (.str (mnS op)):=by
 refine sX func285 ntmps285 ?_;intros;apply wr;refine AB rfl (fun h=>?_) (fun h=>?_)
 ·simp at h;have hw:IntKind.i64.wrap (op-1)=op-1:=AA (by omega) (by omega);have hx:=G5 1 13 op (by decide) h.1 h.2;simp[Ix]at hx;refine au1 (kX2 @hw @hx) ?_;refine ar ?_;simp
 simp at h;refine au ?_;intros;apply wr;refine AB rfl (fun h=>?_) (fun h=>?_)
 ·simp at h;have hw:IntKind.i64.wrap (op-16)=op-16:=AA (by omega) (by omega);have hx:=G5 16 24 op (by decide) h.1 h.2;simp[Ix]at hx;refine au1 (kX2 @hw @hx) ?_;refine ar ?_;simp
 simp at h;refine au ?_;intros;apply wr;refine AB rfl (fun h=>?_) (fun h=>?_)
 ·simp at h;have hw:IntKind.i64.wrap (op-32)=op-32:=AA (by omega) (by omega);have hx:=G5 32 36 op (by decide) h.1 h.2;simp[Ix]at hx;refine au1 (kX2 @hw @hx) ?_;refine ar ?_;simp
 simp at h;refine au ?_;intros;apply wr;refine AB rfl (fun h=>?_) (fun h=>?_)
 ·simp at h;have hw:IntKind.i64.wrap (op-40)=op-40:=AA (by omega) (by omega);have hx:=G5 40 45 op (by decide) h.1 h.2;simp[Ix]at hx;refine au1 (kX2 @hw @hx) ?_;refine ar ?_;simp
 simp at h;refine au ?_;intros;apply wr;refine AB rfl (fun h=>?_) (fun h=>?_)
 ·simp at h;subst h;refine au ?_;refine ar ?_;simp[mnS,Ix]
 simp at h;refine au ?_;intros;apply wr;refine AB rfl (fun h=>?_) (fun h=>?_)
 ·simp at h;subst h;refine au ?_;refine ar ?_;simp[mnS,Ix]
 simp at h;refine au ?_;intros;apply wr;refine AB rfl (fun h=>?_) (fun h=>?_)
 ·simp at h;have hw:IntKind.i64.wrap (op-56)=op-56:=AA (by omega) (by omega);have hx:=G5 56 64 op (by decide) h.1 h.2;simp[Ix]at hx;refine au1 (kX2 @hw @hx) ?_;refine ar ?_;simp
 simp at h;refine au ?_;have hn:mnS op=[]:=by
  unfold mnS;rcases Nat.lt_or_ge op.toNat 65 with q|q
  ·exact(by decide:∀n<65,AI (n:Nat)=0->Ix.getD n []=[]) _ q (by unfold AI;(repeat rw[if_neg (by omega)]))
  rw[eP,fX q];rfl
 refine ar ?_;simp[hn]
theorem reg_ok(r:Int)(h0:0<=r)(h1:r<16):AC prog 320 [.int .i64 r] (.str (Yy r)):=by
 have hl:=Lib.itoa_length_le r (by omega) (by omega);refine sX func320 ntmps320 ?_;refine cY (Qi r h0 h1) @hl ?_;refine ar ?_;simp[Yy]
def Rm(c:UInt8):Bool:=decide (97<=c.toNat)&&decide (c.toNat<=122)
def PG(c:UInt8):Bool:=decide (48<=c.toNat)&&decide (c.toNat<=57)
theorem Ds(c:UInt8):AC prog 281 [.int .u8 c.toNat] (.bool (Rm c)):=by
 refine sX func281 ntmps281 ?_;intros;apply wr;refine ar ?_;simp[Rm];try (rw[Bool.eq_iff_iff];simp;try omega)
theorem digit_ok(c:UInt8):AC prog 282 [.int .u8 c.toNat] (.bool (PG c)):=by
 refine sX func282 ntmps282 ?_;intros;apply wr;refine ar ?_;simp[PG];try (rw[Bool.eq_iff_iff];simp;try omega)
set_option maxHeartbeats 4000000 in
theorem Pt(s:Str):AC prog 283 [.str s] (regV s):=by
 refine sX func283 ntmps283 ?_;intros;apply wr;obtain⟨I,hI⟩:∃I:Nat->St->Prop,I=(fun kk ss=>∃(i:Nat),i<=16/\kk=16-i/\((∀k,k<i->s≠Yy (k:Nat)))/\ss=⟨14,[(4,.int .i64 i),(0,.str s)],0,[],0⟩):=⟨_,rfl⟩;refine lX I (id) (by rw[hI];exact⟨0,by simp,rfl,(by intro k hk;omega),rfl⟩) ?_;intro kk ss hIk _;rw[hI]at hIk;obtain⟨i,hi,rfl,hx,rfl⟩:=hIk;have hw:IntKind.i64.wrap ((i:Int)+1)=((i+1:Nat):Int):=by rw[AA (by omega) (by omega)];omega
 refine au ?_;intros;apply wr;refine AB rfl (fun h=>?_) (fun h=>?_)
 ·simp at h;refine au ?_;refine cX (reg_ok (i:Int) (by omega) (by omega)) ?_;intros;apply wr;refine AB rfl (fun h2=>?_) (fun h2=>?_)
  ·simp at h2;refine au ?_;refine ar ?_;simp[reg_at s i (by omega) h2 hx]
  simp at h2;have hx2:∀k,k<i+1->s≠Yy (k:Nat):=fun k hk=>by
   by_cases e:k=i
   ·subst e;exact h2
   exact hx k (by omega)
  refine au ?_;intros;apply wr;exact aX (id) (by rw[hI];exact⟨i+1,by omega,rfl,hx2,rfl⟩) (kX2 (AA (n:=(i:Int)+1) (by omega) (by omega)) @hw)
 simp at h;have hi:i=16:=by omega
 subst hi;refine au ?_;refine ar ?_;simp[reg_no s hx]
def Ti(s:Str):Bool:=decide (1<=s.length)&&decide (s.length<=12)&&Rm (s.getD 0 0)&&(Yx s).isNone
set_option maxHeartbeats 4000000 in
theorem HL(s:Str):AC prog 218 [.str s] (.bool (Ti s)):=by
 refine sX func218 ntmps218 ?_;refine cX (Pt s) ?_;intros;apply wr;first|refine BW (Ds (s.getD 0 0)) rfl (fun hgd=>?_) (by simp[BV]) ?_|refine BC (Ds (s.getD 0 0)) rfl (by simp) (fun hgd=>?_) (by simp[BV]) ?_
 all_goals simp
 all_goals (try (first|exact hgd|(simp at hgd;first|done|assumption|grind)))
 refine au ?_;have e1:decide ((1:Int)<=(s.length:Int))=decide (1<=s.length):=decide_eq_decide.2 (by omega);have e2:decide ((s.length:Int)<=12)=decide (s.length<=12):=decide_eq_decide.2 (by omega);refine ar ?_;simp[Ti,e1,e2]
def opF(s:Str):Nat->Nat->Nat
 | 0,_=>0
 | k+1,op=>if AI (op:Nat)≠0/\mnS (op:Nat)=s then op else opF s k (op+1)
def opD(s:Str):Nat:=opF s 64 1
set_option maxHeartbeats 4000000 in
theorem Hg(s:Str):AC prog 221 [.str s] (.int .i64 (opD s)):=by
 refine sX func221 ntmps221 ?_;intros;apply wr;obtain⟨I,hI⟩:∃I:Nat->St->Prop,I=(fun kk ss=>∃(i:Nat),i<=64/\kk=64-i/\(opD s=opF s (64-i) (i+1))/\ss=⟨18,[(3,.int .i64 (i+1:Nat)),(0,.str s)],0,[],0⟩):=⟨_,rfl⟩;refine lX I (id) (by rw[hI];exact⟨0,by simp,rfl,rfl,rfl⟩) ?_;intro kk ss hIk _;rw[hI]at hIk;obtain⟨i,hi,rfl,hx,rfl⟩:=hIk;have hw:IntKind.i64.wrap ((i:Int)+1+1)=(i:Int)+1+1:=AA (by omega) (by omega);refine au ?_;intros;apply wr;refine AB rfl (fun h=>?_) (fun h=>?_)
 ·simp at h;have hst:opF s (64-i) (i+1)=if AI ((i+1:Nat):Int)≠0/\mnS ((i+1:Nat):Int)=s then i+1 else opF s (64-(i+1)) (i+1+1):=by
   rw[show 64-i=(64-(i+1))+1 by omega];rfl
  rw[hst]at hx;have hc:((i+1:Nat):Int)=(i:Int)+1:=by omega
  rw[hc]at hx;have hfr:=Eg ((i:Int)+1);refine au ?_;refine cX (Ii ((i:Int)+1)) ?_;intros;apply wr;first|refine BW (Iy ((i:Int)+1)) rfl (fun hgd=>?_) (by simp[BV]) ?_|refine BC (Iy ((i:Int)+1)) rfl (by simp) (fun hgd=>?_) (by simp[BV]) ?_
  all_goals simp
  all_goals (try (first|exact hgd|(simp at hgd;first|done|assumption|grind)))
  refine au ?_;intros;apply wr;refine AB rfl (fun h2=>?_) (fun h2=>?_)
  ·have hq:AI ((i:Int)+1)≠0/\mnS ((i:Int)+1)=s:=by
    simp at h2;exact⟨by omega,h2.2⟩
   rw[if_pos hq]at hx;refine au ?_;refine ar ?_;simp[hx]
  have hq:¬(AI ((i:Int)+1)≠0/\mnS ((i:Int)+1)=s):=by
   intro hq;simp at h2;exact h2 (by omega) hq.2
  rw[if_neg hq]at hx;refine au1 @hw ?_;intros;apply wr;exact aX (id) (by rw[hI];exact⟨i+1,by omega,rfl,hx,rfl⟩) (kX2 (AA (n:=(i:Int)+1) (by omega) (by omega)) @hw)
 simp at h;have hi:i=64:=by omega
 subst hi;refine au ?_;refine ar ?_;simp[hx,opF]
def patT:List (Str×Int×Str):=[([108,105],0,[114,44,120]),([99,115,114,119],59,[114,44,110]),([115,104,108,105],20,[114,44,114,44,110]),([111,114,105],18,[114,44,114,44,110]),([97,100,100],1,[114,44,114,44,114]),([115,119],35,[114,44,110,40,114,41]),([97,100,100,105],16,[114,44,114,44,110]),([98,108,116],42,[114,44,114,44,120]),([111,117,116],61,[114,44,110]),([101,114,101,116],57,[]),([99,115,114,114],58,[114,44,110]),([115,108,116,105],23,[114,44,114,44,110]),([98,101,113],40,[114,44,114,44,120]),([105,110],60,[114,44,110]),([97,110,100,105],17,[114,44,114,44,110])]
def patR(s:Str):Option Str:=(patT.find? fun x=>x.1==s).map fun x=>x.2.2
theorem bU:∀x∈patT,(opD x.1:Int)=x.2.1:=by decide +kernel
set_option maxHeartbeats 16000000 in
theorem pat_ok:∀x∈patT,AC prog 219 [.str x.1] (.tup [.str x.2.2,.bool true]):=by
 intro x hx;have ho:=bU x hx;have hc:=Hg x.1;rw[ho]at hc;have hf:=Ii x.2.1;simp only[patT,List.mem_cons,List.not_mem_nil,or_false]at hx;rcases hx with rfl|rfl|rfl|rfl|rfl|rfl|rfl|rfl|rfl|rfl|rfl|rfl|rfl|rfl|rfl;all_goals simp only at hc hf ⊢
 all_goals ((refine sX func219 ntmps219 ?_);intros;(apply wr))
 all_goals ((refine cc (hc) ?_))
 all_goals ((exact wx1 (qX1 (hf)) trivial @AI.eq_1))
theorem RF{s p:Str}(h:patR s=some p):AC prog 219 [.str s] (.tup [.str p,.bool true]):=by
 obtain⟨x,hx,rfl⟩:=Option.map_eq_some_iff.1 h;have e:=List.find?_some hx;simp only[beq_iff_eq]at e;subst e;exact pat_ok x (List.mem_of_find?_eq_some hx)
end Go.Proofs.YtjkmhmepljamoaaGreat.As
end
