/- A part of the proof of ReplicaTakes. -/
import Derived.Test.YtjkmhmepljamoaaGreatT17
import Derived.Test.YtjkmhmepljamoaaGreatT33
import Derived.Test.YtjkmhmepljamoaaGreatT39
set_option linter.all false
set_option maxHeartbeats 16000000
set_option maxRecDepth 100000
section
set_option maxRecDepth 1000000
namespace Go.Proofs.YtjkmhmepljamoaaGreat.As
open Go.Ab Go.RowKit Tryz
def kSrc:List UInt8:=[108,105,32,114,49,44,32,104,97,110,100,108,101,114,10,99,115,114,119,32,114,49,44,32,49,10,108,105,32,114,49,44,32,51,49,10,99,115,114,119,32,114,49,44,32,55,10,108,105,32,114,49,44,32,52,10,99,115,114,119,32,114,49,44,32,54,10,108,105,32,114,50,44,32,53,49,50,10,108,105,32,114,51,44,32,48,10,108,105,32,114,52,44,32,56,10,109,97,112,58,32,115,104,108,105,32,114,53,44,32,114,51,44,32,56,10,111,114,105,32,114,53,44,32,114,53,44,32,55,10,115,104,108,105,32,114,54,44,32,114,51,44,32,50,10,97,100,100,32,114,54,44,32,114,54,44,32,114,50,10,115,119,32,114,53,44,32,48,40,114,54,41,10,97,100,100,105,32,114,51,44,32,114,51,44,32,49,10,98,108,116,32,114,51,44,32,114,52,44,32,109,97,112,10,108,105,32,114,49,44,32,54,10,111,117,116,32,114,49,44,32,55,10,108,105,32,114,49,44,32,50,10,111,117,116,32,114,49,44,32,57,10,108,105,32,114,49,44,32,49,48,48,10,111,117,116,32,114,49,44,32,51,10,108,105,32,114,49,44,32,54,52,48,10,99,115,114,119,32,114,49,44,32,50,10,108,105,32,114,49,44,32,50,49,10,99,115,114,119,32,114,49,44,32,48,10,101,114,101,116,10,104,97,110,100,108,101,114,58,32,99,115,114,119,32,114,49,44,32,53,10,99,115,114,114,32,114,49,44,32,51,10,115,108,116,105,32,114,49,44,32,114,49,44,32,49,54,10,98,101,113,32,114,49,44,32,114,48,44,32,105,114,113,10,99,115,114,114,32,114,49,44,32,50,10,97,100,100,105,32,114,49,44,32,114,49,44,32,52,10,99,115,114,119,32,114,49,44,32,50,10,105,110,32,114,51,44,32,50,10,111,117,116,32,114,51,44,32,48,10,108,105,32,114,49,44,32,49,10,111,117,116,32,114,49,44,32,52,10,108,105,32,114,49,44,32,55,10,111,117,116,32,114,49,44,32,53,10,97,110,100,105,32,114,49,44,32,114,50,44,32,49,10,97,100,100,105,32,114,49,44,32,114,49,44,32,49,10,111,117,116,32,114,49,44,32,54,10,99,115,114,114,32,114,49,44,32,53,10,101,114,101,116,10,105,114,113,58,32,105,110,32,114,49,44,32,48,10,111,117,116,32,114,49,44,32,48,10,111,117,116,32,114,48,44,32,54,10,111,117,116,32,114,48,44,32,57,10,108,105,32,114,49,44,32,54,10,111,117,116,32,114,49,44,32,55,10,108,105,32,114,49,44,32,50,10,111,117,116,32,114,49,44,32,57,10,105,110,32,114,49,44,32,50,10,97,100,100,105,32,114,49,44,32,114,49,44,32,50,48,10,111,117,116,32,114,49,44,32,51,10,105,110,32,114,49,44,32,49,48,10,111,117,116,32,114,49,44,32,49,48,10,99,115,114,114,32,114,49,44,32,53,10,101,114,101,116,10]
def kL:List Str:=(lnF kSrc [] []).getD []
def kP:PrR:=(Yw kL 1 prR0).getD prR0
theorem kAsm:lnF kSrc [] []=some kL/\kL.length<=1000/\(Yw kL 1 prR0).isSome=true/\(kP.sts.length<=1000/\kP.syms.length<=1000)/\KU kP.syms kP.sts []=some kW:=by decide +kernel
theorem kernel_ok:AC prog 43 [.str kSrc] (.tup [.new 25 1 (ints .u32 kW),errV (0,0)]):=by
 obtain⟨h1,h2,h3,h4,h5⟩:=kAsm;obtain⟨p,hp⟩:=Option.isSome_iff_exists.1 h3;exact Ln kSrc kL kP kW (by decide) h1 h2 (by unfold kP;rw[hp];rfl) h4 h5
end Go.Proofs.YtjkmhmepljamoaaGreat.As
end
section
namespace Go.Proofs.YtjkmhmepljamoaaGreat
open Go.Ab Go.RowKit Tryz
theorem img_k{k:Int}(l:List Int)(h:k<2):ints .u32 (kW++List.replicate 85 0)++ints .u32 (D6 l)=ints .u32 (HK k l):=by
 unfold HK;rw[if_pos h];simp[ints]
theorem img_c{k:Int}(l:List Int)(h:¬k<2):ints .u32 (D6 l)=ints .u32 (HK k l):=by
 unfold HK;rw[if_neg h]
theorem kW_s(i:Nat):ints .u32 (kW++List.replicate i 0)++[[V.int .u32 0]]=ints .u32 (kW++List.replicate (i+1) 0):=by
 rw[List.replicate_succ'];simp[ints]
theorem Wi(kind:Int)(l:List Int)(hl:l.length<=60)
  (hrun:AC prog 41 [.st (G7 (HK 1 l)).row,nilE,lv 87] (.tup [.st (itD (G7 (HK 1 l)) 87).row,.sl 4 false [],iv 0,iv 0])) :
  AC prog 14 [iv kind,.sl 1 false (ints .i64 l)] (.st (mkD (kind%3) l).row):=by
 have hr:=Az kind 3 (by decide) (by decide);have hcode:=WI l (by omega);have hcl:(ints .u32 (D6 l)).length=l.length:=by rw[AM,Ex]
 have hil:=Ks (kind%3) l;have hnew:=bJ (HK (kind%3) l) (by omega);have hmk:mkD (kind%3) l=if kind%3=1 then itD (G7 (HK (kind%3) l)) 87 else G7 (HK (kind%3) l):=rfl
 have hil2:¬(256:Int)<((ints .u32 (HK (kind%3) l)).length:Int):=by rw[AM];omega
 by_cases hk2:kind%3<2
 ·have hap2:=img_k l hk2;by_cases hk1:kind%3=1
  ·rw[hmk,if_pos hk1];rw[hk1]at hnew hap2 hil2 ⊢;refine sX func14 ntmps14 ?_;refine cX (hr) ?_;refine EM @hk2 ?_;refine cX (As.kernel_ok) ?_;intros;apply wr;obtain⟨I,hI⟩:∃I:Nat->St->Prop,I=(fun kk ss=>∃(i:Nat),i<=85/\kk=85-i/\(True)/\ss=⟨47,[(5,.own 3),(0,iv (kind%3)),(1,.sl 1 false (ints .i64 l)),(4,.ptr 0 49 0 0)],6,[(3,some ⟨25,1,false,false,ints .u32 (kW++List.replicate i 0)⟩),(0,some ⟨42,49,true,false,[zMR0]⟩)],0⟩):=⟨_,rfl⟩;refine lX I (id) (by rw[hI];exact⟨0,by simp,rfl,trivial,rfl⟩) ?_;intro kk ss hIk _;rw[hI]at hIk;obtain⟨i,hi,rfl,hx,rfl⟩:=hIk;have hL:(ints .u32 (kW++List.replicate i 0)).length=75+i:=by rw[AM,eX,List.length_replicate];rfl
   have hap:=kW_s i;refine au1 @hL ?_;intros;apply wr;refine AB rfl (fun hh=>?_) (fun hh=>?_)
   ·simp at hh;refine au1 (kX3 @hL @hap @maxLen.eq_1) ?_;intros;apply wr;exact aX (fun x=>if x=3 then 7 else x) (by rw[hI];exact⟨i+1,by omega,rfl,trivial,rfl⟩) (kX2 (AA (n:=(i:Int)+1) (by omega) (by omega)) @hap)
   simp at hh;have hi85:i=85:=by omega
   subst hi85;generalize hZ:kW++List.replicate 85 0=Z at hL hap2 ⊢;refine au1 @hL ?_;refine cY (hcode) (kX4 @hL @hcl @maxLen.eq_1 @hap2) ?_;refine EL @hil2 @hil2 ?_;refine cX (hnew) ?_;refine EM @hk1 ?_;refine cX (hrun) ?_;refine aw ?_;simp
  rw[hmk,if_neg hk1];refine sX func14 ntmps14 ?_;refine cX (hr) ?_;refine EM @hk2 ?_;refine cX (As.kernel_ok) ?_;intros;apply wr;obtain⟨I,hI⟩:∃I:Nat->St->Prop,I=(fun kk ss=>∃(i:Nat),i<=85/\kk=85-i/\(True)/\ss=⟨47,[(5,.own 3),(0,iv (kind%3)),(1,.sl 1 false (ints .i64 l)),(4,.ptr 0 49 0 0)],6,[(3,some ⟨25,1,false,false,ints .u32 (kW++List.replicate i 0)⟩),(0,some ⟨42,49,true,false,[zMR0]⟩)],0⟩):=⟨_,rfl⟩;refine lX I (id) (by rw[hI];exact⟨0,by simp,rfl,trivial,rfl⟩) ?_;intro kk ss hIk _;rw[hI]at hIk;obtain⟨i,hi,rfl,hx,rfl⟩:=hIk;have hL:(ints .u32 (kW++List.replicate i 0)).length=75+i:=by rw[AM,eX,List.length_replicate];rfl
  have hap:=kW_s i;refine au1 @hL ?_;intros;apply wr;refine AB rfl (fun hh=>?_) (fun hh=>?_)
  ·simp at hh;refine au1 (kX3 @hL @hap @maxLen.eq_1) ?_;intros;apply wr;exact aX (fun x=>if x=3 then 7 else x) (by rw[hI];exact⟨i+1,by omega,rfl,trivial,rfl⟩) (kX2 (AA (n:=(i:Int)+1) (by omega) (by omega)) @hap)
  simp at hh;have hi85:i=85:=by omega
  subst hi85;generalize hZ:kW++List.replicate 85 0=Z at hL hap2 ⊢;refine au1 @hL ?_;refine cY (hcode) (kX4 @hL @hcl @maxLen.eq_1 @hap2) ?_;refine EL @hil2 @hil2 ?_;refine cX (hnew) ?_;refine B1 @hk1 ?_;refine aw ?_;simp
 have hap2:=img_c l hk2;rw[hmk,if_neg (by omega)];refine sX func14 ntmps14 ?_;refine cX (hr) ?_;refine B1 @hk2 ?_;refine cY (hcode) (kX3 @hcl @maxLen.eq_1 @hap2) ?_;refine EL @hil2 @hil2 ?_;refine cX (hnew) ?_;have hk1:¬kind%3=1:=by omega
 refine B1 @hk1 ?_;refine aw ?_;simp
theorem Tr.fin{u:Int}{m m':MchD}{l r:List EntD}{O:List OutD}(h:Tr u m l O m' r)(hu:m.count=u):m'=m/\O=[]/\r=l:=by
 cases h with
 | nil h _=>exact⟨rfl,rfl,rfl⟩
 | ev h=>omega
 | go h=>omega
 | clk h=>omega
theorem Tr.invE{u:Int}{m m':MchD}{e:EntD}{l r:List EntD}{O:List OutD}(h:Tr u m (e::l) O m' r)(hlt:m.count<u)(h1:e.at_=m.count)(h2:e.ev.kind≠1):Tr u (applyD m e.ev).1 l O m' r:=by
 cases h with
 | nil h _=>omega
 | ev h3 h4 h5=>exact h5
 | go h3 h4 h5 h6 h7=>have:=h6 _ rfl;omega
 | clk h3 h4 h5 h6 h7=>exact absurd rfl h2
theorem Tr.inv{u:Int}{m m':MchD}{l r:List EntD}{O:List OutD}(h:Tr u m l O m' r)(hlt:m.count<u)(hne:∀e,l.head? =some e->e.at_=m.count->e.ev.kind=1):
  runsD m=true/\((readsD m=false/\(∀e,l.head? =some e->e.at_≠m.count)/\∃O2,O=(goD m 0).2++O2/\Tr u (goD m 0).1 l O2 m' r) \/
   ∃c l2 O2,l=⟨m.count,⟨1,c,[]⟩⟩::l2/\W32 c/\readsD m=true/\O=(goD m c).2++O2/\Tr u (goD m c).1 l2 O2 m' r):=by
 cases h with
 | nil h _=>omega
 | ev h3 h4 h5=>exact absurd (hne _ rfl rfl) h4
 | go h3 h4 h5 h6 h7=>exact⟨h4,.inl ⟨h5,fun e he=>by have:=h6 e he;omega,_,rfl,h7⟩⟩
 | clk h3 h4 h5 h6 h7=>exact⟨h5,.inr ⟨_,_,_,rfl,h4,h6,rfl,h7⟩⟩
abbrev runT(n:Int)(l:List EntD)(u:Int):List (Nat×V):=[(11,.int .i64 n),(10,.own 53),(3,.ptr 0 49 0 0),(1,Br l),(2,lv u),(6,.ptr 1 49 0 0)]
abbrev V2(x:MchD)(acc:List OutD):List (Nat×Option Ob):=[(0,some (bG x (.own 29))),(29,some ⟨25,1,false,false,ints .u32 x.mem⟩),(53,some ⟨124,4,false,false,outs acc⟩),(1,some ⟨42,49,true,false,[zMR0]⟩)]
theorem O4(m m':MchD)(l lf:List EntD)(O:List OutD)(u:Int)(hM:OkM m)(hmay:mayD m=true)(hT:Tr u m l O m' lf)(hu:u<=1152921504606846976)(h4:u-m.count<=4000)(hl4:l.length<=400)(hord:ordD l=true)(hfo:firstOk m.count l=true)
  (hE:∀e∈l,W32 e.ev.n/\e.ev.data.length<=100000) :
  AC prog 41 [.st m.row,Br l,lv u] (.tup [.st m'.row,.sl 4 false (outs O),iv (l.length-lf.length),iv 0]):=by
 have hm:=U8 m hM.gv.1 (by have:=hM.gv.2;omega);rw[hmay]at hm;have hO:=QE m (by have:=hM.n;omega);have hor:=cM l (by omega);rw[hord]at hor;have hl:=BA l;have hle:=hT.le;have hc0:=Cj hM;have g1:¬u<m.count:=by omega
 have g2:¬4000<IntKind.u64.wrap (u-m.count):=by rw[IntKind.wrap_u64];omega
 have g3:¬(400:Int)<l.length:=by omega
 refine sX func41 ntmps41 ?_;refine cY (hm) @hl ?_;refine B1 (kX4 @g1 @g2 @g3 @hl) ?_;(repeat intro K hK);apply wr;refine CH (α:=Unit) (fun _=>(⟨140,[(52,.bool false),(1,Br l),(2,lv u),(3,.ptr 0 49 0 0),(6,.ptr 1 49 0 0)],4,[(0,some ⟨42,49,true,false,[m.row]⟩),(1,some ⟨42,49,true,false,[zMR0]⟩)],0⟩:St)) (fun _=>True) hK (fun _ hxhJ=>?_) (fun hJ=>?_);all_goals clear hK
 ·refine CX ?_;refine cX (hO) ?_;(repeat intro K hK);apply wr;refine AU 10 124 4 (by decide) rfl ?_;simp;obtain⟨I,hI⟩:∃I:Nat->St->Prop,I=(fun kk ss=>∃(i:Nat)(x:MchD)(n:Nat)(acc:List OutD),i<=(u-m.count).toNat/\kk=(u-m.count).toNat-i/\((∃O',Tr u x (l.drop n) O' m' lf/\acc++O'=O)/\x.count=m.count+i/\OkM x/\mayD x=true/\n<=l.length/\acc.length<=i)/\ss=⟨140,runT n l u,54,V2 x acc,0⟩):=⟨_,rfl⟩;refine lX I (id) (by rw[hI];exact⟨0,m,0,[],by simp,rfl,⟨⟨O,hT,rfl⟩,by simp,hM,hmay,by simp,by simp⟩,rfl⟩) ?_;intro kk ss hIk _;rw[hI]at hIk;obtain⟨i,x,n,acc,hi,rfl,hx,rfl⟩:=hIk;obtain⟨⟨O',hx1,hx2⟩,hx3,hx4,hx5,hx6,hx7⟩:=hx;have hxle:=hx1.le;refine au ?_;(repeat intro K hK);apply wr;by_cases hlt:x.count<u
  ·have c2:x.count<1152921504606846976:=by omega
   refine EM (kX2 @hlt @c2) ?_;(repeat intro K hK);apply wr;refine CH (α:=MchD×Nat) (fun⟨y,k⟩=>(⟨140,runT k l u,54,V2 y acc,0⟩:St)) (fun⟨y,k⟩=>Tr u y (l.drop k) O' m' lf/\y.count=x.count/\OkM y/\mayD y=true/\k<=l.length/\(∀e,l[k]? =some e->e.at_=y.count->e.ev.kind=1)) hK (fun⟨y,k⟩ hxhG=>?_) (fun hG=>?_);all_goals clear hK
   ·obtain⟨hy1,hy2,hy3,hy4,hy5,hy6⟩:=hxhG;obtain⟨hrn,hcase⟩:=hy1.inv (by omega) (fun e he=>hy6 e (by rwa[List.head?_drop]at he));have hrx:=hrn;unfold runsD at hrx;simp only[eU,gC,decide_eq_true_eq]at hrx;obtain⟨⟨⟨-,r2⟩,r3⟩,r4⟩:=hrx;have hId:=X7 y hy3;rw[r3]at hId;have hR:=Ug y hy3;rw[Yu hrn]at hR;have hwk:IntKind.i64.wrap ((k:Int)+1)=((k+1:Nat):Int):=by rw[AA (by omega) (by omega)];omega
    have hla:=BB acc;refine au ?_;refine B1 @r2 ?_;refine cn (hId) ?_;refine au ?_;refine CX ?_;(repeat intro K hK);apply wr;rcases hcase with⟨hrd,hhd,O2,hO2,hT2⟩|⟨c,l2,O2,hl2,hcw,hrd,hO2,hT2⟩
    ·rw[hrd]at hR;have hgo:=M3 hy3 hrn BD;have hgm:=(CJ _).2 (H8 hy3 hrn 0);rcases Nat.lt_or_ge k l.length with hk|hk
     ·obtain⟨e,he,-,-,hmem⟩:=get_at hk;have hge:=B0 he;have hv:¬e.at_=y.count:=hhd e (by rw[List.head?_drop];exact he);have c3:(k:Int)<l.length:=by omega
      refine AG 15 [0,0,2,7,15,31,31,127,255,511,31,1055,4095,8191,16383] [(3,([[],[],[1]],[])),(1,([],[])),(1,([],[])),(7,([[],[],[0,1],[0,1,2],[0,1,2,3],[],[5]],[])),(1,([],[])),(1,([],[])),(1,([],[]))] ?_;refine af1 (kX6 @hl @c3 @hk @hge (N3 hge) @hv) ?_;refine cn (hR) ?_;refine af1 @hv ?_;refine Ae @hv ?_;refine Ae @hv ?_;(repeat intro K hK);apply wr;refine cO ?_;refine(LR 0 29 y (0) hy3 (by simp[lookO]) (by simp[lookO]) (by omega) (by omega) (by decide)).mono fun r nx' ob' hp=>?_;simp only[BS];obtain⟨hr,p1,p2,p3,p4⟩:=hp;have y1:=p4 1 (by omega) (by decide) (by decide);have y2:=p4 53 (by omega) (by decide) (by decide);simp[lookO]at y1 y2;have z0:¬nx'=0:=by omega
      have z1:¬nx'=1:=by omega
      have z2:¬nx'=29:=by omega
      have w0:¬0=nx':=by omega
      have w1:¬1=nx':=by omega
      have w2:¬29=nx':=by omega
      have w3:29<nx'+1:=by omega
      have hso:(goD y (0)).2.length<=1:=by have:=DR y (0);unfold stepD at this;rwa[if_pos hrn]at this
      generalize goD y (0)=G at *;have hlG:=BB G.2;have hT3:Tr u G.1 (l.drop (k)) O2 m' lf:=hT2;rcases hr with rfl|⟨rfl,hz⟩
      ·simp[y2];refine af1 (kX7 @y1 @y2 @p2 @p3 @hla @hlG @maxLen.eq_1) ?_;(repeat intro K hK);apply wr;refine EC ((u-m.count).toNat-(i+1)) ((fun(i:Nat)(x:MchD)(n:Nat)(acc:List OutD)=>(⟨140,runT n l u,54,V2 x acc,0⟩:St)) (i+1) G.1 (k) (acc++G.2)) (fun x=>if x=53 then nx' else x) (by omega) (by rw[hI];exact⟨i+1,G.1,(k),(acc++G.2),by omega,rfl,⟨⟨O2,hT3,by rw[fL,<- hO2];exact hx2⟩,by rw[hgo.2,hy2,hx3];omega,hgo.1,hgm,by omega,by rw[eX];omega⟩,rfl⟩) ⟨rfl,?_,?_,?_,by simp⟩
       ·simp[leT,ltV,lt1,ren,Ao,AA (n:=(i:Int)+1) (by omega) (by omega),lookO,y1,p2,p3,z0,z1,z2,w0,w1,w2,w3,B8]
       ·simp[leO,lt1,Ao,lookO,y1,p2,p3,z0,z1,z2,w0,w1,w2,w3,B8]
       (simp;try omega)
      simp[y2];refine af1 (kX6 @y1 @y2 @p2 @p3 @hla @maxLen.eq_1) ?_;(repeat intro K hK);apply wr;refine EC ((u-m.count).toNat-(i+1)) ((fun(i:Nat)(x:MchD)(n:Nat)(acc:List OutD)=>(⟨140,runT n l u,54,V2 x acc,0⟩:St)) (i+1) G.1 (k) (acc++G.2)) (fun x=>if x=53 then nx' else x) (by omega) (by rw[hI];exact⟨i+1,G.1,(k),(acc++G.2),by omega,rfl,⟨⟨O2,hT3,by rw[fL,<- hO2];exact hx2⟩,by rw[hgo.2,hy2,hx3];omega,hgo.1,hgm,by omega,by rw[eX];omega⟩,rfl⟩) ⟨rfl,?_,?_,?_,by simp⟩
      ·simp[leT,ltV,lt1,ren,Ao,AA (n:=(i:Int)+1) (by omega) (by omega),lookO,y1,p2,p3,z0,z1,z2,w0,w1,w2,w3,B8,hz]
      ·simp[leO,lt1,Ao,lookO,y1,p2,p3,z0,z1,z2,w0,w1,w2,w3,B8,hz]
      (simp;try omega)
     have c3:¬(k:Int)<l.length:=by omega
     have hk2:¬k<l.length:=by omega
     refine AG 15 [0,0,2,7,15,31,31,127,255,511,31,1055,4095,8191,16383] [(3,([[],[],[1]],[])),(1,([],[])),(1,([],[])),(7,([[],[],[0,1],[0,1,2],[0,1,2,3],[],[5]],[])),(1,([],[])),(1,([],[])),(1,([],[]))] ?_;refine af1 (kX3 @hl @c3 @hk2) ?_;refine cn (hR) ?_;refine af ?_;refine BU ?_;refine BU ?_;(repeat intro K hK);apply wr;refine cO ?_;refine(LR 0 29 y (0) hy3 (by simp[lookO]) (by simp[lookO]) (by omega) (by omega) (by decide)).mono fun r nx' ob' hp=>?_;simp only[BS];obtain⟨hr,p1,p2,p3,p4⟩:=hp;have y1:=p4 1 (by omega) (by decide) (by decide);have y2:=p4 53 (by omega) (by decide) (by decide);simp[lookO]at y1 y2;have z0:¬nx'=0:=by omega
     have z1:¬nx'=1:=by omega
     have z2:¬nx'=29:=by omega
     have w0:¬0=nx':=by omega
     have w1:¬1=nx':=by omega
     have w2:¬29=nx':=by omega
     have w3:29<nx'+1:=by omega
     have hso:(goD y (0)).2.length<=1:=by have:=DR y (0);unfold stepD at this;rwa[if_pos hrn]at this
     generalize goD y (0)=G at *;have hlG:=BB G.2;have hT3:Tr u G.1 (l.drop (k)) O2 m' lf:=hT2;rcases hr with rfl|⟨rfl,hz⟩
     ·simp[y2];refine af1 (kX7 @y1 @y2 @p2 @p3 @hla @hlG @maxLen.eq_1) ?_;(repeat intro K hK);apply wr;refine EC ((u-m.count).toNat-(i+1)) ((fun(i:Nat)(x:MchD)(n:Nat)(acc:List OutD)=>(⟨140,runT n l u,54,V2 x acc,0⟩:St)) (i+1) G.1 (k) (acc++G.2)) (fun x=>if x=53 then nx' else x) (by omega) (by rw[hI];exact⟨i+1,G.1,(k),(acc++G.2),by omega,rfl,⟨⟨O2,hT3,by rw[fL,<- hO2];exact hx2⟩,by rw[hgo.2,hy2,hx3];omega,hgo.1,hgm,by omega,by rw[eX];omega⟩,rfl⟩) ⟨rfl,?_,?_,?_,by simp⟩
      ·simp[leT,ltV,lt1,ren,Ao,AA (n:=(i:Int)+1) (by omega) (by omega),lookO,y1,p2,p3,z0,z1,z2,w0,w1,w2,w3,B8]
      ·simp[leO,lt1,Ao,lookO,y1,p2,p3,z0,z1,z2,w0,w1,w2,w3,B8]
      (simp;try omega)
     simp[y2];refine af1 (kX6 @y1 @y2 @p2 @p3 @hla @maxLen.eq_1) ?_;(repeat intro K hK);apply wr;refine EC ((u-m.count).toNat-(i+1)) ((fun(i:Nat)(x:MchD)(n:Nat)(acc:List OutD)=>(⟨140,runT n l u,54,V2 x acc,0⟩:St)) (i+1) G.1 (k) (acc++G.2)) (fun x=>if x=53 then nx' else x) (by omega) (by rw[hI];exact⟨i+1,G.1,(k),(acc++G.2),by omega,rfl,⟨⟨O2,hT3,by rw[fL,<- hO2];exact hx2⟩,by rw[hgo.2,hy2,hx3];omega,hgo.1,hgm,by omega,by rw[eX];omega⟩,rfl⟩) ⟨rfl,?_,?_,?_,by simp⟩
     ·simp[leT,ltV,lt1,ren,Ao,AA (n:=(i:Int)+1) (by omega) (by omega),lookO,y1,p2,p3,z0,z1,z2,w0,w1,w2,w3,B8,hz]
     ·simp[leO,lt1,Ao,lookO,y1,p2,p3,z0,z1,z2,w0,w1,w2,w3,B8,hz]
     (simp;try omega)
    rw[hrd]at hR;have he:l[k]? =some ⟨y.count,⟨1,c,[]⟩⟩:=by rw[<- List.head?_drop,hl2];rfl
    have hk:k<l.length:=by
     rcases Nat.lt_or_ge k l.length with q|q
     ·exact q
     rw[fX q]at he;cases he
    have hge:=B0 he;have c3:(k:Int)<l.length:=by omega
    have hgo:=M3 hy3 hrn hcw;have hgm:=(CJ _).2 (H8 hy3 hrn c);have hl3:l.drop (k+1)=l2:=by rw[<- List.tail_drop,hl2];rfl
    refine AG 15 [0,0,2,7,15,31,31,127,255,511,31,1055,4095,8191,16383] [(3,([[],[],[1]],[])),(1,([],[])),(1,([],[])),(7,([[],[],[0,1],[0,1,2],[0,1,2,3],[],[5]],[])),(1,([],[])),(1,([],[])),(1,([],[]))] ?_;refine af1 (kX5 @hl @c3 @hk @hge (N3 hge)) ?_;refine cn (hR) ?_;refine af ?_;refine BU ?_;refine TI (kX6 @hl @c3 @hk @hge (N3 hge) @hwk) ?_;(repeat intro K hK);apply wr;rw[<- hl3]at hT2;refine cO ?_;refine(LR 0 29 y (c) hy3 (by simp[lookO]) (by simp[lookO]) (by omega) (by omega) (by decide)).mono fun r nx' ob' hp=>?_;simp only[BS];obtain⟨hr,p1,p2,p3,p4⟩:=hp;have y1:=p4 1 (by omega) (by decide) (by decide);have y2:=p4 53 (by omega) (by decide) (by decide);simp[lookO]at y1 y2;have z0:¬nx'=0:=by omega
    have z1:¬nx'=1:=by omega
    have z2:¬nx'=29:=by omega
    have w0:¬0=nx':=by omega
    have w1:¬1=nx':=by omega
    have w2:¬29=nx':=by omega
    have w3:29<nx'+1:=by omega
    have hso:(goD y (c)).2.length<=1:=by have:=DR y (c);unfold stepD at this;rwa[if_pos hrn]at this
    generalize goD y (c)=G at *;have hlG:=BB G.2;have hT3:Tr u G.1 (l.drop ((k+1))) O2 m' lf:=hT2;rcases hr with rfl|⟨rfl,hz⟩
    ·simp[y2];refine af1 (kX7 @y1 @y2 @p2 @p3 @hla @hlG @maxLen.eq_1) ?_;(repeat intro K hK);apply wr;refine EC ((u-m.count).toNat-(i+1)) ((fun(i:Nat)(x:MchD)(n:Nat)(acc:List OutD)=>(⟨140,runT n l u,54,V2 x acc,0⟩:St)) (i+1) G.1 ((k+1)) (acc++G.2)) (fun x=>if x=53 then nx' else x) (by omega) (by rw[hI];exact⟨i+1,G.1,((k+1)),(acc++G.2),by omega,rfl,⟨⟨O2,hT3,by rw[fL,<- hO2];exact hx2⟩,by rw[hgo.2,hy2,hx3];omega,hgo.1,hgm,by omega,by rw[eX];omega⟩,rfl⟩) ⟨rfl,?_,?_,?_,by simp⟩
     ·simp[leT,ltV,lt1,ren,Ao,AA (n:=(i:Int)+1) (by omega) (by omega),lookO,y1,p2,p3,z0,z1,z2,w0,w1,w2,w3,B8]
     ·simp[leO,lt1,Ao,lookO,y1,p2,p3,z0,z1,z2,w0,w1,w2,w3,B8]
     (simp;try omega)
    simp[y2];refine af1 (kX6 @y1 @y2 @p2 @p3 @hla @maxLen.eq_1) ?_;(repeat intro K hK);apply wr;refine EC ((u-m.count).toNat-(i+1)) ((fun(i:Nat)(x:MchD)(n:Nat)(acc:List OutD)=>(⟨140,runT n l u,54,V2 x acc,0⟩:St)) (i+1) G.1 ((k+1)) (acc++G.2)) (fun x=>if x=53 then nx' else x) (by omega) (by rw[hI];exact⟨i+1,G.1,((k+1)),(acc++G.2),by omega,rfl,⟨⟨O2,hT3,by rw[fL,<- hO2];exact hx2⟩,by rw[hgo.2,hy2,hx3];omega,hgo.1,hgm,by omega,by rw[eX];omega⟩,rfl⟩) ⟨rfl,?_,?_,?_,by simp⟩
    ·simp[leT,ltV,lt1,ren,Ao,AA (n:=(i:Int)+1) (by omega) (by omega),lookO,y1,p2,p3,z0,z1,z2,w0,w1,w2,w3,B8,hz]
    ·simp[leO,lt1,Ao,lookO,y1,p2,p3,z0,z1,z2,w0,w1,w2,w3,B8,hz]
    (simp;try omega)
   obtain⟨Ij,hIj⟩:∃I:Nat->St->Prop,I=(fun kk ss=>∃(j:Nat)(y:MchD),j<=(l.length-n)/\kk=(l.length-n)-j/\(Tr u y (l.drop (n+j)) O' m' lf/\y.count=x.count/\OkM y/\mayD y=true)/\ss=⟨140,runT ((n+j:Nat):Int) l u,54,V2 y acc,0⟩):=⟨_,rfl⟩;refine lX Ij (id) (by rw[hIj];exact⟨0,x,by simp,rfl,⟨by simpa using hx1,rfl,hx4,hx5⟩,rfl⟩) ?_;intro kk ss hIk _;rw[hIj]at hIk;obtain⟨j,y,hj,rfl,hxj,rfl⟩:=hIk;obtain⟨hy1,hy2,hy3,hy4⟩:=hxj;refine af ?_;(repeat intro K hK);apply wr;rcases Nat.lt_or_ge (n+j) l.length with hk|hk
   ·obtain⟨e,he,hde,-,hmem⟩:=get_at hk;have hge:=B0 he;have tn:((n:Int)+(j:Int)).toNat=n+j:=by omega
    have c3:(n:Int)+(j:Int)<l.length:=by omega
    have c4:(0:Int)<=(n:Int)+(j:Int):=by omega
    refine AG 23 [0,0,2,7,15,31,31,127,255,511,31,1055,4095,8191,16383,32767,32767,131071,262143,524287,1048575,2097151,4194303] [(3,([[],[],[1]],[])),(1,([],[])),(1,([],[])),(7,([[],[],[0,1],[0,1,2],[0,1,2,3],[],[5]],[])),(1,([],[])),(1,([],[])),(1,([],[])),(2,([[],[]],[])),(1,([],[])),(1,([],[])),(1,([],[])),(1,([],[])),(1,([],[])),(1,([],[]))] ?_;refine af1 (kX6 @hl @c3 @c4 @tn @hge (N3 hge)) ?_;(repeat intro K hK);apply wr;by_cases hev:e.at_=y.count/\e.ev.kind≠1
    ·obtain⟨v1,v2⟩:=hev;refine Ce (kX2 @v1 @v2) (kX6 @hl @c3 @c4 @tn @hge (N3 hge)) ?_;(repeat intro K hK);apply wr;refine cO ?_;refine(Mt 0 29 y e.ev hy3 hy4 (hE e hmem).1 (hE e hmem).2 (by simp[lookO]) (by simp[lookO]) (by omega) (by omega) (by decide)).mono fun r nx' ob' hp=>?_;simp only[BS];obtain⟨rfl,p1,p2,p3,p4⟩:=hp;have y1:=p4 1 (by omega) (by decide) (by decide);have y2:=p4 53 (by omega) (by decide) (by decide);simp[lookO]at y1 y2;simp;refine af1 (kX3 @p2 @y1 @y2) ?_;(repeat intro K hK);apply wr;have hap:=DU hy3 (e:=e.ev) (hE e hmem).1;rw[hde]at hy1;have hwj:IntKind.i64.wrap ((n:Int)+(j:Int)+1)=(n:Int)+((j:Int)+1):=by rw[AA (by omega) (by omega)];omega
     refine EC ((l.length-n)-(j+1)) ((fun(j:Nat)(y:MchD)=>(⟨140,runT ((n+j:Nat):Int) l u,54,V2 y acc,0⟩:St)) (j+1) (applyD y e.ev).1) (id) (by omega) (by rw[hIj];exact⟨j+1,(applyD y e.ev).1,by omega,rfl,⟨by have:=hy1.invE (by omega) v1 v2;rwa[show n+(j+1)=n+j+1 by omega],by rw[hap.2,hy2],hap.1,CO hy3 hy4 e.ev⟩,rfl⟩) ⟨rfl,?_,?_,?_,by simp⟩
     ·simp[leT,ltV,lt1,ren,Ao,AA (n:=(j:Int)+1) (by omega) (by omega),lookO,y1,y2,p2,p3,hwj]
     ·simp[leO,lt1,Ao,lookO,y1,y2,p2,p3,hwj]
     (simp;try omega)
    by_cases v1:e.at_=y.count
    ·have v2:e.ev.kind=1:=Classical.byContradiction fun z=>hev ⟨v1,z⟩;refine Ae (kX2 @v1 @v2) ?_;(repeat intro K hK);apply wr;refine hG ⟨y,(n+j)⟩ _ (id) (⟨hy1,hy2,hy3,hy4,by omega,fun e' he' q=>by rw[he]at he';cases he';exact Classical.byContradiction fun z=>hev ⟨q,z⟩⟩) ⟨rfl,?_,?_,?_,by simp⟩
     ·simp[leT,ltV,lt1,ren,Ao]
     ·simp[leO,lt1,Ao]
     (simp;try omega)
    refine Ae @v1 ?_;(repeat intro K hK);apply wr;refine hG ⟨y,(n+j)⟩ _ (id) (⟨hy1,hy2,hy3,hy4,by omega,fun e' he' q=>by rw[he]at he';cases he';exact Classical.byContradiction fun z=>hev ⟨q,z⟩⟩) ⟨rfl,?_,?_,?_,by simp⟩
    ·simp[leT,ltV,lt1,ren,Ao]
    ·simp[leO,lt1,Ao]
    (simp;try omega)
   obtain⟨k,hkk⟩:∃k:Nat,n+j=k:=⟨_,rfl⟩;rw[hkk]at hy1 hk ⊢;have c3:¬(k:Int)<l.length:=by omega
   have hk2:¬k<l.length:=by omega
   refine AG 23 [0,0,2,7,15,31,31,127,255,511,31,1055,4095,8191,16383,32767,32767,131071,262143,524287,1048575,2097151,4194303] [(3,([[],[],[1]],[])),(1,([],[])),(1,([],[])),(7,([[],[],[0,1],[0,1,2],[0,1,2,3],[],[5]],[])),(1,([],[])),(1,([],[])),(1,([],[])),(2,([[],[]],[])),(1,([],[])),(1,([],[])),(1,([],[])),(1,([],[])),(1,([],[])),(1,([],[]))] ?_;refine af1 (kX3 @hl @c3 @hk2) ?_;refine BU ?_;(repeat intro K hK);apply wr;refine hG ⟨y,k⟩ _ (id) (⟨hy1,hy2,hy3,hy4,by omega,fun e' he' q=>by rw[fX (by omega)]at he';cases he'⟩) ⟨rfl,?_,?_,?_,by simp⟩
   ·simp[leT,ltV,lt1,ren,Ao]
   ·simp[leO,lt1,Ao]
   (simp;try omega)
  have hxu:x.count=u:=by omega
  obtain⟨e1,e2,e3⟩:=hx1.fin hxu;have e4:(l.length:Int)-((l.drop n).length:Int)=n:=by rw[fF];omega
  rw[e2,f7]at hx2;refine Ae @hlt ?_;(repeat intro K hK);apply wr;refine aw ?_;simp[e1,hx2,e3,e4];omega
 rcases Nat.eq_zero_or_pos l.length with hz|hpos
 ·have hz2:l=[]:=fG hz;refine AG 17 [0,1,3,7,15,31,63,127,255,511,1023,2047,255,4351,16383,32767,65535] [(1,([],[])),(1,([],[])),(1,([],[])),(1,([],[])),(1,([],[])),(1,([],[])),(1,([],[])),(1,([],[])),(6,([[],[0],[0,1],[0,1,2],[],[4]],[])),(1,([],[])),(1,([],[])),(1,([],[]))] ?_;refine af1 (kX2 @hl @hz) ?_;refine cYf (hor) (kX2 @hl @hz) ?_;(repeat intro K hK);apply wr;refine hJ () _ (id) (trivial) ⟨rfl,?_,?_,?_,by simp⟩
  ·simp[leT,ltV,lt1,ren,Ao]
  ·simp[leO,lt1,Ao]
  (simp;try omega)
 obtain⟨a,ha0,-,-,-⟩:=get_at hpos;have hg0:=B0 ha0;have hfa:¬a.at_<m.count:=by cases l with|nil=>cases ha0|cons b r=>cases ha0;simpa[firstOk]using hfo
 refine AG 17 [0,1,3,7,15,31,63,127,255,511,1023,2047,255,4351,16383,32767,65535] [(1,([],[])),(1,([],[])),(1,([],[])),(1,([],[])),(1,([],[])),(1,([],[])),(1,([],[])),(1,([],[])),(6,([[],[0],[0,1],[0,1,2],[],[4]],[])),(1,([],[])),(1,([],[])),(1,([],[]))] ?_;refine af1 (kX5 @hl @hpos @hg0 (N3 hg0) @hfa) ?_;refine cYf (hor) (kX5 @hl @hpos @hg0 (N3 hg0) @hfa) ?_;(repeat intro K hK);apply wr;refine hJ () _ (id) (trivial) ⟨rfl,?_,?_,?_,by simp⟩
 ·simp[leT,ltV,lt1,ren,Ao]
 ·simp[leO,lt1,Ao]
 (simp;try omega)
theorem Po{m:MchD}(n:Nat)(hs:∀k<n,(itD m k).count=k/\runsD (itD m k)=true/\readsD (itD m k)=false/\(goD (itD m k) 0).2=[])(hc:(itD m n).count=n):∀j,j<=n->Tr n (itD m (n-j)) [] [] (itD m n) []
 | 0,_=>.nil hc rfl
 | j+1,hj=>by
  obtain⟨h1,h2,h3,h4⟩:=hs (n-(j+1)) (by omega);have ih:=Po n hs hc j (by omega);have e:itD m (n-j)=(goD (itD m (n-(j+1))) 0).1:=by
   rw[show n-j=(n-(j+1))+1 by omega];rfl
  rw[e]at ih;have:=Tr.go (by omega) h2 h3 (by simp) ih;rwa[h4]at this
theorem cS(l:List Int)(hl:l.length<=60):AC prog 41 [.st (G7 (HK 1 l)).row,nilE,lv 87] (.tup [.st (itD (G7 (HK 1 l)) 87).row,.sl 4 false [],iv 0,iv 0]):=by
 have hi:=Ks 1 l;have h1:=Yo (Yd 1 l) (by omega);have h2:=P9 (w:=HK 1 l) (by omega);have hq:∀j<87,KR (itD (G7 (HK 1 l)) j)=true:=by
  intro j hj;rw[Yn l hl];exact List.all_eq_true.1 (k_q1 fun i=>(D6 l).getD i 0) j (List.mem_range.2 hj)
 have h0:(G7 (HK 1 l)).count=0:=rfl;generalize G7 (HK 1 l)=m at *;have hit:∀k≤87,OkM (itD m k)/\mayD (itD m k)=true/\(itD m k).count=k/\(itD m k).dk=m.dk:=fun k hk=>it_ok h1 h2 h0 k (by omega) fun j hj=>hq j (by omega);have hT:=Po (m:=m) 87 (fun k hk=>by
  obtain⟨g1,g2,g3,g4⟩:=hit k (by omega);have q:=hq k hk;unfold KR at q;simp only[eU,gC]at q;have hr:runsD (itD m k)=true:=by unfold runsD;rw[g2,q.1,q.2.1,g3];simp;omega
  refine⟨g3,hr,by rw[<- Yu hr];exact q.2.2.1,?_⟩;first|exact(LQ q.2.2.2).2|exact(LQ q.2.2.2.1).2) (hit 87 (by omega)).2.2.1 87 (by omega)
 have hR:=O4 m (itD m 87) [] [] [] 87 h1 h2 hT (by omega) (by rw[h0];omega) (by simp) rfl rfl (by simp);exact hR.wk (by simp[wkT,wkC,wk1,ents])
theorem P4(kind:Int)(l:List Int)(hl:l.length<=60):AC prog 14 [iv kind,.sl 1 false (ints .i64 l)] (.st (mkD (kind%3) l).row):=Wi kind l hl (cS l hl)
end Go.Proofs.YtjkmhmepljamoaaGreat
end
