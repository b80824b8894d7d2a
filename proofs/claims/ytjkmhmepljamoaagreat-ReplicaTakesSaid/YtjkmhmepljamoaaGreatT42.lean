/- A part of the proof of ReplicaTakes. -/
import Derived.Test.YtjkmhmepljamoaaGreatT41
set_option linter.all false
set_option maxHeartbeats 16000000
set_option maxRecDepth 100000
section
namespace Go.Proofs.YtjkmhmepljamoaaGreat
open Go.Ab Go.RowKit Tryz
theorem Wx{s:Str}(c i st:Nat)(out:Str)(h:¬i<s.length):Hw s c i st out=out++Hr (s.drop st):=by
 cases c with
 | zero=>rfl
 | succ c=>unfold Hw;rw[if_neg h]
theorem Ox(s:Str):(AO s).map Eb=s:=by
 induction s with
 | nil=>rfl
 | cons b s ih =>
  have:AO (b::s)=[V.int .u8 (b.toNat:Int)]::AO s:=rfl;rw[this,fJ,ih];congr 1;simp[Eb]
theorem YW(s:Str):∀y∈AO s,Cf y:=fun y hy=>by
 obtain⟨b,-,rfl⟩:=List.mem_map.1 hy;exact⟨b,rfl⟩
theorem Zg(s:Str)(hs:s.length<=100000):AC prog 128 [.str s] (.str (GI s)):=by
 refine sX func128 ntmps128 ?_;intros;apply wr;refine AU 4 5 1 (by decide) rfl ?_;simp;refine Ad (s.length+1) ?_;refine BH (fun c stt=>∃(T:List (Nat×V))(i st wn:Nat)(out:Str)(id nx:Nat)(o:List (Nat×Option Ob))(L:List Nat),stt=⟨54,T,nx,o,0⟩/\(lkT T 0=.str s/\lkT T 3=.ptr 1 3 0 0/\lkT T 6=.int .i64 i/\lkT T 5=.int .i64 st/\lkT T 4=.own id)/\(i<=s.length/\st<=i/\s.length<=i+c/\wn<=i)/\Hw s c i st out=GI s/\Win s wn o nx 1 0 L/\(lookO o id=some (byO out)/\id∉L/\2<=id/\id<nx)/\out.length<=2*st) ?_ _ _ ⟨_,0,0,0,[],2,3,_,[],rfl,by simp[lkT],by omega,rfl,⟨by simp[lookO],[],by simp[lookO],⟨by simp[mkeys],by simp[mnd],by simp[mget,Hu],by simp[CN],by simp[mget,Hu],by simp⟩⟩,by simp[lookO,AO],by simp⟩;rintro c stt ⟨T,i,st,wn,out,id,nx,o,L,rfl,⟨t0,t3,t6,t5,t4⟩,⟨b1,b2,b3,b4⟩,hE,hW,⟨hid,hidL,hid2,hidn⟩,hol⟩ Kl hKl;refine Bp [(0,.str s),(3,.ptr 1 3 0 0),(6,.int .i64 i),(5,.int .i64 st),(4,.own id)] (by simp[t0,t3,t6,t5,t4]) ?_;by_cases hlt:i<s.length
 ·have c1:(i:Int)<s.length:=by omega
  obtain⟨f,rfl⟩:∃f,c=f+1:=⟨c-1,by omega⟩;refine au ?_;refine EM (kX2 @hlt @c1) ?_;intros;apply wr;refine cO ?_;refine(Xe 1 0 s wn i L hW b4 b1 hs ⟨by omega,by omega,by decide⟩).mono fun r nx' ob' hp=>?_;simp only[BS];obtain⟨rfl,hn1,L1,hW1,hL1,hq1⟩:=hp;have hid1:lookO ob' id=some (byO out):=by rw[hq1 id hidn hidL (by omega) (by omega)];exact hid
  have hidL1:id∉L1:=fun z=>by
   rcases hL1 id z with z|z
   ·exact hidL z
   omega
  clear hq1 hW hid hidL;simp;refine au ?_;intros;apply wr;refine cO ?_;refine(U7 1 0 s i L1 hW1 hlt hs).mono fun r nx' ob' hp=>?_;simp only[BS];obtain⟨rfl,rfl,rfl⟩:=hp;have hmo:=LH s i;rw[Hw,if_pos hlt]at hE;generalize Cv s i=dl at *;obtain⟨d,l⟩:=dl;simp only at hmo hE;simp;refine au ?_;intros;apply wr;by_cases hl0:l=0
  ·subst hl0;have w1:IntKind.i64.wrap ((i:Int)+1)=((i+1:Nat):Int):=by rw[AA (by omega) (by omega)];omega
   rw[if_pos rfl]at hE;refine II @w1 ?_;intros;apply wr;exact hKl f _ rfl ⟨_,i+1,st,i,out,id,_,_,L1,rfl,by simp[lkT],by omega,hE,hW1,⟨hid1,hidL1,hid2,by omega⟩,hol⟩
  rw[if_neg hl0]at hE;rcases hmo with hmo|hmo
  ·exact absurd hmo hl0
  obtain⟨l4,l67,il,d1,d255,di,-⟩:=hmo;have hli:(Hr ((s.take i).drop st)).length<=2*(i-st):=by
   refine f8 (Kz _ _) ?_;rw[fF,fE];omega
  refine B1 @hl0 ?_;intros;apply wr;refine cO ?_;refine(QA id out ((s.take i).drop st) hid1 (by omega) (by omega) (by rw[fF,fE];omega)).mono fun r nx' ob' hp=>?_;simp only[BS];obtain⟨id',rfl,ho',hn2,hid'n,hid'o,hq2⟩:=hp;simp;have hsid:id'∉L1:=fun z=>by
   rcases hid'o with rfl|h
   ·exact hidL1 z
   obtain⟨-,rows,-,hR⟩:=hW1;have:=(hR.ids id' z).1;omega
  obtain⟨hWw,rows,hWm,hR⟩:=hW1;have hW2:lookO ob' 1=some (cwO s (.omap 0) i):=by rw[hq2 1 (by omega) (by omega)];exact hWw
  have hM2:lookO ob' 0=some (cmO rows):=by rw[hq2 0 (by omega) (by omega)];exact hWm
  have hR2:WRows s (CN s i) ob' nx' 1 0 rows L1:=hR.congr (fun q hq=>hq2 q (hR.ids q hq).1 (fun e=>hidL1 (e▸hq))) hn2 (fun _=>rfl);clear hWw hWm hR hq2;obtain⟨x,hx'⟩:∃x,x=UInt8.ofNat (124+l):=⟨_,rfl⟩;obtain⟨y,hy'⟩:∃y,y=UInt8.ofNat d:=⟨_,rfl⟩;have hx:x.toNat=124+l:=by rw[hx'];exact Gs (by omega)
  have hy:y.toNat=d:=by rw[hy'];exact Gs (by omega)
  have w1:IntKind.i64.wrap (124+(l:Int))=124+(l:Int):=AA (by omega) (by omega);have w2:IntKind.u8.wrap (124+(l:Int))=(x.toNat:Int):=by rw[hx,IntKind.wrap_u8];omega
  have w3:IntKind.u8.wrap (d:Int)=(y.toNat:Int):=by rw[hy,IntKind.wrap_u8];omega
  have w4:IntKind.i64.wrap ((i:Int)+l)=((i+l:Nat):Int):=by rw[AA (by omega) (by omega)];omega
  have d1:¬id'=nx':=by omega
  have d2:¬nx'=id':=by omega
  have hP:(AO (out++Hr ((s.take i).drop st))).length<=400000:=by rw[Kc,eX];omega
  have hP2:(AO (out++Hr ((s.take i).drop st))).length<=9223372036854775805:=by omega
  have hP3:(AO (out++Hr ((s.take i).drop st))).length<=140737488355326:=by omega
  have hap:AO (out++Hr ((s.take i).drop st))++[[V.int .u8 (x.toNat:Int)],[V.int .u8 (y.toNat:Int)]]=AO (out++Hr ((s.take i).drop st)++[x,y]):=by simp[AO]
  rw[<- hx',<- hy']at hE;have hlE:(out++Hr ((s.take i).drop st)++[x,y]).length<=2*(i+l):=by
   simp only[eX,fR,List.length_nil];omega
  obtain⟨out2,ho2⟩:∃out2,out2=out++Hr ((s.take i).drop st)++[x,y]:=⟨_,rfl⟩;rw[<- ho2]at hE hlE hap;refine au1 (Rl @ho' @maxLen.eq_1 @w1 @w2 @w3 @w4 @d1 @d2 @hP2 @hP3 @hap) ?_;intros;apply wr;refine hKl f _ rfl ⟨_,i+l,i+l,i,out2,nx'+1,_,_,L1,rfl,by simp[lkT],by omega,hE,⟨by simp[lookO,show ¬nx'=0 by omega,show ¬1=nx' by omega,show ¬1=nx'+1 by omega,show ¬1=id' by omega,hW2],rows,by simp[lookO,show ¬nx'=0 by omega,show ¬id'=0 by omega,show ¬0=nx' by omega,show ¬0=id' by omega,hM2],hR2.congr (fun q hq=>?_) (by omega) (fun _=>rfl)⟩,⟨by simp[lookO],fun z=>?_,by omega,by omega⟩,hlE⟩
  ·have a:=(hR2.ids q hq).1;simp[lookO,show ¬q=nx' by omega,show ¬q=nx'+1 by omega,show ¬q=id' from fun e=>hsid (e▸hq)]
  have a:=(hR2.ids _ z).1;omega
 rw[Wx _ _ _ _ hlt]at hE;refine au ?_;refine B1 @hlt ?_;intros;apply wr;refine cO ?_;refine(QA id out (s.drop st) hid hidn (by omega) (by rw[fF];omega)).mono fun r nx' ob' hp=>?_;simp only[BS];obtain⟨id',rfl,ho',-⟩:=hp;rw[hE]at ho';have hbk:=Ox (GI s);have hbi:=YW (GI s);simp[ho',hbk];refine⟨hbi,?_⟩;refine au ?_;refine ar ?_;simp
theorem Gv:∀(f:Nat)(t o x:Str),Gt f t o=some x->o.length<=x.length
 | 0,_,_,_,h=>by simp[Gt]at h
 | f+1,[],o,x,h=>by simp[Gt]at h;subst h;exact fA _
 | f+1,c::t,o,x,h=>by
  rw[Gu]at h;split at h
  ·split at h
   ·cases h
   have:=Gv f _ _ _ h;rw[eX]at this;omega
  split at h
  ·cases t with
   | nil=>simp at h
   | cons d t' =>
    simp only at h;split at h
    ·cases h
    have:=Gv f _ _ _ h;rw[Ke]at this;omega
  cases h
theorem SY{s:Str}{i:Nat}{b:UInt8}(h:s[i]? =some b):(AO s)[i]? =some [.int .u8 (b.toNat:Int)]:=by simp[AO,h]
theorem unp_ok(t x:Str)(most:Int)(f:Nat)(hu:Gt f t []=some x)(ht:t.length<=400000)(hx:(x.length:Int)<=most)(hm:most<=1000000):AC prog 191 [.str t,iv most] (.tup [.str x,iv 0]):=by
 have hx0:x.length<=1000000:=by omega
 have hmx:(if most<0 then 0 else most)=most:=by split<;>omega
 have hmx2:(if(0:Int)<most then most else 0)=most:=by split<;>omega
 refine sX func191 ntmps191 ?_;refine au1 (kX2 @hmx @hmx2) ?_;intros;apply wr;refine AU 6 5 1 (by decide) rfl ?_;refine Ad (t.length+1) ?_;refine BH (fun c stt=>∃(T:List (Nat×V))(i g:Nat)(out:Str)(id nx:Nat)(o:List (Nat×Option Ob)),stt=⟨97,T,nx,o,0⟩/\(lkT T 0=.str t/\lkT T 1=iv most/\lkT T 7=.int .i64 i/\lkT T 6=.own id)/\(i<=t.length/\t.length<=i+c)/\Gt g (t.drop i) out=some x/\lookO o id=some (byO out)/\id<nx) ?_ _ _ ⟨_,0,f,[],0,1,_,rfl,by simp[lkT];omega,by omega,hu,by simp[lookO,AO],by omega⟩;rintro c stt ⟨T,i,g,out,id,nx,o,rfl,⟨t0,t1,t7,t6⟩,⟨b1,b2⟩,hE,hid,hidn⟩ Kl hKl;refine Bp [(0,.str t),(1,iv most),(7,.int .i64 i),(6,.own id)] (by simp[t0,t1,t7,t6]) ?_;have hol:=Gv _ _ _ _ hE;have hbl:=Kc out;by_cases hlt:i<t.length
 ·have c1:(i:Int)<t.length:=by omega
  obtain⟨e,rfl⟩:∃e,c=e+1:=⟨c-1,by omega⟩;obtain⟨g',rfl⟩:∃g',g=g'+1:=by
   cases g with
   | zero=>simp[Gt]at hE
   | succ g'=>exact⟨g',rfl⟩
  obtain⟨b,hb,hd⟩:=F6 hlt;rw[hd,Gu]at hE;have hb8:=b.toNat_lt;have w1:IntKind.i64.wrap ((i:Int)+1)=(i:Int)+1:=AA (by omega) (by omega);have w2:IntKind.i64.wrap (b.toNat:Int)=b.toNat:=AA (by omega) (by omega);refine au ?_;refine DT (kX2 @hlt @c1) (kX4 @hb @c1 @w1 @w2) ?_;intros;apply wr;have hdl:(t.drop (i+1)).length=t.length-(i+1):=fF;by_cases hl:b.toNat<128
  ·have c2:(b.toNat:Int)<128:=by omega
   rw[if_pos hl]at hE;split at hE
   ·cases hE
   rename_i hsh;have hl2:=Gv _ _ _ _ hE;rw[eX,fE,hdl,eY (by omega)]at hl2;have w3:IntKind.i64.wrap ((b.toNat:Int)+1)=(b.toNat:Int)+1:=AA (by omega) (by omega);have w4:IntKind.i64.wrap ((t.length:Int)-((i:Int)+1))=(t.length:Int)-((i:Int)+1):=AA (by omega) (by omega);have c3:¬(t.length:Int)-((i:Int)+1)<(b.toNat:Int)+1:=by omega
   have w5:IntKind.i64.wrap ((out.length:Int)+((b.toNat:Int)+1))=(out.length:Int)+((b.toNat:Int)+1):=AA (by omega) (by omega);have c4:¬most<(out.length:Int)+((b.toNat:Int)+1):=by omega
   have w6:IntKind.i64.wrap ((i:Int)+1+((b.toNat:Int)+1))=(i:Int)+1+((b.toNat:Int)+1):=AA (by omega) (by omega);have c5:((i:Int)+1+((b.toNat:Int)+1)).toNat=i+1+(b.toNat+1):=by omega
   have c6:((i:Int)+1).toNat=i+1:=by omega
   have c7:(0:Int)<=(i:Int)+1:=by omega
   have c8:(i:Int)+1<=(i:Int)+1+((b.toNat:Int)+1):=by omega
   have c9:(i:Int)+1+((b.toNat:Int)+1)<=t.length:=by omega
   have hsl:(t.take (i+1+(b.toNat+1))).drop (i+1)=(t.drop (i+1)).take (b.toNat+1):=by rw[List.drop_take];congr 1;omega
   have hmn:min (i+1+(b.toNat+1)) t.length-(i+1)=b.toNat+1:=by omega
   have hml:out.length+(b.toNat+1)<=maxLen:=by simp[maxLen];omega
   refine DT (kX2 @hl @c2) (kX2 @w3 @w4) ?_;refine EL @c3 (kX3 @hid @hbl @w5) ?_;refine EL @c4 (Rl @hid @hbl @w6 @c5 @c6 @c7 @c8 @c9 @hml @hmn @hsl) ?_;intros;apply wr;refine hKl e _ rfl ⟨_,i+1+(b.toNat+1),g',out++(t.drop (i+1)).take (b.toNat+1),nx,nx+1,_,rfl,by simp[lkT],⟨by omega,by omega⟩,?_,by simp[lookO,Nb],by omega⟩;rw[<- hE,List.drop_drop]
  have c2:¬(b.toNat:Int)<128:=by omega
  rw[if_neg hl]at hE;split at hE
  case isFalse=>cases hE
  rename_i hl2;have c3:(b.toNat:Int)<=191:=by omega
  obtain⟨hi1,d,hd'⟩:i+1<t.length/\∃d,t[i+1]? =some d:=by
   by_cases hi:i+1<t.length
   ·exact⟨hi,_,eR hi⟩
   rw[List.drop_eq_nil_of_le (by omega)]at hE;simp at hE
  obtain⟨d',hd2,hd3⟩:=F6 hi1;obtain rfl:d=d':=by rw[hd']at hd2;exact Option.some.inj hd2
  rw[hd3]at hE;simp only at hE;split at hE
  ·cases hE
  rename_i hdd;have hl2:=Gv _ _ _ _ hE;rw[Ke]at hl2;have hd8:=d.toNat_lt;have hbd:=SY hd';have c4:((i:Int)+1==(t.length:Int))=false:=by simp;omega
  have c5:¬(i:Int)+1=t.length:=by omega
  have c6:((i:Int)+1).toNat=i+1:=by omega
  have c7:(0:Int)<=(i:Int)+1:=by omega
  have c8:(i:Int)+1<t.length:=by omega
  obtain⟨n,hn⟩:∃n,n=b.toNat-124:=⟨_,rfl⟩;rw[<- hn]at hE hl2;have w3:IntKind.i64.wrap ((b.toNat:Int)-124)=(n:Int):=by rw[AA (by omega) (by omega)];omega
  have w4:IntKind.i64.wrap ((i:Int)+1+1)=(i:Int)+1+1:=AA (by omega) (by omega);have w5:IntKind.i64.wrap (d.toNat:Int)=d.toNat:=AA (by omega) (by omega);have c9:((d.toNat:Int)==0)=false:=by simp;omega
  have c10:¬(out.length:Int)<d.toNat:=by omega
  have c11:¬(d.toNat:Int)=0:=by omega
  have w6:IntKind.i64.wrap ((out.length:Int)+(n:Int))=(out.length:Int)+(n:Int):=AA (by omega) (by omega);have c12:¬most<(out.length:Int)+(n:Int):=by omega
  refine B1 (kX2 @hl @c2) ?_;refine EM (kX2 @c3 @hl2) ?_;refine B1 (kX2 @c4 @c5) ?_;intros;apply wr;refine AG 8 [0,1,0,0,12,28,3,127] [(7,([[],[0],[],[],[2,3],[2,3,4],[0,1]],[])),(1,([],[]))] ?_;refine af1 (Qs @hd' @hbd @c6 @c7 @c8 @w3 @w4 @w5 @hid @hbl) ?_;refine af1 (Qs @hd' @hbd @c6 @c7 @c8 @w3 @w4 @w5 @hid @hbl) ?_;have c13:¬out.length<d.toNat:=by omega
  refine EA (kX4 @c9 @c10 @c11 @c13) (kX3 @hid @hbl @w6) ?_;refine Ae @c12 ?_;intros;apply wr;refine Ad (n+1) ?_;refine BH (fun q st=>∃(T2:List (Nat×V))(k:Nat)(O:Str)(id2 nx2:Nat)(o2:List (Nat×Option Ob)),k+q=n/\st=⟨97,T2,nx2,o2,0⟩/\(lkT T2 0=.str t/\lkT T2 1=iv most/\lkT T2 7=.int .i64 ((i:Int)+1+1)/\lkT T2 6=.own id2/\lkT T2 11=.int .i64 d.toNat/\lkT T2 81=.int .i64 n/\lkT T2 82=.int .i64 k)/\O.length=out.length+k/\I9 q d.toNat O=I9 n d.toNat out/\lookO o2 id2=some (byO O)/\id2<nx2) ?_ _ _ ⟨_,0,out,id,nx,_,by omega,rfl,by simp[lkT],by omega,rfl,hid,hidn⟩;rintro q st ⟨T2,k,O,id2,nx2,o2,hkq,rfl,⟨u0,u1,u7,u6,u11,u81,u82⟩,hO,hC,hid2,hn2⟩ Ki hKi;refine Bp [(0,.str t),(1,iv most),(7,.int .i64 ((i:Int)+1+1)),(6,.own id2),(11,.int .i64 d.toNat),(81,.int .i64 n),(82,.int .i64 k)] (by simp[u0,u1,u7,u6,u11,u81,u82]) ?_;have hbl2:=Kc O;refine af ?_;intros;apply wr;by_cases hkn:k<n
  ·have k1:(k:Int)<n:=by omega
   obtain⟨q',rfl⟩:∃q',q=q'+1:=⟨q-1,by omega⟩;obtain⟨y,hy⟩:∃y,O[O.length-d.toNat]? =some y:=⟨_,eR (by omega)⟩;have hby:=SY hy;have v1:IntKind.i64.wrap ((O.length:Int)-d.toNat)=(O.length:Int)-d.toNat:=AA (by omega) (by omega);have v2:(0:Int)<=(O.length:Int)-d.toNat:=by omega
   have v3:(O.length:Int)-d.toNat<O.length:=by omega
   have v4:((O.length:Int)-d.toNat).toNat=O.length-d.toNat:=by omega
   have v5:IntKind.i64.wrap ((k:Int)+1)=(k:Int)+1:=AA (by omega) (by omega);have d1:¬nx2=id2:=by omega
   have d2:¬id2=nx2:=by omega
   refine Ce (kX2 @k1 @hkn) (kX14 @hid2 @hbl2 @maxLen.eq_1 @v1 @v2 @v3 @v4 @v5 @hy @hby @d1 @d2 @SZ @Nb) ?_;intros;apply wr;refine hKi q' _ rfl ⟨_,k+1,O++[y],nx2+1,nx2+1+1,_,by omega,rfl,by simp[lkT],by simp;omega,?_,by simp[lookO],by omega⟩;rw[<- hC,I9,eP,hy];rfl
  have k1:¬(k:Int)<n:=by omega
  obtain rfl:q=0:=by omega
  rw[I9]at hC;refine Ae (kX2 @k1 @hkn) ?_;intros;apply wr;refine hKl e _ rfl ⟨_,i+2,g',O,id2,nx2,_,rfl,by simp[lkT];omega,⟨by omega,by omega⟩,?_,hid2,hn2⟩;rw[hC];exact hE
 have he:t.drop i=[]:=List.drop_eq_nil_of_le (by omega);have hox:out=x:=by
  cases g with
  | zero=>simp[Gt]at hE
  | succ g=>rw[he]at hE;simpa[Gt]using hE
 subst hox;have hbk:=Ox out;have hbi:=YW out;refine af ?_;refine EA @hlt (kX2 @hid @hbk) ?_;refine ar ?_;simp
end Go.Proofs.YtjkmhmepljamoaaGreat
end
