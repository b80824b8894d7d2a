/- A part of the proof of ReplicaDisk. -/
import Derived.Test.YtjkmhmepljamoaaGreatK06
import Derived.Test.YtjkmhmepljamoaaGreatK14
import Derived.Test.YtjkmhmepljamoaaGreatK27
import Derived.Test.YtjkmhmepljamoaaGreatK28
import Derived.Test.YtjkmhmepljamoaaGreatK30
import Derived.Test.YtjkmhmepljamoaaGreatK31
import Derived.Test.YtjkmhmepljamoaaGreatK32
set_option linter.all false
set_option maxHeartbeats 16000000
set_option maxRecDepth 100000
section
namespace Go.Proofs.YtjkmhmepljamoaaGreat
open Go.Ab Go.RowKit Tryz
theorem NL{nx:Nat}{ob:List (Nat×Option Ob)}(id j:Nat)(m:MchD)(e:EvD)(hM:OkM m)(hmay:mayD m=true)(hn:W32 e.n)(hd:e.data.length<=100000)(hob:lookO ob id=some (cJ m (.own j)))(hj:lookO ob j=some (EH m.mem))(hi:id<nx)(hjn:j<nx)(hne:id≠j):
  Bt prog 92 [.ptr id 49 0 0,.st e.row] nx ob fun r nx' ob'=>r=.bool (applyD m e).2/\Kq nx ob id j (applyD m e).1 nx' ob':=by
 have n1:¬j=id:=fun e=>hne e.symm;have m1:¬id=nx:=by omega
 have m2:¬j=nx:=by omega
 have hm0:¬(mayD m=false\/m.halted=true)↔m.halted=false:=by rw[hmay];simp
 cases hh:m.halted with
 | true =>
  have hE:applyD m e=(m,false):=F9 m e hh;refine sIY func92 ntmps92 (kX4 @hob @hj @m1 @m2) ?_;refine ED @hh ?_;intros;apply wr;refine ar ?_;simp[hE];exact⟨by omega,by simp[lookO,hob,m1],by simp[lookO,n1,hj,m2],fun i h1 h2 h3=>by simp[lookO,h2,show ¬i=nx by omega]⟩
 | false =>
  have h0:¬(mayD m=false\/m.halted=true):=hm0.2 hh;obtain⟨k,n,dd⟩:=e;simp only at hn hd;by_cases k2:k=2
  ·subst k2;by_cases hc:n=0/\dd=[]
   ·obtain⟨rfl,rfl⟩:=hc;have hE:applyD m ⟨2,0,[]⟩=({m with tim:=(FG m.tim).1},(FG m.tim).2):=by unfold applyD;rw[if_neg h0];rfl
    refine sIY func92 ntmps92 (kX4 @hob @hj @m1 @m2) ?_;refine BU @hh ?_;refine IZ (kX2 @hob @m1) ?_;refine cZ (Xw m.tim) (kX2 @hob @m1) (kX2 @hob @m1) ?_;intros;apply wr;refine ar ?_;simp[hE];exact⟨by omega,by simp[lookO,hob,m1],by simp[lookO,n1,hj,m2],fun i h1 h2 h3=>by simp[lookO,h2,show ¬i=nx by omega]⟩
   have hE:applyD m ⟨2,n,dd⟩=(m,false):=by unfold applyD;rw[if_neg h0];simp[hc]
   refine sIY func92 ntmps92 (kX4 @hob @hj @m1 @m2) ?_;refine BU @hh ?_;refine BU @hc ?_;refine C3 ?_;refine C3 ?_;refine C3 ?_;refine C3 ?_;intros;apply wr;refine ar ?_;simp[hE];exact⟨by omega,by simp[lookO,hob,m1],by simp[lookO,n1,hj,m2],fun i h1 h2 h3=>by simp[lookO,h2,show ¬i=nx by omega]⟩
  by_cases k3:k=3
  ·subst k3;by_cases hc:n<=255/\dd=[]
   ·obtain⟨hc1,rfl⟩:=hc;have hE:applyD m ⟨3,n,[]⟩=({m with keys:=(FZ m.keys (UInt8.ofNat n.toNat)).1},(FZ m.keys (UInt8.ofNat n.toNat)).2):=by unfold applyD;rw[if_neg h0,if_neg (by simp),if_pos rfl,if_pos ⟨hc1,rfl⟩]
    have hty:=YJ m.keys (UInt8.ofNat n.toNat) (by have:=hM.k;omega);have hw:IntKind.u8.wrap n=((UInt8.ofNat n.toNat).toNat:Int):=by rw[IntKind.wrap_u8,UInt8.toNat_ofNat'];have:=hn.1;omega
    generalize UInt8.ofNat n.toNat=b at *;refine sIY func92 ntmps92 (kX4 @hob @hj @m1 @m2) ?_;refine BU @hh ?_;refine C3 ?_;refine ED @hc1 ?_;intros;apply wr;refine AD 16 [0,0,2,6,14,0,32,96,254,510,1022,1022,2047,6143,14335,32767] [(15,([[],[],[1],[1,2],[1,2,3],[],[5],[5,6],[1,2,3,4,5,6,7],[1,2,3,4,5,6,7,8],[1,2,3,4,5,6,7,8,9],[1,2,3,4,5,6,7,8,9],[0,1,2,3,4,5,6,7,8,9,10],[0,1,2,3,4,5,6,7,8,9,10,12],[0,1,2,3,4,5,6,7,8,9,10,12,13]],[])),(1,([],[]))] ?_;refine af1 (kX3 @hob @m1 @hw) ?_;refine cYf (hty) (kX2 @hob @m1) ?_;intros;apply wr;refine ar ?_;simp[hE];exact⟨by omega,by simp[lookO,hob,m1],by simp[lookO,n1,hj,m2],fun i h1 h2 h3=>by simp[lookO,h2,show ¬i=nx by omega]⟩
   have hE:applyD m ⟨3,n,dd⟩=(m,false):=by unfold applyD;rw[if_neg h0,if_neg (by simp),if_pos rfl,if_neg hc]
   refine sIY func92 ntmps92 (kX4 @hob @hj @m1 @m2) ?_;refine Ac @hh ?_;refine BN ?_;refine Ac @hc ?_;refine BN ?_;refine BN ?_;refine BN ?_;intros;apply wr;refine ar ?_;simp[hE];exact⟨by omega,by simp[lookO,hob,m1],by simp[lookO,n1,hj,m2],fun i h1 h2 h3=>by simp[lookO,h2,show ¬i=nx by omega]⟩
  by_cases k4:k=4
  ·subst k4;have hE:applyD m ⟨4,n,dd⟩=({m with dk:=(AI m.dk m.mem ⟨4,n,dd⟩).1,mem:=(AI m.dk m.mem ⟨4,n,dd⟩).2.1},(AI m.dk m.mem ⟨4,n,dd⟩).2.2):=by unfold applyD;rw[if_neg h0,if_neg (by simp),if_neg (by simp),if_pos rfl]
   refine sIY func92 ntmps92 (kX4 @hob @hj @m1 @m2) ?_;refine Ac @hh ?_;refine BN ?_;refine BN ?_;refine Ei @hne ?_;intros;apply wr;refine BH (.node 0 10 (.leaf [0,1,2,3,4,5,6,7,8,9,10,11,12,13,14,15,16,17] (bN [0,0,2,6,14,0,32,96,224,0,1023,2047,4095,4095,8191,24575,57343,131071]) [(10,([[],[],[1],[1,2],[1,2,3],[],[5],[5,6],[5,6,7],[]],[])),(1,([],[])),(1,([],[])),(5,([[],[],[0],[0,2],[0,2,3]],[])),(1,([],[]))]) (.leaf [1,2,3,4,5,6,7,8,9,10,0,11,12,13,14,15,16,17] (bN [0,1,3,7,0,16,48,112,0,511,1023,1023,3071,3071,8191,24575,57343,131071]) [(9,([[],[0],[0,1],[0,1,2],[],[4],[4,5],[4,5,6],[]],[])),(1,([],[])),(7,([[],[],[1],[1],[0,1,2],[0,1,2,4],[0,1,2,4,5]],[])),(1,([],[]))])) (by kernel_rfl) (by kernel_rfl) ?_;simp only[PT.run]
   repeat' (with_reducible apply And.intro)
   all_goals (simp only[CE,iI,List.map_nil,iC,iK];refine af1 (kX2 @hob @m1) ?_;intros;apply wr)
   all_goals
    refine cO ?_;refine(Rs j m.dk m.mem ⟨4,n,dd⟩ hM.d.f hM.w (by simp[lookO,m2,hj]) (by omega)).mono fun r nx' ob' hp=>?_;simp only[BX];obtain⟨rfl,g1,g2,g3⟩:=hp;have y1:=g3 id (by omega) hne;simp[lookO,m1,hob]at y1;simp;refine af1 @y1 ?_;intros;apply wr;refine ar ?_;simp[hE];refine⟨by omega,by simp[lookO],by simp[lookO,n1,g2],fun i h1 h2 h3=>?_⟩;have ee:=g3 i (by omega) h3;simp[lookO,show ¬i=nx by omega]at ee;simp[lookO,h2,ee]
  by_cases k5:k=5
  ·subst k5;by_cases hc:n=0
   ·subst hc;have hE:applyD m ⟨5,0,dd⟩=({m with nc:=(Ah m.nc m.mem dd).1,mem:=(Ah m.nc m.mem dd).2.1},(Ah m.nc m.mem dd).2.2):=by unfold applyD;rw[if_neg h0,if_neg (by simp),if_neg (by simp),if_neg (by simp),if_pos rfl,if_pos rfl]
    refine sIY func92 ntmps92 (kX4 @hob @hj @m1 @m2) ?_;refine Ac @hh ?_;refine BN ?_;refine BN ?_;refine BN ?_;refine Ei @hne ?_;intros;apply wr;refine BH (.node 0 11 (.leaf [0,1,2,3,4,5,6,7,8,9,10,11,12,13,14,15,16,17,18] (bN [0,0,2,6,14,0,32,96,224,0,512,2047,4095,8191,8191,16383,49151,114687,262143]) [(11,([[],[],[1],[1,2],[1,2,3],[],[5],[5,6],[5,6,7],[],[9]],[])),(1,([],[])),(1,([],[])),(5,([[],[],[0],[0,2],[0,2,3]],[])),(1,([],[]))]) (.leaf [1,2,3,4,5,6,7,8,9,10,11,0,12,13,14,15,16,17,18] (bN [0,1,3,7,0,16,48,112,0,256,1023,2047,2047,6143,6143,16383,49151,114687,262143]) [(10,([[],[0],[0,1],[0,1,2],[],[4],[4,5],[4,5,6],[],[8]],[])),(1,([],[])),(7,([[],[],[1],[1],[0,1,2],[0,1,2,4],[0,1,2,4,5]],[])),(1,([],[]))])) (by kernel_rfl) (by kernel_rfl) ?_;simp only[PT.run]
    repeat' (with_reducible apply And.intro)
    all_goals (simp only[CE,iI,List.map_nil,iC,iK];refine af1 (kX2 @hob @m1) ?_;intros;apply wr)
    all_goals
     refine cO ?_;refine(Ri j m.nc m.mem dd hM.r.c hM.w hd (by simp[lookO,m2,hj]) (by omega)).mono fun r nx' ob' hp=>?_;simp only[BX];obtain⟨rfl,g1,g2,g3⟩:=hp;have y1:=g3 id (by omega) hne;simp[lookO,m1,hob]at y1;simp;refine af1 @y1 ?_;intros;apply wr;refine ar ?_;simp[hE];refine⟨by omega,by simp[lookO],by simp[lookO,n1,g2],fun i h1 h2 h3=>?_⟩;have ee:=g3 i (by omega) h3;simp[lookO,show ¬i=nx by omega]at ee;simp[lookO,h2,ee]
   have hE:applyD m ⟨5,n,dd⟩=(m,false):=by unfold applyD;rw[if_neg h0,if_neg (by simp),if_neg (by simp),if_neg (by simp),if_pos rfl,if_neg hc]
   refine sIY func92 ntmps92 (kX4 @hob @hj @m1 @m2) ?_;refine Ac @hh ?_;refine BN ?_;refine BN ?_;refine BN ?_;refine Ac @hc ?_;refine BN ?_;intros;apply wr;refine ar ?_;simp[hE];exact⟨by omega,by simp[lookO,hob,m1],by simp[lookO,n1,hj,m2],fun i h1 h2 h3=>by simp[lookO,h2,show ¬i=nx by omega]⟩
  by_cases k6:k=6
  ·subst k6;by_cases hc:dd=[]
   ·subst hc;have hE:applyD m ⟨6,n,[]⟩=({m with tgt:=n},true):=by unfold applyD;rw[if_neg h0,if_neg (by simp),if_neg (by simp),if_neg (by simp),if_neg (by simp),if_pos rfl,if_pos rfl]
    refine sIY func92 ntmps92 (kX4 @hob @hj @m1 @m2) ?_;refine Ac @hh ?_;refine BN ?_;refine BN ?_;refine BN ?_;refine BN ?_;refine Tb (kX2 @hob @m1) ?_;intros;apply wr;refine ar ?_;simp[hE];exact⟨by omega,by simp[lookO,hob,m1],by simp[lookO,n1,hj,m2],fun i h1 h2 h3=>by simp[lookO,h2,show ¬i=nx by omega]⟩
   have hE:applyD m ⟨6,n,dd⟩=(m,false):=by unfold applyD;rw[if_neg h0,if_neg (by simp),if_neg (by simp),if_neg (by simp),if_neg (by simp),if_pos rfl,if_neg hc]
   refine sIY func92 ntmps92 (kX4 @hob @hj @m1 @m2) ?_;refine Ac @hh ?_;refine BN ?_;refine BN ?_;refine BN ?_;refine BN ?_;refine Ac @hc ?_;intros;apply wr;refine ar ?_;simp[hE];exact⟨by omega,by simp[lookO,hob,m1],by simp[lookO,n1,hj,m2],fun i h1 h2 h3=>by simp[lookO,h2,show ¬i=nx by omega]⟩
  have hE:applyD m ⟨k,n,dd⟩=(m,false):=by unfold applyD;rw[if_neg h0,if_neg k2,if_neg k3,if_neg k4,if_neg k5,if_neg k6]
  refine sIY func92 ntmps92 (kX4 @hob @hj @m1 @m2) ?_;refine Ac @hh ?_;refine Ac @k2 ?_;refine Ac @k3 ?_;refine Ac @k4 ?_;refine Ac @k5 ?_;refine Ac @k6 ?_;intros;apply wr;refine ar ?_;simp[hE];exact⟨by omega,by simp[lookO,hob,m1],by simp[lookO,n1,hj,m2],fun i h1 h2 h3=>by simp[lookO,h2,show ¬i=nx by omega]⟩
theorem QV(m:MchD)(h1:m.mem.length<=100000):AC prog 91 [.st m.row] (.st (rowM m (.new 25 1 (ints .u32 m.mem)))):=by
 refine sX func91 ntmps91 ?_;refine cX (Xn m.mem h1) ?_;refine ar ?_;simp
theorem dP(m:MchD)(e:EvD)(hM:OkM m)(hmay:mayD m=true)(hn:W32 e.n)(hd:e.data.length<=100000):AC prog 42 [.st m.row,.st e.row] (.tup [.st (applyD m e).1.row,.bool (applyD m e).2]):=by
 have ho:=QV m (by have:=hM.n;omega);have hm:=Ur m hM.gv.1 (by have:=hM.gv.2;omega);rw[hmay]at hm;refine sX func42 ntmps42 ?_;refine cX (ho) ?_;refine cn (hm) ?_;refine au ?_;refine C3 ?_;intros;apply wr;refine cO ?_;refine(NL 0 28 m e hM hmay hn hd (by simp[lookO]) (by simp[lookO]) (by omega) (by omega) (by decide)).mono fun r nx' ob' hp=>?_;simp only[BX];obtain⟨rfl,p1,p2,p3,p4⟩:=hp;have y2:=p4 2 (by omega) (by decide) (by decide);simp[lookO]at y2;simp;refine au1 (kX2 @p2 @y2) ?_;intros;apply wr;refine aw ?_;have hf:∀i,lookO (List.map (fun p:Nat×Option Ob=>(p.1,p.2.map fzO)) ob') i=(lookO ob' i).map fzO:=Ej ob';simp[hf,p3,fzO]
theorem d6(l:List EntD)(hb:l.length<=100000):AC prog 90 [Bo l] (.bool (ordD l)):=by
 have hl:=Ay l;refine sX func90 ntmps90 ?_;intros;apply wr;obtain⟨I,hI⟩:∃I:Nat->St->Prop,I=(fun kk ss=>∃(i:Nat),i<=(l.length-1)/\kk=(l.length-1)-i/\(ordD l=ordD (l.drop i))/\ss=⟨46,[(3,.int .i64 (i+1)),(0,Bo l)],0,[],0⟩):=⟨_,rfl⟩;refine lX I (id) (by rw[hI];exact⟨0,by simp,rfl,rfl,rfl⟩) ?_;intro kk ss hIk _;rw[hI]at hIk;obtain⟨i,hi,rfl,hx,rfl⟩:=hIk;refine au1 @hl ?_;intros;apply wr;refine AB rfl (fun hh=>?_) (fun hh=>?_)
 ·simp at hh;obtain⟨a,ha,hda,-,-⟩:=get_at (show i<l.length by omega);obtain⟨b,hb2,hdb,-,-⟩:=get_at (show i+1<l.length by omega);have hga:=B7 ha;have hgb:=B7 hb2;have hw:IntKind.i64.wrap ((i:Int)+1+1)=(i:Int)+1+1:=AA;rw[hda,hdb,ordD,<- hdb]at hx;have hwi:IntKind.i64.wrap (i:Int)=i:=AA;refine au1 (kX4 @hga @hgb @hl @hwi) ?_;intros;apply wr;refine AD 36 [0,0,3,7,15,0,0,64,224,480,992,2047,4095,8191,8191,32767,65535,131071,8191,8191,532479,1843199,3940351,8134655,16777215,33554431,67108863,67108863,201326591,536870911,1073741823,2147483647,4294967295,8589934591,17179869183,34359738367] [(11,([[],[],[0,1],[0,1,2],[0,1,2,3],[],[],[6],[5,6,7],[5,6,7,8],[5,6,7,8,9]],[])),(1,([],[])),(1,([],[])),(11,([[],[],[0,1],[0,1,2],[0,1,2,3],[],[],[6],[5,6,7],[5,6,7,8],[5,6,7,8,9]],[])),(1,([],[])),(1,([],[])),(3,([[],[],[1]],[])),(1,([],[])),(1,([],[])),(1,([],[])),(1,([],[])),(1,([],[])),(1,([],[])),(1,([],[]))] ?_;refine af1 (kX4 @hl @hga @hgb @hwi) ?_;intros;apply wr;refine AB rfl (fun hc=>?_) (fun hc=>?_)
  ·have hF:ordD l=false:=by rw[hx];grind
   refine af ?_;refine ar ?_;simp[hF]
  refine af ?_;intros;apply wr;exact aX (id) (by rw[hI];exact⟨i+1,by omega,rfl,(by rw[hx];grind),rfl⟩) (kX2 (AA (n:=(i:Int)+1)) @hw)
 simp at hh;have hd:(l.drop i).length<=1:=by rw[iE];omega
 have hO:ordD (l.drop i)=true:=by
  cases hq:l.drop i with
  | nil=>rfl
  | cons a r=>cases r with|nil=>rfl|cons b r=>rw[hq]at hd;simp at hd
 rw[hO]at hx;refine af ?_;refine ar ?_;simp[hx]
theorem Uy(m:MchD)(hM:OkM m):AC prog 94 [.st m.row] (.bool (rdsD m)):=by
 have hr:=Uo m hM;have hc:=Io hM;obtain⟨w,hw⟩:∃w,w=wAt m.mem ((AL m).cpu.pc/4):=⟨_,rfl⟩;have hww:W32 w:=by rw[hw];exact PD hM.w _
 have hl:=YC m.mem (AL m).cpu.pc 4 (.inr rfl) hc.pc;have hE:rdsD m=(decide ((AL m).cpu.csr 0%2=1)&&AS m.mem (AL m).cpu.pc 4&&validD (D1 w)&&decide ((D1 w).op=60)&&decide ((D1 w).imm=2)):=by rw[hw];rfl
 have hL:Bw m.mem (AL m).cpu.pc 4=w:=by rw[hw];rfl
 rw[hL]at hl;have hk:=Tm (hc.csr 0);generalize (AL m).cpu=c at *;rw[hE];by_cases h0:c.csr 0%2=0
 ·refine sZ func94 ntmps94 ?_;exact wx1 (qX1 (hr)) trivial (kX2 @hk @h0)
 have h1:c.csr 0%2=1:=by omega
 cases hwi:AS m.mem c.pc 4 with
 | false =>
  rw[hwi]at hl;simp only[iR,if_false]at hl;have hd:=Fq 0 ⟨by omega,by omega⟩;refine sZ func94 ntmps94 ?_;exact wx1 (qX3 (hr) (hl) (hd)) trivial (kX3 @hk @h1 @aL.eq_1)
 | true =>
  rw[hwi]at hl;simp only[if_true]at hl;have hd:=Fq w hww;unfold aL at hd;cases hv:validD (D1 w)with
  | false =>
   rw[hv,if_neg (by simp)]at hd;refine sZ func94 ntmps94 ?_;exact wx1 (qX3 (hr) (hl) (hd)) trivial (kX2 @hk @h1)
  | true =>
   rw[hv,if_pos rfl]at hd;refine sZ func94 ntmps94 ?_;exact wx1 (qX3 (hr) (hl) (hd)) trivial (kX2 @hk @h1)
theorem Tr.fin{u:Int}{m m':MchD}{l r:List EntD}{O:List OutD}(h:Tr u m l O m' r)(hu:m.count=u):m'=m/\O=[]/\r=l:=by
 cases h with
 | nil h _=>exact⟨rfl,rfl,rfl⟩
 | ev h=>omega
 | go h=>omega
 | clk h=>omega
theorem Tr.invE{u:Int}{m m':MchD}{e:EntD}{l r:List EntD}{O:List OutD}(h:Tr u m (e::l) O m' r)(hlt:m.count<u)(h1:e.at_=m.count)(h2:e.ev.kind≠1):Tr u (applyD m e.ev).1 l O m' r:=by
 cases h with
 | nil h _=>omega
 | ev h3 h4 h5=>exact h5
 | go h3 h4 h5 h6 h7=>have:=h6 _ rfl;omega
 | clk h3 h4 h5 h6 h7=>exact absurd rfl h2
theorem Tr.inv{u:Int}{m m':MchD}{l r:List EntD}{O:List OutD}(h:Tr u m l O m' r)(hlt:m.count<u)(hne:∀e,l.head? =some e->e.at_=m.count->e.ev.kind=1):
  runsD m=true/\((readsD m=false/\(∀e,l.head? =some e->e.at_≠m.count)/\∃O2,O=(goD m 0).2++O2/\Tr u (goD m 0).1 l O2 m' r) \/
   ∃c l2 O2,l=⟨m.count,⟨1,c,[]⟩⟩::l2/\W32 c/\readsD m=true/\O=(goD m c).2++O2/\Tr u (goD m c).1 l2 O2 m' r):=by
 cases h with
 | nil h _=>omega
 | ev h3 h4 h5=>exact absurd (hne _ rfl rfl) h4
 | go h3 h4 h5 h6 h7=>exact⟨h4,.inl ⟨h5,fun e he=>by have:=h6 e he;omega,_,rfl,h7⟩⟩
 | clk h3 h4 h5 h6 h7=>exact⟨h5,.inr ⟨_,_,_,rfl,h4,h6,rfl,h7⟩⟩
abbrev runT(n:Int)(l:List EntD)(u:Int):List (Nat×V):=[(11,.int .i64 n),(10,.own 53),(3,.ptr 0 49 0 0),(1,Bo l),(2,lv u),(6,.ptr 1 49 0 0)]
abbrev Vr(x:MchD)(acc:List OutD):List (Nat×Option Ob):=[(0,some (cJ x (.own 29))),(29,some ⟨25,1,false,false,ints .u32 x.mem⟩),(53,some ⟨124,4,false,false,outs acc⟩),(1,some ⟨42,49,true,false,[zMR0]⟩)]
theorem Oq(m m':MchD)(l lf:List EntD)(O:List OutD)(u:Int)(hM:OkM m)(hmay:mayD m=true)(hT:Tr u m l O m' lf)(hu:u<=1152921504606846976)(h4:u-m.count<=4000)(hl4:l.length<=400)(hord:ordD l=true)(hfo:firstOk m.count l=true)
  (hE:∀e∈l,W32 e.ev.n/\e.ev.data.length<=100000) :
  AC prog 41 [.st m.row,Bo l,lv u] (.tup [.st m'.row,.sl 4 false (outs O),iv (l.length-lf.length),iv 0]):=by
 have hm:=Ur m hM.gv.1 (by have:=hM.gv.2;omega);rw[hmay]at hm;have hO:=QV m (by have:=hM.n;omega);have hor:=d6 l (by omega);rw[hord]at hor;have hl:=Ay l;have hle:=hT.le;have hc0:=DZ hM;have g1:¬u<m.count:=by omega
 have g2:¬4000<IntKind.u64.wrap (u-m.count):=by rw[IntKind.wrap_u64];omega
 have g3:¬(400:Int)<l.length:=by omega
 refine sX func41 ntmps41 ?_;refine cY (hm) @hl ?_;refine BU (kX4 @g1 @g2 @g3 @hl) ?_;(repeat intro K hK);apply wr;refine Cc (α:=Unit) (fun _=>(⟨140,[(52,.bool false),(1,Bo l),(2,lv u),(3,.ptr 0 49 0 0),(6,.ptr 1 49 0 0)],4,[(0,some ⟨42,49,true,false,[m.row]⟩),(1,some ⟨42,49,true,false,[zMR0]⟩)],0⟩:St)) (fun _=>True) hK (fun _ hxhJ=>?_) (fun hJ=>?_);all_goals clear hK
 ·refine C3 ?_;refine cX (hO) ?_;(repeat intro K hK);apply wr;refine AT 10 124 4 (by decide) rfl ?_;simp;obtain⟨I,hI⟩:∃I:Nat->St->Prop,I=(fun kk ss=>∃(i:Nat)(x:MchD)(n:Nat)(acc:List OutD),i<=(u-m.count).toNat/\kk=(u-m.count).toNat-i/\((∃O',Tr u x (l.drop n) O' m' lf/\acc++O'=O)/\x.count=m.count+i/\OkM x/\mayD x=true/\n<=l.length/\acc.length<=i)/\ss=⟨140,runT n l u,54,Vr x acc,0⟩):=⟨_,rfl⟩;refine lX I (id) (by rw[hI];exact⟨0,m,0,[],by simp,rfl,⟨⟨O,hT,rfl⟩,by simp,hM,hmay,by simp,by simp⟩,rfl⟩) ?_;intro kk ss hIk _;rw[hI]at hIk;obtain⟨i,x,n,acc,hi,rfl,hx,rfl⟩:=hIk;obtain⟨⟨O',hx1,hx2⟩,hx3,hx4,hx5,hx6,hx7⟩:=hx;have hxle:=hx1.le;refine au ?_;(repeat intro K hK);apply wr;by_cases hlt:x.count<u
  ·have c2:x.count<1152921504606846976:=by omega
   refine ED (kX2 @hlt @c2) ?_;(repeat intro K hK);apply wr;refine Cc (α:=MchD×Nat) (fun⟨y,k⟩=>(⟨140,runT k l u,54,Vr y acc,0⟩:St)) (fun⟨y,k⟩=>Tr u y (l.drop k) O' m' lf/\y.count=x.count/\OkM y/\mayD y=true/\k<=l.length/\(∀e,l[k]? =some e->e.at_=y.count->e.ev.kind=1)) hK (fun⟨y,k⟩ hxhG=>?_) (fun hG=>?_);all_goals clear hK
   ·obtain⟨hy1,hy2,hy3,hy4,hy5,hy6⟩:=hxhG;obtain⟨hrn,hcase⟩:=hy1.inv (by omega) (fun e he=>hy6 e (by rwa[List.head?_drop]at he));have hrx:=hrn;unfold runsD at hrx;simp only[gX,i7,decide_eq_true_eq]at hrx;obtain⟨⟨⟨-,r2⟩,r3⟩,r4⟩:=hrx;have hId:=Xy y hy3;rw[r3]at hId;have hR:=Uy y hy3;rw[ZW hrn]at hR;have hwk:IntKind.i64.wrap ((k:Int)+1)=((k+1:Nat):Int):=by rw[AA];omega
    have hla:=BA acc;refine au ?_;refine BU @r2 ?_;refine cn (hId) ?_;refine au ?_;refine C3 ?_;(repeat intro K hK);apply wr;rcases hcase with⟨hrd,hhd,O2,hO2,hT2⟩|⟨c,l2,O2,hl2,hcw,hrd,hO2,hT2⟩
    ·rw[hrd]at hR;have hgo:=Ml hy3 hrn Ax;have hgm:=(Bz _).2 (Hm hy3 hrn 0);rcases Nat.lt_or_ge k l.length with hk|hk
     ·obtain⟨e,he,-,-,hmem⟩:=get_at hk;have hge:=B7 he;have hv:¬e.at_=y.count:=hhd e (by rw[List.head?_drop];exact he);have c3:(k:Int)<l.length:=by omega
      refine AD 15 [0,0,2,7,15,31,31,127,255,511,31,1055,4095,8191,16383] [(3,([[],[],[1]],[])),(1,([],[])),(1,([],[])),(7,([[],[],[0,1],[0,1,2],[0,1,2,3],[],[5]],[])),(1,([],[])),(1,([],[])),(1,([],[]))] ?_;refine af1 (kX6 @hl @c3 @hk @hge (Nn hge) @hv) ?_;refine cn (hR) ?_;refine af1 @hv ?_;refine Ac @hv ?_;refine Ac @hv ?_;(repeat intro K hK);apply wr;refine cO ?_;refine(Lc 0 29 y (0) hy3 (by simp[lookO]) (by simp[lookO]) (by omega) (by omega) (by decide)).mono fun r nx' ob' hp=>?_;simp only[BX];obtain⟨hr,p1,p2,p3,p4⟩:=hp;have y1:=p4 1 (by omega) (by decide) (by decide);have y2:=p4 53 (by omega) (by decide) (by decide);simp[lookO]at y1 y2;have z0:¬nx'=0:=by omega
      have z1:¬nx'=1:=by omega
      have z2:¬nx'=29:=by omega
      have w0:¬0=nx':=by omega
      have w1:¬1=nx':=by omega
      have w2:¬29=nx':=by omega
      have w3:29<nx'+1:=by omega
      have hso:(goD y (0)).2.length<=1:=by have:=DV y (0);unfold stepD at this;rwa[if_pos hrn]at this
      generalize goD y (0)=G at *;have hlG:=BA G.2;have hT3:Tr u G.1 (l.drop (k)) O2 m' lf:=hT2;rcases hr with rfl|⟨rfl,hz⟩
      ·simp[y2];refine af1 (kX7 @y1 @y2 @p2 @p3 @hla @hlG @maxLen.eq_1) ?_;(repeat intro K hK);apply wr;refine EF ((u-m.count).toNat-(i+1)) ((fun(i:Nat)(x:MchD)(n:Nat)(acc:List OutD)=>(⟨140,runT n l u,54,Vr x acc,0⟩:St)) (i+1) G.1 (k) (acc++G.2)) (fun x=>if x=53 then nx' else x) (by omega) (by rw[hI];exact⟨i+1,G.1,(k),(acc++G.2),by omega,rfl,⟨⟨O2,hT3,by rw[iH,<- hO2];exact hx2⟩,by rw[hgo.2,hy2,hx3];omega,hgo.1,hgm,by omega,by rw[gV];omega⟩,rfl⟩) ⟨rfl,?_,?_,?_,by simp⟩
       ·simp[leT,ltV,lt1,ren,BE,AA (n:=(i:Int)+1),lookO,y1,p2,p3,z0,z1,z2,w0,w1,w2,w3,Bc]
       ·simp[leO,lt1,BE,lookO,y1,p2,p3,z0,z1,z2,w0,w1,w2,w3,Bc]
       (simp;try omega)
      simp[y2];refine af1 (kX6 @y1 @y2 @p2 @p3 @hla @maxLen.eq_1) ?_;(repeat intro K hK);apply wr;refine EF ((u-m.count).toNat-(i+1)) ((fun(i:Nat)(x:MchD)(n:Nat)(acc:List OutD)=>(⟨140,runT n l u,54,Vr x acc,0⟩:St)) (i+1) G.1 (k) (acc++G.2)) (fun x=>if x=53 then nx' else x) (by omega) (by rw[hI];exact⟨i+1,G.1,(k),(acc++G.2),by omega,rfl,⟨⟨O2,hT3,by rw[iH,<- hO2];exact hx2⟩,by rw[hgo.2,hy2,hx3];omega,hgo.1,hgm,by omega,by rw[gV];omega⟩,rfl⟩) ⟨rfl,?_,?_,?_,by simp⟩
      ·simp[leT,ltV,lt1,ren,BE,AA (n:=(i:Int)+1),lookO,y1,p2,p3,z0,z1,z2,w0,w1,w2,w3,Bc,hz]
      ·simp[leO,lt1,BE,lookO,y1,p2,p3,z0,z1,z2,w0,w1,w2,w3,Bc,hz]
      (simp;try omega)
     have c3:¬(k:Int)<l.length:=by omega
     have hk2:¬k<l.length:=by omega
     refine AD 15 [0,0,2,7,15,31,31,127,255,511,31,1055,4095,8191,16383] [(3,([[],[],[1]],[])),(1,([],[])),(1,([],[])),(7,([[],[],[0,1],[0,1,2],[0,1,2,3],[],[5]],[])),(1,([],[])),(1,([],[])),(1,([],[]))] ?_;refine af1 (kX3 @hl @c3 @hk2) ?_;refine cn (hR) ?_;refine af ?_;refine BN ?_;refine BN ?_;(repeat intro K hK);apply wr;refine cO ?_;refine(Lc 0 29 y (0) hy3 (by simp[lookO]) (by simp[lookO]) (by omega) (by omega) (by decide)).mono fun r nx' ob' hp=>?_;simp only[BX];obtain⟨hr,p1,p2,p3,p4⟩:=hp;have y1:=p4 1 (by omega) (by decide) (by decide);have y2:=p4 53 (by omega) (by decide) (by decide);simp[lookO]at y1 y2;have z0:¬nx'=0:=by omega
     have z1:¬nx'=1:=by omega
     have z2:¬nx'=29:=by omega
     have w0:¬0=nx':=by omega
     have w1:¬1=nx':=by omega
     have w2:¬29=nx':=by omega
     have w3:29<nx'+1:=by omega
     have hso:(goD y (0)).2.length<=1:=by have:=DV y (0);unfold stepD at this;rwa[if_pos hrn]at this
     generalize goD y (0)=G at *;have hlG:=BA G.2;have hT3:Tr u G.1 (l.drop (k)) O2 m' lf:=hT2;rcases hr with rfl|⟨rfl,hz⟩
     ·simp[y2];refine af1 (kX7 @y1 @y2 @p2 @p3 @hla @hlG @maxLen.eq_1) ?_;(repeat intro K hK);apply wr;refine EF ((u-m.count).toNat-(i+1)) ((fun(i:Nat)(x:MchD)(n:Nat)(acc:List OutD)=>(⟨140,runT n l u,54,Vr x acc,0⟩:St)) (i+1) G.1 (k) (acc++G.2)) (fun x=>if x=53 then nx' else x) (by omega) (by rw[hI];exact⟨i+1,G.1,(k),(acc++G.2),by omega,rfl,⟨⟨O2,hT3,by rw[iH,<- hO2];exact hx2⟩,by rw[hgo.2,hy2,hx3];omega,hgo.1,hgm,by omega,by rw[gV];omega⟩,rfl⟩) ⟨rfl,?_,?_,?_,by simp⟩
      ·simp[leT,ltV,lt1,ren,BE,AA (n:=(i:Int)+1),lookO,y1,p2,p3,z0,z1,z2,w0,w1,w2,w3,Bc]
      ·simp[leO,lt1,BE,lookO,y1,p2,p3,z0,z1,z2,w0,w1,w2,w3,Bc]
      (simp;try omega)
     simp[y2];refine af1 (kX6 @y1 @y2 @p2 @p3 @hla @maxLen.eq_1) ?_;(repeat intro K hK);apply wr;refine EF ((u-m.count).toNat-(i+1)) ((fun(i:Nat)(x:MchD)(n:Nat)(acc:List OutD)=>(⟨140,runT n l u,54,Vr x acc,0⟩:St)) (i+1) G.1 (k) (acc++G.2)) (fun x=>if x=53 then nx' else x) (by omega) (by rw[hI];exact⟨i+1,G.1,(k),(acc++G.2),by omega,rfl,⟨⟨O2,hT3,by rw[iH,<- hO2];exact hx2⟩,by rw[hgo.2,hy2,hx3];omega,hgo.1,hgm,by omega,by rw[gV];omega⟩,rfl⟩) ⟨rfl,?_,?_,?_,by simp⟩
     ·simp[leT,ltV,lt1,ren,BE,AA (n:=(i:Int)+1),lookO,y1,p2,p3,z0,z1,z2,w0,w1,w2,w3,Bc,hz]
     ·simp[leO,lt1,BE,lookO,y1,p2,p3,z0,z1,z2,w0,w1,w2,w3,Bc,hz]
     (simp;try omega)
    rw[hrd]at hR;have he:l[k]? =some ⟨y.count,⟨1,c,[]⟩⟩:=by rw[<- List.head?_drop,hl2];rfl
    have hk:k<l.length:=by
     rcases Nat.lt_or_ge k l.length with q|q
     ·exact q
     rw[iV q]at he;cases he
    have hge:=B7 he;have c3:(k:Int)<l.length:=by omega
    have hgo:=Ml hy3 hrn hcw;have hgm:=(Bz _).2 (Hm hy3 hrn c);have hl3:l.drop (k+1)=l2:=by rw[<- List.tail_drop,hl2];rfl
    refine AD 15 [0,0,2,7,15,31,31,127,255,511,31,1055,4095,8191,16383] [(3,([[],[],[1]],[])),(1,([],[])),(1,([],[])),(7,([[],[],[0,1],[0,1,2],[0,1,2,3],[],[5]],[])),(1,([],[])),(1,([],[])),(1,([],[]))] ?_;refine af1 (kX5 @hl @c3 @hk @hge (Nn hge)) ?_;refine cn (hR) ?_;refine af ?_;refine BN ?_;refine Tb (kX6 @hl @c3 @hk @hge (Nn hge) @hwk) ?_;(repeat intro K hK);apply wr;rw[<- hl3]at hT2;refine cO ?_;refine(Lc 0 29 y (c) hy3 (by simp[lookO]) (by simp[lookO]) (by omega) (by omega) (by decide)).mono fun r nx' ob' hp=>?_;simp only[BX];obtain⟨hr,p1,p2,p3,p4⟩:=hp;have y1:=p4 1 (by omega) (by decide) (by decide);have y2:=p4 53 (by omega) (by decide) (by decide);simp[lookO]at y1 y2;have z0:¬nx'=0:=by omega
    have z1:¬nx'=1:=by omega
    have z2:¬nx'=29:=by omega
    have w0:¬0=nx':=by omega
    have w1:¬1=nx':=by omega
    have w2:¬29=nx':=by omega
    have w3:29<nx'+1:=by omega
    have hso:(goD y (c)).2.length<=1:=by have:=DV y (c);unfold stepD at this;rwa[if_pos hrn]at this
    generalize goD y (c)=G at *;have hlG:=BA G.2;have hT3:Tr u G.1 (l.drop ((k+1))) O2 m' lf:=hT2;rcases hr with rfl|⟨rfl,hz⟩
    ·simp[y2];refine af1 (kX7 @y1 @y2 @p2 @p3 @hla @hlG @maxLen.eq_1) ?_;(repeat intro K hK);apply wr;refine EF ((u-m.count).toNat-(i+1)) ((fun(i:Nat)(x:MchD)(n:Nat)(acc:List OutD)=>(⟨140,runT n l u,54,Vr x acc,0⟩:St)) (i+1) G.1 ((k+1)) (acc++G.2)) (fun x=>if x=53 then nx' else x) (by omega) (by rw[hI];exact⟨i+1,G.1,((k+1)),(acc++G.2),by omega,rfl,⟨⟨O2,hT3,by rw[iH,<- hO2];exact hx2⟩,by rw[hgo.2,hy2,hx3];omega,hgo.1,hgm,by omega,by rw[gV];omega⟩,rfl⟩) ⟨rfl,?_,?_,?_,by simp⟩
     ·simp[leT,ltV,lt1,ren,BE,AA (n:=(i:Int)+1),lookO,y1,p2,p3,z0,z1,z2,w0,w1,w2,w3,Bc]
     ·simp[leO,lt1,BE,lookO,y1,p2,p3,z0,z1,z2,w0,w1,w2,w3,Bc]
     (simp;try omega)
    simp[y2];refine af1 (kX6 @y1 @y2 @p2 @p3 @hla @maxLen.eq_1) ?_;(repeat intro K hK);apply wr;refine EF ((u-m.count).toNat-(i+1)) ((fun(i:Nat)(x:MchD)(n:Nat)(acc:List OutD)=>(⟨140,runT n l u,54,Vr x acc,0⟩:St)) (i+1) G.1 ((k+1)) (acc++G.2)) (fun x=>if x=53 then nx' else x) (by omega) (by rw[hI];exact⟨i+1,G.1,((k+1)),(acc++G.2),by omega,rfl,⟨⟨O2,hT3,by rw[iH,<- hO2];exact hx2⟩,by rw[hgo.2,hy2,hx3];omega,hgo.1,hgm,by omega,by rw[gV];omega⟩,rfl⟩) ⟨rfl,?_,?_,?_,by simp⟩
    ·simp[leT,ltV,lt1,ren,BE,AA (n:=(i:Int)+1),lookO,y1,p2,p3,z0,z1,z2,w0,w1,w2,w3,Bc,hz]
    ·simp[leO,lt1,BE,lookO,y1,p2,p3,z0,z1,z2,w0,w1,w2,w3,Bc,hz]
    (simp;try omega)
   obtain⟨Ij,hIj⟩:∃I:Nat->St->Prop,I=(fun kk ss=>∃(j:Nat)(y:MchD),j<=(l.length-n)/\kk=(l.length-n)-j/\(Tr u y (l.drop (n+j)) O' m' lf/\y.count=x.count/\OkM y/\mayD y=true)/\ss=⟨140,runT ((n+j:Nat):Int) l u,54,Vr y acc,0⟩):=⟨_,rfl⟩;refine lX Ij (id) (by rw[hIj];exact⟨0,x,by simp,rfl,⟨by simpa using hx1,rfl,hx4,hx5⟩,rfl⟩) ?_;intro kk ss hIk _;rw[hIj]at hIk;obtain⟨j,y,hj,rfl,hxj,rfl⟩:=hIk;obtain⟨hy1,hy2,hy3,hy4⟩:=hxj;refine af ?_;(repeat intro K hK);apply wr;rcases Nat.lt_or_ge (n+j) l.length with hk|hk
   ·obtain⟨e,he,hde,-,hmem⟩:=get_at hk;have hge:=B7 he;have tn:((n:Int)+(j:Int)).toNat=n+j:=by omega
    have c3:(n:Int)+(j:Int)<l.length:=by omega
    have c4:(0:Int)<=(n:Int)+(j:Int):=by omega
    refine AD 23 [0,0,2,7,15,31,31,127,255,511,31,1055,4095,8191,16383,32767,32767,131071,262143,524287,1048575,2097151,4194303] [(3,([[],[],[1]],[])),(1,([],[])),(1,([],[])),(7,([[],[],[0,1],[0,1,2],[0,1,2,3],[],[5]],[])),(1,([],[])),(1,([],[])),(1,([],[])),(2,([[],[]],[])),(1,([],[])),(1,([],[])),(1,([],[])),(1,([],[])),(1,([],[])),(1,([],[]))] ?_;refine af1 (kX6 @hl @c3 @c4 @tn @hge (Nn hge)) ?_;(repeat intro K hK);apply wr;by_cases hev:e.at_=y.count/\e.ev.kind≠1
    ·obtain⟨v1,v2⟩:=hev;refine Cg (kX2 @v1 @v2) (kX6 @hl @c3 @c4 @tn @hge (Nn hge)) ?_;(repeat intro K hK);apply wr;refine cO ?_;refine(NL 0 29 y e.ev hy3 hy4 (hE e hmem).1 (hE e hmem).2 (by simp[lookO]) (by simp[lookO]) (by omega) (by omega) (by decide)).mono fun r nx' ob' hp=>?_;simp only[BX];obtain⟨rfl,p1,p2,p3,p4⟩:=hp;have y1:=p4 1 (by omega) (by decide) (by decide);have y2:=p4 53 (by omega) (by decide) (by decide);simp[lookO]at y1 y2;simp;refine af1 (kX3 @p2 @y1 @y2) ?_;(repeat intro K hK);apply wr;have hap:=DX hy3 (e:=e.ev) (hE e hmem).1;rw[hde]at hy1;have hwj:IntKind.i64.wrap ((n:Int)+(j:Int)+1)=(n:Int)+((j:Int)+1):=by rw[AA];omega
     refine EF ((l.length-n)-(j+1)) ((fun(j:Nat)(y:MchD)=>(⟨140,runT ((n+j:Nat):Int) l u,54,Vr y acc,0⟩:St)) (j+1) (applyD y e.ev).1) (id) (by omega) (by rw[hIj];exact⟨j+1,(applyD y e.ev).1,by omega,rfl,⟨by have:=hy1.invE (by omega) v1 v2;rwa[show n+(j+1)=n+j+1 by omega],by rw[hap.2,hy2],hap.1,CQ hy3 hy4 e.ev⟩,rfl⟩) ⟨rfl,?_,?_,?_,by simp⟩
     ·simp[leT,ltV,lt1,ren,BE,AA (n:=(j:Int)+1),lookO,y1,y2,p2,p3,hwj]
     ·simp[leO,lt1,BE,lookO,y1,y2,p2,p3,hwj]
     (simp;try omega)
    by_cases v1:e.at_=y.count
    ·have v2:e.ev.kind=1:=Classical.byContradiction fun z=>hev ⟨v1,z⟩;refine Ac (kX2 @v1 @v2) ?_;(repeat intro K hK);apply wr;refine hG ⟨y,(n+j)⟩ _ (id) (⟨hy1,hy2,hy3,hy4,by omega,fun e' he' q=>by rw[he]at he';cases he';exact Classical.byContradiction fun z=>hev ⟨q,z⟩⟩) ⟨rfl,?_,?_,?_,by simp⟩
     ·simp[leT,ltV,lt1,ren,BE]
     ·simp[leO,lt1,BE]
     (simp;try omega)
    refine Ac @v1 ?_;(repeat intro K hK);apply wr;refine hG ⟨y,(n+j)⟩ _ (id) (⟨hy1,hy2,hy3,hy4,by omega,fun e' he' q=>by rw[he]at he';cases he';exact Classical.byContradiction fun z=>hev ⟨q,z⟩⟩) ⟨rfl,?_,?_,?_,by simp⟩
    ·simp[leT,ltV,lt1,ren,BE]
    ·simp[leO,lt1,BE]
    (simp;try omega)
   obtain⟨k,hkk⟩:∃k:Nat,n+j=k:=⟨_,rfl⟩;rw[hkk]at hy1 hk ⊢;have c3:¬(k:Int)<l.length:=by omega
   have hk2:¬k<l.length:=by omega
   refine AD 23 [0,0,2,7,15,31,31,127,255,511,31,1055,4095,8191,16383,32767,32767,131071,262143,524287,1048575,2097151,4194303] [(3,([[],[],[1]],[])),(1,([],[])),(1,([],[])),(7,([[],[],[0,1],[0,1,2],[0,1,2,3],[],[5]],[])),(1,([],[])),(1,([],[])),(1,([],[])),(2,([[],[]],[])),(1,([],[])),(1,([],[])),(1,([],[])),(1,([],[])),(1,([],[])),(1,([],[]))] ?_;refine af1 (kX3 @hl @c3 @hk2) ?_;refine BN ?_;(repeat intro K hK);apply wr;refine hG ⟨y,k⟩ _ (id) (⟨hy1,hy2,hy3,hy4,by omega,fun e' he' q=>by rw[iV (by omega)]at he';cases he'⟩) ⟨rfl,?_,?_,?_,by simp⟩
   ·simp[leT,ltV,lt1,ren,BE]
   ·simp[leO,lt1,BE]
   (simp;try omega)
  have hxu:x.count=u:=by omega
  obtain⟨e1,e2,e3⟩:=hx1.fin hxu;have e4:(l.length:Int)-((l.drop n).length:Int)=n:=by rw[iE];omega
  rw[e2,iU]at hx2;refine Ac @hlt ?_;(repeat intro K hK);apply wr;refine aw ?_;simp[e1,hx2,e3,e4];omega
 rcases Nat.eq_zero_or_pos l.length with hz|hpos
 ·have hz2:l=[]:=iF hz;refine AD 17 [0,1,3,7,15,31,63,127,255,511,1023,2047,255,4351,16383,32767,65535] [(1,([],[])),(1,([],[])),(1,([],[])),(1,([],[])),(1,([],[])),(1,([],[])),(1,([],[])),(1,([],[])),(6,([[],[0],[0,1],[0,1,2],[],[4]],[])),(1,([],[])),(1,([],[])),(1,([],[]))] ?_;refine af1 (kX2 @hl @hz) ?_;refine cYf (hor) (kX2 @hl @hz) ?_;(repeat intro K hK);apply wr;refine hJ () _ (id) (trivial) ⟨rfl,?_,?_,?_,by simp⟩
  ·simp[leT,ltV,lt1,ren,BE]
  ·simp[leO,lt1,BE]
  (simp;try omega)
 obtain⟨a,ha0,-,-,-⟩:=get_at hpos;have hg0:=B7 ha0;have hfa:¬a.at_<m.count:=by cases l with|nil=>cases ha0|cons b r=>cases ha0;simpa[firstOk]using hfo
 refine AD 17 [0,1,3,7,15,31,63,127,255,511,1023,2047,255,4351,16383,32767,65535] [(1,([],[])),(1,([],[])),(1,([],[])),(1,([],[])),(1,([],[])),(1,([],[])),(1,([],[])),(1,([],[])),(6,([[],[0],[0,1],[0,1,2],[],[4]],[])),(1,([],[])),(1,([],[])),(1,([],[]))] ?_;refine af1 (kX5 @hl @hpos @hg0 (Nn hg0) @hfa) ?_;refine cYf (hor) (kX5 @hl @hpos @hg0 (Nn hg0) @hfa) ?_;(repeat intro K hK);apply wr;refine hJ () _ (id) (trivial) ⟨rfl,?_,?_,?_,by simp⟩
 ·simp[leT,ltV,lt1,ren,BE]
 ·simp[leO,lt1,BE]
 (simp;try omega)
theorem QI{m:MchD}(n:Nat)(hs:∀k<n,(itD m k).count=k/\runsD (itD m k)=true/\readsD (itD m k)=false/\(goD (itD m k) 0).2=[])(hc:(itD m n).count=n):∀j,j<=n->Tr n (itD m (n-j)) [] [] (itD m n) []
 | 0,_=>.nil hc rfl
 | j+1,hj=>by
  obtain⟨h1,h2,h3,h4⟩:=hs (n-(j+1)) (by omega);have ih:=QI n hs hc j (by omega);have e:itD m (n-j)=(goD (itD m (n-(j+1))) 0).1:=by
   rw[show n-j=(n-(j+1))+1 by omega];rfl
  rw[e]at ih;have:=Tr.go (by omega) h2 h3 (by simp) ih;rwa[h4]at this
theorem eH(l:List Int)(hl:l.length<=60):AC prog 41 [.st (Gm (H2 1 l)).row,nilE,lv 87] (.tup [.st (itD (Gm (H2 1 l)) 87).row,.sl 4 false [],iv 0,iv 0]):=by
 have hi:=LL 1 l;have h1:=ZQ (ZE 1 l) (by omega);have h2:=Pq (w:=H2 1 l) (by omega);have hq:∀j<87,Kc (itD (Gm (H2 1 l)) j)=true:=by
  intro j hj;rw[ZP l hl];exact List.all_eq_true.1 (k_q1 fun i=>(D8 l).getD i 0) j (List.mem_range.2 hj)
 have h0:(Gm (H2 1 l)).count=0:=rfl;generalize Gm (H2 1 l)=m at *;have hit:∀k≤87,OkM (itD m k)/\mayD (itD m k)=true/\(itD m k).count=k/\(itD m k).dk=m.dk:=fun k hk=>it_ok h1 h2 h0 k (by omega) fun j hj=>hq j (by omega);have hT:=QI (m:=m) 87 (fun k hk=>by
  obtain⟨g1,g2,g3,g4⟩:=hit k (by omega);have q:=hq k hk;unfold Kc at q;simp only[gX,i7]at q;have hr:runsD (itD m k)=true:=by unfold runsD;rw[g2,q.1,q.2.1,g3];simp;omega
  refine⟨g3,hr,by rw[<- ZW hr];exact q.2.2.1,?_⟩;first|exact(Lb q.2.2.2).2|exact(Lb q.2.2.2.1).2) (hit 87 (by omega)).2.2.1 87 (by omega)
 have hR:=Oq m (itD m 87) [] [] [] 87 h1 h2 hT (by omega) (by rw[h0];omega) (by simp) rfl rfl (by simp);exact hR.wk (by simp[wkT,wkC,wk1,ents])
theorem Pl(kind:Int)(l:List Int)(hl:l.length<=60):AC prog 14 [iv kind,.sl 1 false (ints .i64 l)] (.st (mkD (kind%3) l).row):=XH kind l hl (eH l hl)
end Go.Proofs.YtjkmhmepljamoaaGreat
end
