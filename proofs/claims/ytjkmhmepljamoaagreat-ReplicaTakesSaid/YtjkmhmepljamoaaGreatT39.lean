/- A part of the proof of ReplicaTakes. -/
import Derived.Test.YtjkmhmepljamoaaGreatT07
import Derived.Test.YtjkmhmepljamoaaGreatT18
import Derived.Test.YtjkmhmepljamoaaGreatT32
import Derived.Test.YtjkmhmepljamoaaGreatT33
import Derived.Test.YtjkmhmepljamoaaGreatT35
import Derived.Test.YtjkmhmepljamoaaGreatT38
set_option linter.all false
set_option maxHeartbeats 16000000
set_option maxRecDepth 100000
section
namespace Go.Proofs.YtjkmhmepljamoaaGreat
open Go.Ab Go.RowKit Tryz
theorem Mt{nx:Nat}{ob:List (Nat×Option Ob)}(id j:Nat)(m:MchD)(e:EvD)(hM:OkM m)(hmay:mayD m=true)(hn:W32 e.n)(hd:e.data.length<=100000)(hob:lookO ob id=some (bG m (.own j)))(hj:lookO ob j=some (EF m.mem))(hi:id<nx)(hjn:j<nx)(hne:id≠j):
  Bt prog 92 [.ptr id 49 0 0,.st e.row] nx ob fun r nx' ob'=>r=.bool (applyD m e).2/\K7 nx ob id j (applyD m e).1 nx' ob':=by
 have n1:¬j=id:=fun e=>hne e.symm;have m1:¬id=nx:=by omega
 have m2:¬j=nx:=by omega
 have hm0:¬(mayD m=false\/m.halted=true)↔m.halted=false:=by rw[hmay];simp
 cases hh:m.halted with
 | true =>
  have hE:applyD m e=(m,false):=F2 m e hh;refine sIY func92 ntmps92 (kX4 @hob @hj @m1 @m2) ?_;refine EM @hh ?_;intros;apply wr;refine ar ?_;simp[hE];exact⟨by omega,by simp[lookO,hob,m1],by simp[lookO,n1,hj,m2],fun i h1 h2 h3=>by simp[lookO,h2,show ¬i=nx by omega]⟩
 | false =>
  have h0:¬(mayD m=false\/m.halted=true):=hm0.2 hh;obtain⟨k,n,dd⟩:=e;simp only at hn hd;by_cases k2:k=2
  ·subst k2;by_cases hc:n=0/\dd=[]
   ·obtain⟨rfl,rfl⟩:=hc;have hE:applyD m ⟨2,0,[]⟩=({m with tim:=(FC m.tim).1},(FC m.tim).2):=by unfold applyD;rw[if_neg h0];rfl
    refine sIY func92 ntmps92 (kX4 @hob @hj @m1 @m2) ?_;refine B1 @hh ?_;refine II (kX2 @hob @m1) ?_;refine cZ (X5 m.tim) (kX2 @hob @m1) (kX2 @hob @m1) ?_;intros;apply wr;refine ar ?_;simp[hE];exact⟨by omega,by simp[lookO,hob,m1],by simp[lookO,n1,hj,m2],fun i h1 h2 h3=>by simp[lookO,h2,show ¬i=nx by omega]⟩
   have hE:applyD m ⟨2,n,dd⟩=(m,false):=by unfold applyD;rw[if_neg h0];simp[hc]
   refine sIY func92 ntmps92 (kX4 @hob @hj @m1 @m2) ?_;refine B1 @hh ?_;refine B1 @hc ?_;refine CX ?_;refine CX ?_;refine CX ?_;refine CX ?_;intros;apply wr;refine ar ?_;simp[hE];exact⟨by omega,by simp[lookO,hob,m1],by simp[lookO,n1,hj,m2],fun i h1 h2 h3=>by simp[lookO,h2,show ¬i=nx by omega]⟩
  by_cases k3:k=3
  ·subst k3;by_cases hc:n<=255/\dd=[]
   ·obtain⟨hc1,rfl⟩:=hc;have hE:applyD m ⟨3,n,[]⟩=({m with keys:=(FT m.keys (UInt8.ofNat n.toNat)).1},(FT m.keys (UInt8.ofNat n.toNat)).2):=by unfold applyD;rw[if_neg h0,if_neg (by simp),if_pos rfl,if_pos ⟨hc1,rfl⟩]
    have hty:=Xl m.keys (UInt8.ofNat n.toNat) (by have:=hM.k;omega);have hw:IntKind.u8.wrap n=((UInt8.ofNat n.toNat).toNat:Int):=by rw[IntKind.wrap_u8,UInt8.toNat_ofNat'];have:=hn.1;omega
    generalize UInt8.ofNat n.toNat=b at *;refine sIY func92 ntmps92 (kX4 @hob @hj @m1 @m2) ?_;refine B1 @hh ?_;refine CX ?_;refine EM @hc1 ?_;intros;apply wr;refine AG 16 [0,0,2,6,14,0,32,96,254,510,1022,1022,2047,6143,14335,32767] [(15,([[],[],[1],[1,2],[1,2,3],[],[5],[5,6],[1,2,3,4,5,6,7],[1,2,3,4,5,6,7,8],[1,2,3,4,5,6,7,8,9],[1,2,3,4,5,6,7,8,9],[0,1,2,3,4,5,6,7,8,9,10],[0,1,2,3,4,5,6,7,8,9,10,12],[0,1,2,3,4,5,6,7,8,9,10,12,13]],[])),(1,([],[]))] ?_;refine af1 (kX3 @hob @m1 @hw) ?_;refine cYf (hty) (kX2 @hob @m1) ?_;intros;apply wr;refine ar ?_;simp[hE];exact⟨by omega,by simp[lookO,hob,m1],by simp[lookO,n1,hj,m2],fun i h1 h2 h3=>by simp[lookO,h2,show ¬i=nx by omega]⟩
   have hE:applyD m ⟨3,n,dd⟩=(m,false):=by unfold applyD;rw[if_neg h0,if_neg (by simp),if_pos rfl,if_neg hc]
   refine sIY func92 ntmps92 (kX4 @hob @hj @m1 @m2) ?_;refine Ae @hh ?_;refine BU ?_;refine Ae @hc ?_;refine BU ?_;refine BU ?_;refine BU ?_;intros;apply wr;refine ar ?_;simp[hE];exact⟨by omega,by simp[lookO,hob,m1],by simp[lookO,n1,hj,m2],fun i h1 h2 h3=>by simp[lookO,h2,show ¬i=nx by omega]⟩
  by_cases k4:k=4
  ·subst k4;have hE:applyD m ⟨4,n,dd⟩=({m with dk:=(AK m.dk m.mem ⟨4,n,dd⟩).1,mem:=(AK m.dk m.mem ⟨4,n,dd⟩).2.1},(AK m.dk m.mem ⟨4,n,dd⟩).2.2):=by unfold applyD;rw[if_neg h0,if_neg (by simp),if_neg (by simp),if_pos rfl]
   refine sIY func92 ntmps92 (kX4 @hob @hj @m1 @m2) ?_;refine Ae @hh ?_;refine BU ?_;refine BU ?_;refine Eh @hne ?_;intros;apply wr;refine An (.node 0 10 (.leaf [0,1,2,3,4,5,6,7,8,9,10,11,12,13,14,15,16,17] (bN [0,0,2,6,14,0,32,96,224,0,1023,2047,4095,4095,8191,24575,57343,131071]) [(10,([[],[],[1],[1,2],[1,2,3],[],[5],[5,6],[5,6,7],[]],[])),(1,([],[])),(1,([],[])),(5,([[],[],[0],[0,2],[0,2,3]],[])),(1,([],[]))]) (.leaf [1,2,3,4,5,6,7,8,9,10,0,11,12,13,14,15,16,17] (bN [0,1,3,7,0,16,48,112,0,511,1023,1023,3071,3071,8191,24575,57343,131071]) [(9,([[],[0],[0,1],[0,1,2],[],[4],[4,5],[4,5,6],[]],[])),(1,([],[])),(7,([[],[],[1],[1],[0,1,2],[0,1,2,4],[0,1,2,4,5]],[])),(1,([],[]))])) (by kernel_rfl) (by kernel_rfl) ?_;simp only[PT.run]
   repeat' (with_reducible apply And.intro)
   all_goals (simp only[Bo,fJ,gI,fC,fK];refine af1 (kX2 @hob @m1) ?_;intros;apply wr)
   all_goals
    refine cO ?_;refine(RS j m.dk m.mem ⟨4,n,dd⟩ hM.d.f hM.w (by simp[lookO,m2,hj]) (by omega)).mono fun r nx' ob' hp=>?_;simp only[BS];obtain⟨rfl,g1,g2,g3⟩:=hp;have y1:=g3 id (by omega) hne;simp[lookO,m1,hob]at y1;simp;refine af1 @y1 ?_;intros;apply wr;refine ar ?_;simp[hE];refine⟨by omega,by simp[lookO],by simp[lookO,n1,g2],fun i h1 h2 h3=>?_⟩;have ee:=g3 i (by omega) h3;simp[lookO,show ¬i=nx by omega]at ee;simp[lookO,h2,ee]
  by_cases k5:k=5
  ·subst k5;by_cases hc:n=0
   ·subst hc;have hE:applyD m ⟨5,0,dd⟩=({m with nc:=(Ah m.nc m.mem dd).1,mem:=(Ah m.nc m.mem dd).2.1},(Ah m.nc m.mem dd).2.2):=by unfold applyD;rw[if_neg h0,if_neg (by simp),if_neg (by simp),if_neg (by simp),if_pos rfl,if_pos rfl]
    refine sIY func92 ntmps92 (kX4 @hob @hj @m1 @m2) ?_;refine Ae @hh ?_;refine BU ?_;refine BU ?_;refine BU ?_;refine Eh @hne ?_;intros;apply wr;refine An (.node 0 11 (.leaf [0,1,2,3,4,5,6,7,8,9,10,11,12,13,14,15,16,17,18] (bN [0,0,2,6,14,0,32,96,224,0,512,2047,4095,8191,8191,16383,49151,114687,262143]) [(11,([[],[],[1],[1,2],[1,2,3],[],[5],[5,6],[5,6,7],[],[9]],[])),(1,([],[])),(1,([],[])),(5,([[],[],[0],[0,2],[0,2,3]],[])),(1,([],[]))]) (.leaf [1,2,3,4,5,6,7,8,9,10,11,0,12,13,14,15,16,17,18] (bN [0,1,3,7,0,16,48,112,0,256,1023,2047,2047,6143,6143,16383,49151,114687,262143]) [(10,([[],[0],[0,1],[0,1,2],[],[4],[4,5],[4,5,6],[],[8]],[])),(1,([],[])),(7,([[],[],[1],[1],[0,1,2],[0,1,2,4],[0,1,2,4,5]],[])),(1,([],[]))])) (by kernel_rfl) (by kernel_rfl) ?_;simp only[PT.run]
    repeat' (with_reducible apply And.intro)
    all_goals (simp only[Bo,fJ,gI,fC,fK];refine af1 (kX2 @hob @m1) ?_;intros;apply wr)
    all_goals
     refine cO ?_;refine(RI j m.nc m.mem dd hM.r.c hM.w hd (by simp[lookO,m2,hj]) (by omega)).mono fun r nx' ob' hp=>?_;simp only[BS];obtain⟨rfl,g1,g2,g3⟩:=hp;have y1:=g3 id (by omega) hne;simp[lookO,m1,hob]at y1;simp;refine af1 @y1 ?_;intros;apply wr;refine ar ?_;simp[hE];refine⟨by omega,by simp[lookO],by simp[lookO,n1,g2],fun i h1 h2 h3=>?_⟩;have ee:=g3 i (by omega) h3;simp[lookO,show ¬i=nx by omega]at ee;simp[lookO,h2,ee]
   have hE:applyD m ⟨5,n,dd⟩=(m,false):=by unfold applyD;rw[if_neg h0,if_neg (by simp),if_neg (by simp),if_neg (by simp),if_pos rfl,if_neg hc]
   refine sIY func92 ntmps92 (kX4 @hob @hj @m1 @m2) ?_;refine Ae @hh ?_;refine BU ?_;refine BU ?_;refine BU ?_;refine Ae @hc ?_;refine BU ?_;intros;apply wr;refine ar ?_;simp[hE];exact⟨by omega,by simp[lookO,hob,m1],by simp[lookO,n1,hj,m2],fun i h1 h2 h3=>by simp[lookO,h2,show ¬i=nx by omega]⟩
  by_cases k6:k=6
  ·subst k6;by_cases hc:dd=[]
   ·subst hc;have hE:applyD m ⟨6,n,[]⟩=({m with tgt:=n},true):=by unfold applyD;rw[if_neg h0,if_neg (by simp),if_neg (by simp),if_neg (by simp),if_neg (by simp),if_pos rfl,if_pos rfl]
    refine sIY func92 ntmps92 (kX4 @hob @hj @m1 @m2) ?_;refine Ae @hh ?_;refine BU ?_;refine BU ?_;refine BU ?_;refine BU ?_;refine TI (kX2 @hob @m1) ?_;intros;apply wr;refine ar ?_;simp[hE];exact⟨by omega,by simp[lookO,hob,m1],by simp[lookO,n1,hj,m2],fun i h1 h2 h3=>by simp[lookO,h2,show ¬i=nx by omega]⟩
   have hE:applyD m ⟨6,n,dd⟩=(m,false):=by unfold applyD;rw[if_neg h0,if_neg (by simp),if_neg (by simp),if_neg (by simp),if_neg (by simp),if_pos rfl,if_neg hc]
   refine sIY func92 ntmps92 (kX4 @hob @hj @m1 @m2) ?_;refine Ae @hh ?_;refine BU ?_;refine BU ?_;refine BU ?_;refine BU ?_;refine Ae @hc ?_;intros;apply wr;refine ar ?_;simp[hE];exact⟨by omega,by simp[lookO,hob,m1],by simp[lookO,n1,hj,m2],fun i h1 h2 h3=>by simp[lookO,h2,show ¬i=nx by omega]⟩
  have hE:applyD m ⟨k,n,dd⟩=(m,false):=by unfold applyD;rw[if_neg h0,if_neg k2,if_neg k3,if_neg k4,if_neg k5,if_neg k6]
  refine sIY func92 ntmps92 (kX4 @hob @hj @m1 @m2) ?_;refine Ae @hh ?_;refine Ae @k2 ?_;refine Ae @k3 ?_;refine Ae @k4 ?_;refine Ae @k5 ?_;refine Ae @k6 ?_;intros;apply wr;refine ar ?_;simp[hE];exact⟨by omega,by simp[lookO,hob,m1],by simp[lookO,n1,hj,m2],fun i h1 h2 h3=>by simp[lookO,h2,show ¬i=nx by omega]⟩
theorem QE(m:MchD)(h1:m.mem.length<=100000):AC prog 91 [.st m.row] (.st (rowM m (.new 25 1 (ints .u32 m.mem)))):=by
 refine sX func91 ntmps91 ?_;refine cX (XX m.mem h1) ?_;refine ar ?_;simp
theorem cC(m:MchD)(e:EvD)(hM:OkM m)(hmay:mayD m=true)(hn:W32 e.n)(hd:e.data.length<=100000):AC prog 42 [.st m.row,.st e.row] (.tup [.st (applyD m e).1.row,.bool (applyD m e).2]):=by
 have ho:=QE m (by have:=hM.n;omega);have hm:=U8 m hM.gv.1 (by have:=hM.gv.2;omega);rw[hmay]at hm;refine sX func42 ntmps42 ?_;refine cX (ho) ?_;refine cn (hm) ?_;refine au ?_;refine CX ?_;intros;apply wr;refine cO ?_;refine(Mt 0 28 m e hM hmay hn hd (by simp[lookO]) (by simp[lookO]) (by omega) (by omega) (by decide)).mono fun r nx' ob' hp=>?_;simp only[BS];obtain⟨rfl,p1,p2,p3,p4⟩:=hp;have y2:=p4 2 (by omega) (by decide) (by decide);simp[lookO]at y2;simp;refine au1 (kX2 @p2 @y2) ?_;intros;apply wr;refine aw ?_;have hf:∀i,lookO (List.map (fun p:Nat×Option Ob=>(p.1,p.2.map fzO)) ob') i=(lookO ob' i).map fzO:=Ei ob';simp[hf,p3,fzO]
theorem cM(l:List EntD)(hb:l.length<=100000):AC prog 90 [Br l] (.bool (ordD l)):=by
 have hl:=BA l;refine sX func90 ntmps90 ?_;intros;apply wr;obtain⟨I,hI⟩:∃I:Nat->St->Prop,I=(fun kk ss=>∃(i:Nat),i<=(l.length-1)/\kk=(l.length-1)-i/\(ordD l=ordD (l.drop i))/\ss=⟨46,[(3,.int .i64 (i+1)),(0,Br l)],0,[],0⟩):=⟨_,rfl⟩;refine lX I (id) (by rw[hI];exact⟨0,by simp,rfl,rfl,rfl⟩) ?_;intro kk ss hIk _;rw[hI]at hIk;obtain⟨i,hi,rfl,hx,rfl⟩:=hIk;refine au1 @hl ?_;intros;apply wr;refine AB rfl (fun hh=>?_) (fun hh=>?_)
 ·simp at hh;obtain⟨a,ha,hda,-,-⟩:=get_at (show i<l.length by omega);obtain⟨b,hb2,hdb,-,-⟩:=get_at (show i+1<l.length by omega);have hga:=B0 ha;have hgb:=B0 hb2;have hw:IntKind.i64.wrap ((i:Int)+1+1)=(i:Int)+1+1:=AA (by omega) (by omega);rw[hda,hdb,ordD,<- hdb]at hx;have hwi:IntKind.i64.wrap (i:Int)=i:=AA (by omega) (by omega);refine au1 (kX4 @hga @hgb @hl @hwi) ?_;intros;apply wr;refine AG 36 [0,0,3,7,15,0,0,64,224,480,992,2047,4095,8191,8191,32767,65535,131071,8191,8191,532479,1843199,3940351,8134655,16777215,33554431,67108863,67108863,201326591,536870911,1073741823,2147483647,4294967295,8589934591,17179869183,34359738367] [(11,([[],[],[0,1],[0,1,2],[0,1,2,3],[],[],[6],[5,6,7],[5,6,7,8],[5,6,7,8,9]],[])),(1,([],[])),(1,([],[])),(11,([[],[],[0,1],[0,1,2],[0,1,2,3],[],[],[6],[5,6,7],[5,6,7,8],[5,6,7,8,9]],[])),(1,([],[])),(1,([],[])),(3,([[],[],[1]],[])),(1,([],[])),(1,([],[])),(1,([],[])),(1,([],[])),(1,([],[])),(1,([],[])),(1,([],[]))] ?_;refine af1 (kX4 @hl @hga @hgb @hwi) ?_;intros;apply wr;refine AB rfl (fun hc=>?_) (fun hc=>?_)
  ·have hF:ordD l=false:=by rw[hx];grind
   refine af ?_;refine ar ?_;simp[hF]
  refine af ?_;intros;apply wr;exact aX (id) (by rw[hI];exact⟨i+1,by omega,rfl,(by rw[hx];grind),rfl⟩) (kX2 (AA (n:=(i:Int)+1) (by omega) (by omega)) @hw)
 simp at hh;have hd:(l.drop i).length<=1:=by rw[fF];omega
 have hO:ordD (l.drop i)=true:=by
  cases hq:l.drop i with
  | nil=>rfl
  | cons a r=>cases r with|nil=>rfl|cons b r=>rw[hq]at hd;simp at hd
 rw[hO]at hx;refine af ?_;refine ar ?_;simp[hx]
theorem Ug(m:MchD)(hM:OkM m):AC prog 94 [.st m.row] (.bool (rdsD m)):=by
 have hr:=U5 m hM;have hc:=I4 hM;obtain⟨w,hw⟩:∃w,w=wAt m.mem ((AL m).cpu.pc/4):=⟨_,rfl⟩;have hww:W32 w:=by rw[hw];exact Oi hM.w _
 have hl:=Xd m.mem (AL m).cpu.pc 4 (.inr rfl) hc.pc;have hE:rdsD m=(decide ((AL m).cpu.csr 0%2=1)&&AS m.mem (AL m).cpu.pc 4&&validD (DW w)&&decide ((DW w).op=60)&&decide ((DW w).imm=2)):=by rw[hw];rfl
 have hL:By m.mem (AL m).cpu.pc 4=w:=by rw[hw];rfl
 rw[hL]at hl;have hk:=TR (hc.csr 0);generalize (AL m).cpu=c at *;rw[hE];by_cases h0:c.csr 0%2=0
 ·refine sZ func94 ntmps94 ?_;exact wx1 (qX1 (hr)) trivial (kX2 @hk @h0)
 have h1:c.csr 0%2=1:=by omega
 cases hwi:AS m.mem c.pc 4 with
 | false =>
  rw[hwi]at hl;simp only[fU,if_false]at hl;have hd:=Fg 0 ⟨by omega,by omega⟩;refine sZ func94 ntmps94 ?_;exact wx1 (qX3 (hr) (hl) (hd)) trivial (kX3 @hk @h1 @Zj.eq_1)
 | true =>
  rw[hwi]at hl;simp only[if_true]at hl;have hd:=Fg w hww;unfold Zj at hd;cases hv:validD (DW w)with
  | false =>
   rw[hv,if_neg (by simp)]at hd;refine sZ func94 ntmps94 ?_;exact wx1 (qX3 (hr) (hl) (hd)) trivial (kX2 @hk @h1)
  | true =>
   rw[hv,if_pos rfl]at hd;refine sZ func94 ntmps94 ?_;exact wx1 (qX3 (hr) (hl) (hd)) trivial (kX2 @hk @h1)
end Go.Proofs.YtjkmhmepljamoaaGreat
end
