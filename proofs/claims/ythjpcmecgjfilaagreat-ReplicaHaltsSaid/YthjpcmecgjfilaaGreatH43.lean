/- A part of the proof of ReplicaHalts. -/
import Derived.Test.YthjpcmecgjfilaaGreatH06
import Derived.Test.YthjpcmecgjfilaaGreatH24
import Derived.Test.YthjpcmecgjfilaaGreatH33
import Derived.Test.YthjpcmecgjfilaaGreatH34
import Derived.Test.YthjpcmecgjfilaaGreatH35
import Derived.Test.YthjpcmecgjfilaaGreatH41
import Derived.Test.YthjpcmecgjfilaaGreatH42
set_option linter.unusedSimpArgs false
set_option linter.unusedVariables false
set_option maxHeartbeats 16000000
set_option maxRecDepth 100000
section
namespace Go.Proofs.YthjpcmecgjfilaaGreat
open Go.Ab Go.RowKit Tryz
theorem zQb {C D E G:Prop} (c:C) (d:D) (e:E) (t:C->D->E->G:=by intro c d e;(refine af1 e ?_;intros;apply wr);repeat' ((first|(refine zAC rfl (fun h=>?_) (fun h=>?_)<;>(first|(simp [e] at h;done)|(simp [e] at h)|skip)<;>(first|(exfalso;omega)|skip))|((first|refine .inl ⟨1,_,d.1,?_⟩|refine ⟨1,_,d.1,?_⟩);simp [aftC,aftE,noX,noXc,noX1,e];first|refine And.intro zAM ?_|skip)|((first|refine .inl ⟨1,_,d.2.1,?_⟩|refine ⟨1,_,d.2.1,?_⟩);simp [aftC,aftE,noX,noXc,noX1,e];first|refine And.intro zAM ?_|skip)|refine cc1 c.1 e ?_|refine cc1 c.2.1 e ?_|refine cc1 c.2.2.1 e ?_|refine cc1 c.2.2.2.1 e ?_|refine cc1 c.2.2.2.2.1 e ?_|refine cc1 c.2.2.2.2.2.1 e ?_|(refine zAE (rid:=18) 12 [0,1,0,0,12,28,63,127,255,255,511,1535] [(6,([[],[0],[],[],[2,3],[2,3,4]],[])),(1,([],[])),(1,([],[])),(4,([[],[],[0],[0,2]],[]))] ?_)|(refine zAE (rid:=24) 12 [0,1,0,0,12,28,63,127,255,255,511,1535] [(6,([[],[0],[],[],[2,3],[2,3,4]],[])),(1,([],[])),(1,([],[])),(4,([[],[],[0],[0,2]],[]))] ?_)|exact rt1 e|fail)<;>(refine af1 e ?_;intros;apply wr))):G:=t c d e
abbrev halT (runs:Int) (i:Nat):List (Nat × V):=[(11,.int .i64 i),(9,.ptr 262 3 0 0),(7,.ptr 257 255 0 0),(2,iv runs)]
noncomputable abbrev halO:Option Ob:=some ⟨64,3,true,false,[[.sl 1 false (strs zAb),lv 2,iv 1]]⟩
noncomputable abbrev wldO (a b:RepD):Option Ob:=some ⟨66,255,true,false,[wldR a b]⟩
theorem halts_ok (l:List Int) (n runs:Int):zAD prog 4 [.sl 1 false (ints .i64 l),iv n,iv runs] (.bool true):=by
 have hl1:=zAN .i64 l;by_cases hc:(60:Int)<l.length\/runs<1\/20<runs
 ·rcases hc with hc|hc|hc
  ·refine sZ func4 ntmps4 ?_;exact zQb (qX1 (zDY)) trivial (kX2 @hl1 @hc)
  ·refine sZ func4 ntmps4 ?_;exact zQb (qX1 (zDY)) trivial (kX2 @hl1 @hc)
  refine sZ func4 ntmps4 ?_;exact zQb (qX1 (zDY)) trivial (kX2 @hl1 @hc)
 have c1:¬ (60:Int)<l.length:=fun q=>hc (.inl q)
 have c2:¬ runs<1:=fun q=>hc (.inr (.inl q))
 have c3:¬ 20<runs:=fun q=>hc (.inr (.inr q))
 obtain ⟨hM,hmay,hs⟩:=zTP (n % 2 % 3) l (by omega)
 have hm:=zMC (n % 2) l (by omega)
 generalize mkD (n % 2 % 3) l=M at *
 have hst:=zIG (n % 2) 1 l M (by decide) hmay hs ⟨hM.gv.1,by have:=hM.gv.2;omega⟩ (by have:=hM.n;omega) hm
 have ha:=zTV hM hmay (limit:=1) (by decide)
 have hb:=zS1 hM hmay (limit:=1) (by decide)
 have hinit:OkF (zCy 0 M 1 1) 0/\OkBk (zEF 1 M 1 1) (zCy 0 M 1 1).out.base (zCy 0 M 1 1).rec_.m (zCy 0 M 1 1).hist 0/\(zEF 1 M 1 1).beats=(0:Nat):=⟨ha,hb,rfl⟩;clear ha hb;generalize zCy 0 M 1 1=a0 at *
 generalize zEF 1 M 1 1=b0 at *
 have hro:=zAn n 2 (by decide) (by decide)
 refine sY func4 ntmps4 @hl1 ?_;intros;apply wr;refine gF10 (kX4 @hl1 @c1 @c2 @c3) rfl ?_;intros;apply wr;refine ccB (hro) ?_;refine auB ?_;intros;apply wr;refine ccB (hst) ?_;refine auB ?_;intros;apply wr;refine cF0 rfl ?_;refine auB ?_;intros;apply wr;refine ccB (zON) ?_;refine auB ?_;intros;apply wr;refine cF0 rfl ?_;refine auB ?_;intros;apply wr;obtain ⟨I,hI⟩:∃ I:Nat->St->Prop,I=(fun kk ss=>∃ (i:Nat) (a:RepD) (b:RepD),i<=runs.toNat/\kk=runs.toNat-i/\(OkF a i/\OkBk b a.out.base a.rec_.m a.hist i/\b.beats=i)/\ss=⟨196,halT runs i,263,[(257,wldO a b),(262,halO)],0⟩):=⟨_,rfl⟩
 refine lX I (id) (by rw [hI];exact ⟨0,a0,b0,by simp,rfl,hinit,rfl⟩) ?_
 intro kk ss hIk _
 rw [hI] at hIk;obtain ⟨i,a,b,hi,rfl,hx,rfl⟩:=hIk;refine auB ?_;intros;apply wr;refine zAC rfl (fun hh=>?_) (fun hh=>?_)
 ·simp at hh;have hlt:(i:Int)<20:=by omega
  obtain ⟨hxa,hxb,hxt⟩:=hx;have hw20:IntKind.i64.wrap (20*(i:Int))=20*i:=zAA (by omega) (by omega)
  have hwi:IntKind.u32.wrap (20*(i:Int))=20*i:=u32_in (by omega) (by omega)
  have hw1:IntKind.i64.wrap ((i:Int)+1)=((i+1:Nat):Int):=by rw [zAA (by omega) (by omega)];omega
  obtain ⟨a1,a2,L,bs,b3,b4,M',sa,r1,r2,r3,r4,r5,r6,r7,r8,r9,r10,r11,r12,r13⟩:=zUg hxa hxb hxt (by omega) 15 (clock:=20*(i:Int)) ⟨by omega,by omega⟩
  clear hxa hxb hxt;refine auB1 (kX2 @hw20 @hwi) ?_;intros;apply wr;refine ccB1 (r1) (kX2 @hw20 @hwi) ?_;refine auB ?_;intros;apply wr;refine ccB (r2) ?_;refine auB ?_;intros;apply wr;have hLs:=zBR L;subst r4;obtain ⟨Ij,hIj⟩:∃ I:Nat->St->Prop,I=(fun kk ss=>∃ (j:Nat) ,j<=L.length/\kk=L.length-j/\(True)/\ss=⟨196,(14,.int .i64 j)::(13,.sl 1 false (strs L))::halT runs i,263,[(257,wldO a2 (bs j)),(262,halO)],0⟩):=⟨_,rfl⟩
  refine lX Ij (id) (by rw [hIj];exact ⟨0,by simp,rfl,trivial,rfl⟩) ?_
  intro kk ss hIk _
  rw [hIj] at hIk;obtain ⟨j,hj,rfl,hxj,rfl⟩:=hIk;refine auB1 @hLs ?_;intros;apply wr;refine zAC rfl (fun hh2=>?_) (fun hh2=>?_)
  ·simp at hh2;have hjl:j<L.length:=by omega
   obtain ⟨p,hp⟩:∃ p,L[j]? =some p:=⟨_,zV3 hjl⟩;have hgp:=zHF hp;obtain ⟨cx,hcx⟩:=r5 j p hp;refine auB ?_;intros;apply wr;refine zAE 12 [0,1,0,0,12,28,63,127,255,255,511,1535] [(6,([[],[0],[],[],[2,3],[2,3,4]],[])),(1,([],[])),(1,([],[])),(4,([[],[],[0],[0,2]],[]))] ?_;refine afB1 (kX2 @hLs @hgp) ?_;intros;apply wr;refine ccB (hcx) ?_;refine afB ?_;intros;apply wr;exact aX (id) (by rw [hIj];exact ⟨j+1,by omega,rfl,trivial,rfl⟩) (zAA (n:=(j:Int)+1) (by omega) (by omega))
  simp at hh2;have hjl:j=L.length:=by omega
  subst hjl;generalize bs L.length=b2 at *
  refine afB ?_;intros;apply wr;refine ccB (r6) ?_;refine afB ?_;intros;apply wr;refine ccB (r7) ?_;refine afB ?_;intros;apply wr;have hMs:=zBR M';subst r9;obtain ⟨Iy,hIy⟩:∃ I:Nat->St->Prop,I=(fun kk ss=>∃ (y:Nat) ,y<=M'.length/\kk=M'.length-y/\(True)/\ss=⟨196,(17,.int .i64 y)::(16,.sl 1 false (strs M'))::halT runs i,263,[(257,wldO (sa y) b4),(262,halO)],0⟩):=⟨_,rfl⟩
  refine lX Iy (id) (by rw [hIy];exact ⟨0,by simp,rfl,trivial,rfl⟩) ?_
  intro kk ss hIk _
  rw [hIy] at hIk;obtain ⟨y,hy,rfl,hxy,rfl⟩:=hIk;refine afB1 @hMs ?_;intros;apply wr;refine zAC rfl (fun hh3=>?_) (fun hh3=>?_)
  ·simp at hh3;have hjk:y<M'.length:=by omega
   obtain ⟨p,hp⟩:∃ p,M'[y]? =some p:=⟨_,zV3 hjk⟩;have hgp:=zHF hp;obtain ⟨cx,hcx⟩:=r10 y p hp;refine afB ?_;intros;apply wr;refine zAE 12 [0,1,0,0,12,28,63,127,255,255,511,1535] [(6,([[],[0],[],[],[2,3],[2,3,4]],[])),(1,([],[])),(1,([],[])),(4,([[],[],[0],[0,2]],[]))] ?_;refine afB1 (kX2 @hMs @hgp) ?_;intros;apply wr;refine ccB (hcx) ?_;refine afB ?_;intros;apply wr;exact aX (id) (by rw [hIy];exact ⟨y+1,by omega,rfl,trivial,rfl⟩) (zAA (n:=(y:Int)+1) (by omega) (by omega))
  simp at hh3;have hjk:y=2:=by omega
  subst hjk;generalize sa 2=a5 at *
  have hP:=r11.pp (by omega)
  have hcm:=zHt a5;have hcb:=zJV a5 r11.may;have hsto:=zRa zAb 2 1 (by simp [zAb])
  cases hd:dueR a5 with
  | false =>
   have hrel:=zVK a5 zAb 2 1 (by simp [zAb]) hP r11.role hd
   have hx0:=r11.rel;have hx2:OkBk b4 (relA a5).out.base (relA a5).rec_.m (relA a5).hist (i+1):=r12;have hx1:=hx0.role;generalize relA a5=x at *
   generalize relD a5.gate a5.out.known=R at *
   cases hq:zEG a5 with
   | false =>
    have k1:(zBC a5).2=false:=by unfold zBC;rw [hq];rfl
    generalize zBC a5=C at *
    refine afB ?_;intros;apply wr;refine ccB (hcm) ?_;refine afB1 @k1 ?_;intros;apply wr;refine ccB (hrel) ?_;refine afB ?_;intros;apply wr;refine ccB (hsto) ?_;refine afB1 @hx1 ?_;intros;apply wr;refine cF1 @hx1 rfl ?_;refine afB ?_;intros;apply wr;refine cF0 rfl ?_;refine afB ?_;intros;apply wr;exact aX (id) (by rw [hI];exact ⟨i+1,x,b4,by omega,rfl,⟨hx0,hx2,r13⟩,rfl⟩) (kX2 (zAA (n:=(i:Int)+1) (by omega) (by omega)) @hw1)
   | true =>
    obtain ⟨k1,k2⟩:=hcb hq;by_cases hc0:a5.cmd=0
    ·have d1:(a5.cmd==0)=true:=by rw [hc0];rfl
     have d2:decide (a5.cmd=0)=true:=by rw [hc0];rfl
     have k3:decide (a5.cmdAt<a5.out.known)=false:=by simpa [dueR,hq,hc0] using hd
     generalize zBC a5=C at *
     refine afB ?_;intros;apply wr;refine ccB (hcm) ?_;refine afB1 (kX5 @k1 @k2 @k3 @d1 @d2) ?_;intros;apply wr;refine ccB (hrel) ?_;refine afB ?_;intros;apply wr;refine ccB (hsto) ?_;refine afB1 @hx1 ?_;intros;apply wr;refine cF1 @hx1 rfl ?_;refine afB ?_;intros;apply wr;refine cF0 rfl ?_;refine afB ?_;intros;apply wr;exact aX (id) (by rw [hI];exact ⟨i+1,x,b4,by omega,rfl,⟨hx0,hx2,r13⟩,rfl⟩) (kX2 (zAA (n:=(i:Int)+1) (by omega) (by omega)) @hw1)
    have d1:(a5.cmd==0)=false:=by simp [hc0]
    have d2:decide (a5.cmd=0)=false:=by simp [hc0]
    generalize zBC a5=C at *
    refine afB ?_;intros;apply wr;refine ccB (hcm) ?_;refine afB1 (kX3 @k1 @d1 @d2) ?_;intros;apply wr;refine ccB (hrel) ?_;refine afB ?_;intros;apply wr;refine ccB (hsto) ?_;refine afB1 @hx1 ?_;intros;apply wr;refine cF1 @hx1 rfl ?_;refine afB ?_;intros;apply wr;refine cF0 rfl ?_;refine afB ?_;intros;apply wr;exact aX (id) (by rw [hI];exact ⟨i+1,x,b4,by omega,rfl,⟨hx0,hx2,r13⟩,rfl⟩) (kX2 (zAA (n:=(i:Int)+1) (by omega) (by omega)) @hw1)
  | true =>
   have hrel:=zVJ a5 zAb 2 1 (by simp [zAb]) hP r11.role hd (by rw [r11.gen];decide)
   unfold dueR at hd;simp only [zV5,decide_eq_true_eq] at hd;obtain ⟨⟨hq,hc0⟩,hk3⟩:=hd;obtain ⟨k1,k2⟩:=hcb hq;have d1:(a5.cmd==0)=true:=by rw [hc0];rfl
   have d2:decide (a5.cmd=0)=true:=by rw [hc0];rfl
   have hPo:=off_p hP;have hrun:=zVT _ hPo rfl 10 0;have hpk:=zVQ _ hPo rfl;have hsr:=zRW _ hPo r11.e;have hma:=rm0_ok {a5 with role:=0} rfl
   have hsm:=zI3 zMch (by decide)
   have hx1:({a5 with role:=0}:RepD).role=0:=rfl
   generalize ({a5 with role:=0}:RepD)=x at *
   generalize zBC a5=C at *
   refine afB ?_;intros;apply wr;refine ccB (hcm) ?_;refine afB1 (kX5 @k1 @k2 @hk3 @d1 @d2) ?_;intros;apply wr;refine ccB (hrel) ?_;refine afB ?_;intros;apply wr;refine ccB (hsto) ?_;refine afB1 @hx1 ?_;intros;apply wr;refine cF1 @hx1 rfl ?_;refine afB ?_;intros;apply wr;refine cT0 rfl ?_;refine afB ?_;intros;apply wr;refine ccB (hrun) ?_;refine afB ?_;intros;apply wr;refine ccB (hpk) ?_;refine afB ?_;intros;apply wr;refine ccB (hsr) ?_;refine afB ?_;intros;apply wr;refine ccB (hma) ?_;refine afB ?_;intros;apply wr;refine ccB (hsm) ?_;refine afB ?_;intros;apply wr;refine ccB (zDY) ?_;refine afB ?_;intros;apply wr;refine zAB ?_;simp
 simp at hh;refine afB ?_;intros;apply wr;refine ccB (zDY) ?_;refine afB ?_;intros;apply wr;refine zAB ?_;simp
end Go.Proofs.YthjpcmecgjfilaaGreat
end
