/- A part of the proof of ReplicaFollows. -/
import Derived.Test.YthjpcmecgjfilaaGreatB09
import Derived.Test.YthjpcmecgjfilaaGreatB10
import Derived.Test.YthjpcmecgjfilaaGreatB24
import Derived.Test.YthjpcmecgjfilaaGreatB27
import Derived.Test.YthjpcmecgjfilaaGreatB29
import Derived.Test.YthjpcmecgjfilaaGreatB30
import Derived.Test.YthjpcmecgjfilaaGreatB31
import Derived.Test.YthjpcmecgjfilaaGreatB37
import Derived.Test.YthjpcmecgjfilaaGreatB40
import Derived.Test.YthjpcmecgjfilaaGreatB48
set_option linter.unusedSimpArgs false
set_option linter.unusedVariables false
set_option maxHeartbeats 16000000
set_option maxRecDepth 100000
section
namespace Go.Proofs.YthjpcmecgjfilaaGreat
open Go.Ab Go.RowKit Tryz
theorem zKa {bs:List (List UInt8)} {i:Nat} {s:List UInt8} (h:bs[i]? =some s):(strs bs)[i]? =some [.str s]:=by simp [strs,h]
theorem zL2 (n k:Int) (hk:k<=1000):zAD prog 31 [iv n,iv k] (.str (zCg n k.toNat)):=by
 refine sX func31 ntmps31 ?_;intros;apply wr;refine zAT 5 5 1 (by decide) rfl ?_
 obtain ⟨I,hI⟩:∃ I:Nat->St->Prop,I=(fun kk ss=>∃ (i:Nat) ,i<=k.toNat/\kk=k.toNat-i/\(True)/\ss=⟨22,[(6,.int .i64 i),(5,.own 0),(1,iv k),(0,iv n)],1,[(0,some ⟨5,1,false,false,zAN (zCg n i)⟩)],0⟩):=⟨_,rfl⟩
 refine lX I (id) (by rw [hI];exact ⟨0,by simp,rfl,trivial,rfl⟩) ?_
 intro kk ss hIk _
 rw [hI] at hIk;obtain ⟨i,hi,rfl,hx,rfl⟩:=hIk;refine au ?_;intros;apply wr;refine zAC rfl (fun h=>?_) (fun h=>?_)
 ·simp at h;have hl:=zTH n i;have hb:=zLv n i;have hw:IntKind.i64.wrap ((i:Int) / 9)=(i:Int) / 9:=zAA (by omega) (by omega)
  refine au1 @hw ?_;intros;apply wr;refine ccm1 (zMU n ((i:Int) / 9)) (kX3 @hl @hb @maxLen.eq_1) ?_;refine aum1 (kX3 @hl @hb @maxLen.eq_1) ?_;intros;apply wr;exact aX (fun x=>if x=0 then 3 else x) (by rw [hI];exact ⟨i+1,by omega,rfl,trivial,rfl⟩) (kX2 (zAA (n:=(i:Int)+1) (by omega) (by omega)) @zH0)
 simp at h;have hi:i=k.toNat:=by omega
 subst hi;have hs:=zD0 (zCg n k.toNat);have hB:=zDz (zCg n k.toNat);refine aum1 (kX2 @hs @hB) ?_;intros;apply wr;refine zAB ?_;simp
theorem zRc (n:Int):∃ e:EvD,W32 e.n/\e.data.length<=1000/\zAD prog 8 [iv n] (.st e.row):=by
 have hm:=zMU n 2;generalize mixA n 2=v at hm;have w1:W32 1:=⟨by decide,by decide⟩
 have e8:v.fdiv (2 ^ min 8 IntKind.i64.bits)=v.fdiv 256:=rfl;by_cases h0:v.tmod 7=0
 ·refine ⟨⟨2,0,[]⟩,⟨by decide,by decide⟩,by simp,?_⟩
  refine sZ func8 ntmps8 ?_;exact wx1 (qX1 (hm)) trivial @h0
 by_cases h1:v.tmod 7=1
 ·refine ⟨⟨3,IntKind.u32.wrap (iand .i64 (v.fdiv 256) 255),[]⟩,uw_w _,by simp,?_⟩
  refine sZ func8 ntmps8 ?_;exact wx1 (qX1 (hm)) trivial (kX3 @h0 @h1 @e8)
 by_cases h2:v.tmod 7=2
 ·refine ⟨⟨3,IntKind.u32.wrap (iand .i64 (v.fdiv 256) 255),[]⟩,uw_w _,by simp,?_⟩
  refine sZ func8 ntmps8 ?_;exact wx1 (qX1 (hm)) trivial (kX4 @h0 @h1 @h2 @e8)
 by_cases h3:v.tmod 7=3
 ·refine ⟨⟨4,1,[]⟩,w1,by simp,?_⟩
  refine sZ func8 ntmps8 ?_;exact wx1 (qX1 (hm)) trivial (kX5 @h0 @h1 @h2 @h3 @e8)
 by_cases h4:v.tmod 7=4
 ·refine ⟨⟨4,1,zCg v 128⟩,w1,by simp [zEg],?_⟩
  refine sZ func8 ntmps8 ?_;exact wx1 (qX2 (hm) (zL2 v 128 (by decide))) trivial (kX6 @h0 @h1 @h2 @h3 @h4 @e8)
 by_cases h5:v.tmod 7=5
 ·have hk:IntKind.i64.wrap (1+(v.fdiv 256).tmod 40)<=1000:=by
   have h1:=Int.tmod_lt_of_pos (v.fdiv 256) (show (0:Int)<40 by decide)
   have h2:=Int.lt_tmod_of_pos (v.fdiv 256) (show (0:Int)<40 by decide)
   rw [zAA (by omega) (by omega)];omega
  have hd:=zL2 v _ hk;refine ⟨⟨5,0,zCg v (IntKind.i64.wrap (1+(v.fdiv 256).tmod 40)).toNat⟩,zAp,by rw [zEg];omega,?_⟩
  refine sZ func8 ntmps8 ?_;exact wx1 (qX2 (hm) (hd)) trivial (kX7 @h0 @h1 @h2 @h3 @h4 @h5 @e8)
 by_cases h6:(v.fdiv 256).tmod 4=0
 ·refine ⟨⟨4,0,[]⟩,zAp,by simp,?_⟩
  refine sZ func8 ntmps8 ?_;exact wx1 (qX1 (hm)) trivial (kX8 @h0 @h1 @h2 @h3 @h4 @h5 @h6 @e8)
 refine ⟨⟨6,IntKind.u32.wrap ((v.fdiv 256).tmod 3),[]⟩,uw_w _,by simp,?_⟩
 refine sZ func8 ntmps8 ?_;exact wx1 (qX1 (hm)) trivial (kX8 @h0 @h1 @h2 @h3 @h4 @h5 @h6 @e8)
theorem zQq {C D E G:Prop} (c:C) (d:D) (e:E) (t:C->D->E->G:=by intro c d e;(refine af1 e ?_;intros;apply wr);repeat' ((first|(refine zAC rfl (fun h=>?_) (fun h=>?_)<;>(first|(simp [e] at h;done)|(simp [e] at h)|skip)<;>(first|(exfalso;omega)|skip))|((first|refine .inl ⟨1,_,d.1,?_⟩|refine ⟨1,_,d.1,?_⟩);simp [aftC,aftE,noX,noXc,noX1,e];first|refine And.intro zAO ?_|skip)|((first|refine .inl ⟨1,_,d.2.1,?_⟩|refine ⟨1,_,d.2.1,?_⟩);simp [aftC,aftE,noX,noXc,noX1,e];first|refine And.intro zAO ?_|skip)|refine cc1 c.1 e ?_|refine cc1 c.2.1 e ?_|refine cc1 c.2.2.1 e ?_|refine cc1 c.2.2.2.1 e ?_|refine cc1 c.2.2.2.2.1 e ?_|refine cc1 c.2.2.2.2.2.1 e ?_|(refine zAG (rid:=10) 13 [0,1,0,0,12,28,60,127,255,511,511,1023,3071] [(7,([[],[0],[],[],[2,3],[2,3,4],[2,3,4,5]],[(1,6)])),(1,([],[])),(1,([],[])),(4,([[],[],[0],[0,2]],[]))] ?_)|(refine zAG (rid:=11) 13 [0,1,0,0,12,28,60,0,128,384,1023,2047,4095] [(10,([[],[0],[],[],[2,3],[2,3,4],[2,3,4,5],[],[7],[7,8]],[(1,6),(9,6)])),(1,([],[])),(1,([],[])),(1,([],[]))] ?_)|(refine zAG (rid:=17) 12 [0,1,0,0,12,28,63,127,255,255,511,1535] [(6,([[],[0],[],[],[2,3],[2,3,4]],[])),(1,([],[])),(1,([],[])),(4,([[],[],[0],[0,2]],[]))] ?_)|(refine zAG (rid:=24) 12 [0,1,0,0,12,28,63,127,255,255,511,1535] [(6,([[],[0],[],[],[2,3],[2,3,4]],[])),(1,([],[])),(1,([],[])),(4,([[],[],[0],[0,2]],[]))] ?_)|(refine zBX (rid:=25) (.node 2 6 (.node 2 7 (.node 5 6 (.node 5 7 (.node 6 7 (.leaf [0,1,2,3,4,5,6,7,8,9] (bN [0,1,3,0,8,31,63,127,255,511]) [(5,([[],[0],[0,1],[],[3]],[(4,2)])),(1,([],[])),(1,([],[])),(1,([],[])),(1,([],[])),(1,([],[]))]) (.leaf [0,1,2,3,4,5,7,6,8,9] (bN [0,1,3,0,8,31,63,127,255,511]) [(5,([[],[0],[0,1],[],[3]],[(4,2)])),(1,([],[])),(1,([],[])),(1,([],[])),(1,([],[])),(1,([],[]))])) (.leaf [0,1,2,3,4,7,5,6,8,9] (bN [0,1,3,0,8,7,63,127,255,511]) [(6,([[],[0],[0,1],[],[3],[0,1,2]],[(4,2),(4,5)])),(1,([],[])),(1,([],[])),(1,([],[])),(1,([],[]))])) (.node 6 7 (.node 5 7 (.leaf [0,1,2,3,4,6,5,7,8,9] (bN [0,1,3,0,8,7,63,127,255,511]) [(6,([[],[0],[0,1],[],[3],[0,1,2]],[(4,2),(4,5)])),(1,([],[])),(1,([],[])),(1,([],[])),(1,([],[]))]) (.leaf [0,1,2,3,4,6,7,5,8,9] (bN [0,1,3,0,8,7,39,127,255,511]) [(7,([[],[0],[0,1],[],[3],[0,1,2],[0,1,2,5]],[(4,2),(4,5),(4,6)])),(1,([],[])),(1,([],[])),(1,([],[]))])) (.leaf [0,1,2,3,4,7,6,5,8,9] (bN [0,1,3,0,8,7,39,127,255,511]) [(7,([[],[0],[0,1],[],[3],[0,1,2],[0,1,2,5]],[(4,2),(4,5),(4,6)])),(1,([],[])),(1,([],[])),(1,([],[]))]))) (.node 5 6 (.leaf [0,1,3,4,7,2,5,6,8,9] (bN [0,1,0,4,0,19,63,127,255,511]) [(6,([[],[0],[],[2],[],[0,1,4]],[(1,4),(3,4),(3,5)])),(1,([],[])),(1,([],[])),(1,([],[])),(1,([],[]))]) (.leaf [0,1,3,4,7,2,6,5,8,9] (bN [0,1,0,4,0,19,51,127,255,511]) [(7,([[],[0],[],[2],[],[0,1,4],[0,1,4,5]],[(1,4),(3,4),(3,5),(3,6)])),(1,([],[])),(1,([],[])),(1,([],[]))]))) (.node 6 7 (.node 2 7 (.node 5 7 (.leaf [0,1,3,4,6,2,5,7,8,9] (bN [0,1,0,4,0,19,63,127,255,511]) [(6,([[],[0],[],[2],[],[0,1,4]],[(1,4),(3,4),(3,5)])),(1,([],[])),(1,([],[])),(1,([],[])),(1,([],[]))]) (.leaf [0,1,3,4,6,2,7,5,8,9] (bN [0,1,0,4,0,19,51,127,255,511]) [(7,([[],[0],[],[2],[],[0,1,4],[0,1,4,5]],[(1,4),(3,4),(3,5),(3,6)])),(1,([],[])),(1,([],[])),(1,([],[]))])) (.leaf [0,1,3,4,6,7,2,5,8,9] (bN [0,1,0,4,0,16,51,127,255,511]) [(7,([[],[0],[],[2],[],[4],[0,1,4,5]],[(1,4),(1,5),(3,4),(3,5),(3,6)])),(1,([],[])),(1,([],[])),(1,([],[]))])) (.leaf [0,1,3,4,7,6,2,5,8,9] (bN [0,1,0,4,0,16,51,127,255,511]) [(7,([[],[0],[],[2],[],[4],[0,1,4,5]],[(1,4),(1,5),(3,4),(3,5),(3,6)])),(1,([],[])),(1,([],[])),(1,([],[]))]))) (by kernel_rfl) (by kernel_rfl) ?_;simp only [PT.run];repeat' (with_reducible apply And.intro);all_goals (simp only [zB0,zWb,List.map_nil,zWV,zWk]))|(refine zAG (rid:=31) 14 [0,0,2,6,14,0,62,126,254,511,1023,2047,2047,4095] [(9,([[],[],[1],[1,2],[1,2,3],[],[1,2,3,4,5],[1,2,3,4,5,6],[1,2,3,4,5,6,7]],[])),(1,([],[])),(1,([],[])),(3,([[],[],[0]],[]))] ?_)|exact rt1 e|fail)<;>(refine af1 e ?_;intros;apply wr))):G:=t c d e
abbrev folT (kind:Int) (l runs es:List Int) (i:Nat):List (Nat × V):=[(11,.int .i64 i),(9,.ptr 256 255 0 0),(2,.sl 1 false (ints .i64 runs)),(3,.sl 1 false (ints .i64 es)),(0,iv kind),(1,.sl 1 false (ints .i64 l))]
theorem follows_ok (kind:Int) (l runs es:List Int):zAD prog 3 [iv kind,.sl 1 false (ints .i64 l),.sl 1 false (ints .i64 runs),.sl 1 false (ints .i64 es)] (.bool true):=by
 have hl1:=zAM .i64 l;have hl2:=zAM .i64 runs;have hl3:=zAM .i64 es;by_cases hc:(60:Int)<l.length\/(20:Int)<runs.length\/(20:Int)<es.length
 ·rcases hc with hc|hc|hc
  ·refine sZ func3 ntmps3 ?_;exact zQq (qX1 (zEd)) trivial (kX4 @hl1 @hl2 @hl3 @hc)
  ·refine sZ func3 ntmps3 ?_;exact zQq (qX1 (zEd)) trivial (kX4 @hl1 @hl2 @hl3 @hc)
  refine sZ func3 ntmps3 ?_;exact zQq (qX1 (zEd)) trivial (kX4 @hl1 @hl2 @hl3 @hc)
 have c1:¬ (60:Int)<l.length:=fun q=>hc (.inl q)
 have c2:¬ (20:Int)<runs.length:=fun q=>hc (.inr (.inl q))
 have c3:¬ (20:Int)<es.length:=fun q=>hc (.inr (.inr q))
 obtain ⟨hM,hmay,hs⟩:=zTb (kind % 3) l (by omega)
 have hm:=zMQ kind l (by omega)
 generalize mkD (kind % 3) l=M at *
 have hst:=zIN kind 3 l M (by decide) hmay hs ⟨hM.gv.1,by have:=hM.gv.2;omega⟩ (by have:=hM.n;omega) hm
 have ha:=zTh hM hmay (limit:=3) (by decide)
 have hb:=zTE hM hmay (limit:=3) (by decide)
 have hinit:OkF (zC1 0 M 1 3) 0/\OkBk (zEL 1 M 1 3) (zC1 0 M 1 3).out.base (zC1 0 M 1 3).rec_.m (zC1 0 M 1 3).hist 0/\(zEL 1 M 1 3).beats=(0:Nat):=⟨ha,hb,rfl⟩;clear ha hb;generalize zC1 0 M 1 3=a0 at *
 generalize zEL 1 M 1 3=b0 at *
 refine sY func3 ntmps3 (kX3 @hl1 @hl2 @hl3) ?_;(repeat intro K hK);apply wr
 refine gF10 (kX6 @hl1 @hl2 @hl3 @c1 @c2 @c3) rfl ?_;(repeat intro K hK);apply wr
 refine ccB (hst) ?_;refine auB ?_;(repeat intro K hK);apply wr
 refine cF0 rfl ?_;refine auB ?_;(repeat intro K hK);apply wr
 obtain ⟨I,hI⟩:∃ I:Nat->St->Prop,I=(fun kk ss=>∃ (i:Nat) (a:RepD) (b:RepD),i<=runs.length/\kk=runs.length-i/\(OkF a i/\OkBk b a.out.base a.rec_.m a.hist i/\b.beats=i)/\ss=⟨187,folT kind l runs es i,257,[(256,some ⟨66,255,true,false,[wldR a b]⟩)],0⟩):=⟨_,rfl⟩
 refine lX I (id) (by rw [hI];exact ⟨0,a0,b0,by simp,rfl,hinit,rfl⟩) ?_
 intro kk ss hIk _
 rw [hI] at hIk;obtain ⟨i,a,b,hi,rfl,hx,rfl⟩:=hIk;refine auB1 @hl2 ?_;(repeat intro K hK);apply wr
 refine zAC rfl (fun hh=>?_) (fun hh=>?_)
 ·simp at hh;have hlt:i<runs.length:=by omega
  obtain ⟨hxa,hxb,hxt⟩:=hx;obtain ⟨x,hx'⟩:∃ x,runs[i]? =some x:=⟨_,zWH hlt⟩;have hget:=zBp (k:=.i64) hx';have hw70:IntKind.i64.wrap (3*(i:Int))=3*i:=zAA (by omega) (by omega)
  have hwi:IntKind.u32.wrap (3*(i:Int))=3*i:=u32_in (by omega) (by omega)
  have hw1:IntKind.i64.wrap ((i:Int)+1)=((i+1:Nat):Int):=by rw [zAA (by omega) (by omega)];omega
  refine auB1 @hl3 ?_;(repeat intro K hK);apply wr
  refine zBe (α:=List EvD) (fun q=>(⟨187,folT kind l runs es i,257,[(256,some ⟨66,255,true,false,[wldR (zEY a q) b]⟩)],0⟩:St)) (fun q=>q.length<=1/\(∀ x∈q,OkW1 x)) hK (fun q hxhG=>?_) (fun hG=>?_)
  all_goals clear hK
  ·obtain ⟨hq1,hq2⟩:=hxhG;obtain ⟨a1,a2,L,bs,b3,b4,M',sa,r1,r2,r3,r4,r5,r6,r7,r8,r9,r10,r11,r12,r13⟩:=zSf hxa hxb hxt (by omega) hq1 hq2 (x % 20) (clock:=3*(i:Int)) ⟨by omega,by omega⟩
   clear hxa hxb hxt;generalize zEY a q=rq at *
   refine auB ?_;(repeat intro K hK);apply wr
   refine zAG 13 [0,1,0,0,12,28,60,0,128,384,1023,2047,4095] [(10,([[],[0],[],[],[2,3],[2,3,4],[2,3,4,5],[],[7],[7,8]],[(1,6),(9,6)])),(1,([],[])),(1,([],[])),(1,([],[]))] ?_;refine afB1 (kX2 @hl2 @hget) ?_;(repeat intro K hK);apply wr
   refine ccB (zAo x 20 (by decide) (by decide)) ?_
   refine afB1 (kX2 @hw70 @hwi) ?_;(repeat intro K hK);apply wr
   refine ccB1 (r1) (kX2 @hw70 @hwi) ?_;refine afB ?_;(repeat intro K hK);apply wr
   refine ccB (r2) ?_;refine afB ?_;(repeat intro K hK);apply wr
   have hLs:=zCA L;subst r4;obtain ⟨Ij,hIj⟩:∃ I:Nat->St->Prop,I=(fun kk ss=>∃ (j:Nat) ,j<=L.length/\kk=L.length-j/\(True)/\ss=⟨187,(14,.int .i64 j)::(13,.sl 1 false (strs L))::folT kind l runs es i,257,[(256,some ⟨66,255,true,false,[wldR a2 (bs j)]⟩)],0⟩):=⟨_,rfl⟩
   refine lX Ij (id) (by rw [hIj];exact ⟨0,by simp,rfl,trivial,rfl⟩) ?_
   intro kk ss hIk _
   rw [hIj] at hIk;obtain ⟨j,hj,rfl,hxj,rfl⟩:=hIk;refine afB1 @hLs ?_;(repeat intro K hK);apply wr
   refine zAC rfl (fun hh2=>?_) (fun hh2=>?_)
   ·simp at hh2;have hjl:j<L.length:=by omega
    obtain ⟨p,hp⟩:∃ p,L[j]? =some p:=⟨_,zWH hjl⟩;have hgp:=zKa hp;obtain ⟨cx,hcx⟩:=r5 j p hp;refine afB ?_;(repeat intro K hK);apply wr
    refine zAG 12 [0,1,0,0,12,28,63,127,255,255,511,1535] [(6,([[],[0],[],[],[2,3],[2,3,4]],[])),(1,([],[])),(1,([],[])),(4,([[],[],[0],[0,2]],[]))] ?_;refine afB1 (kX2 @hLs @hgp) ?_;(repeat intro K hK);apply wr
    refine ccB (hcx) ?_;refine afB ?_;(repeat intro K hK);apply wr
    exact aX (id) (by rw [hIj];exact ⟨j+1,by omega,rfl,trivial,rfl⟩) (zAA (n:=(j:Int)+1) (by omega) (by omega))
   simp at hh2;have hjl:j=L.length:=by omega
   subst hjl;generalize bs L.length=b2 at *
   refine afB ?_;(repeat intro K hK);apply wr
   refine ccB (r6) ?_;refine afB ?_;(repeat intro K hK);apply wr
   refine ccB (r7) ?_;refine afB ?_;(repeat intro K hK);apply wr
   have hMs:=zCA M';subst r9;obtain ⟨Iy,hIy⟩:∃ I:Nat->St->Prop,I=(fun kk ss=>∃ (y:Nat) ,y<=M'.length/\kk=M'.length-y/\(True)/\ss=⟨187,(17,.int .i64 y)::(16,.sl 1 false (strs M'))::folT kind l runs es i,257,[(256,some ⟨66,255,true,false,[wldR (sa y) b4]⟩)],0⟩):=⟨_,rfl⟩
   refine lX Iy (id) (by rw [hIy];exact ⟨0,by simp,rfl,trivial,rfl⟩) ?_
   intro kk ss hIk _
   rw [hIy] at hIk;obtain ⟨y,hy,rfl,hxy,rfl⟩:=hIk;refine afB1 @hMs ?_;(repeat intro K hK);apply wr
   refine zAC rfl (fun hh3=>?_) (fun hh3=>?_)
   ·simp at hh3;have hjk:y<M'.length:=by omega
    obtain ⟨p,hp⟩:∃ p,M'[y]? =some p:=⟨_,zWH hjk⟩;have hgp:=zKa hp;obtain ⟨cx,hcx⟩:=r10 y p hp;refine afB ?_;(repeat intro K hK);apply wr
    refine zAG 12 [0,1,0,0,12,28,63,127,255,255,511,1535] [(6,([[],[0],[],[],[2,3],[2,3,4]],[])),(1,([],[])),(1,([],[])),(4,([[],[],[0],[0,2]],[]))] ?_;refine afB1 (kX2 @hMs @hgp) ?_;(repeat intro K hK);apply wr
    refine ccB (hcx) ?_;refine afB ?_;(repeat intro K hK);apply wr
    exact aX (id) (by rw [hIy];exact ⟨y+1,by omega,rfl,trivial,rfl⟩) (zAA (n:=(y:Int)+1) (by omega) (by omega))
   simp at hh3;have hjk:y=2:=by omega
   subst hjk;generalize sa 2=a5 at *
   have m1:=zTl a5 r11.role (by have:=r11.m.n;omega)
   have m2:=zTm b4 r12.role (by have:=r12.j.j.m.n;omega)
   have hse:=zRl a5.hist (by have:=r11.h;omega)
   have hqe:=r11.oq;have hhe:b4.hist=a5.hist:=r12.h;have hce:b4.rpl.m.count=a5.rec_.m.count:=r12.j.c;have hsm:=zQU a5.rec_.m (by have:=r11.m.n;omega)
   have hll:=r12.ll;have hel:=zAn b4.rpl.log;refine afB ?_;(repeat intro K hK);apply wr
   refine zBe (α:=Unit) (fun _=>(⟨187,(18,.ptr 257 49 0 0)::(19,.ptr 258 49 0 0)::folT kind l runs es i,259,[(257,some ⟨42,49,true,false,[a5.rec_.m.row]⟩),(258,some ⟨42,49,true,false,[b4.rpl.m.row]⟩),(256,some ⟨66,255,true,false,[wldR a5 b4]⟩)],0⟩:St)) (fun _=>True) hK (fun _ hxhY=>?_) (fun hY=>?_)
   all_goals clear hK
   ·have hse':zAD prog 14 [zBV a5.hist,zBV b4.hist] (.bool true):=by rw [hhe];exact hse
    refine afB1 (kX3 @hce @hqe @segs.eq_1) ?_;(repeat intro K hK);apply wr
    refine ccB (hse') ?_;refine afB ?_;(repeat intro K hK);apply wr
    refine cF0 rfl ?_;refine afB ?_;(repeat intro K hK);apply wr
    obtain ⟨Iz,hIz⟩:∃ I:Nat->St->Prop,I=(fun kk ss=>∃ (z:Nat) (m:MchD),z<=b4.rpl.log.length/\kk=b4.rpl.log.length-z/\(m=appL b4.rpl.m (b4.rpl.log.take z)/\OkM m/\mayD m=true)/\ss=⟨187,(20,.int .i64 z)::(18,.ptr 257 49 0 0)::(19,.ptr 258 49 0 0)::folT kind l runs es i,259,[(257,some ⟨42,49,true,false,[a5.rec_.m.row]⟩),(258,some ⟨42,49,true,false,[m.row]⟩),(256,some ⟨66,255,true,false,[wldR a5 b4]⟩)],0⟩):=⟨_,rfl⟩
    refine lX1 Iz (id) (by rw [hIz];exact ⟨0,b4.rpl.m,by simp,rfl,⟨by simp,r12.j.j.m,r12.j.may⟩,rfl⟩) (kX3 @hce @hqe @segs.eq_1) ?_
    intro kk ss hIk _
    rw [hIz] at hIk;obtain ⟨z,m,hz,rfl,hxz,rfl⟩:=hIk;refine afB1 @hel ?_;(repeat intro K hK);apply wr
    refine zAC rfl (fun hh4=>?_) (fun hh4=>?_)
    ·simp at hh4;obtain ⟨e,he,-,-,hmem⟩:=get_at (show z<b4.rpl.log.length by omega)
     have hge:=zCQ he;obtain ⟨hx1,hx2,hx3⟩:=hxz;have hev:=r12.j.v e hmem;have hap:=zVV m e.ev hx2 hx3 hev.n hev.d;refine afB1 @hel ?_;(repeat intro K hK);apply wr
     refine zAG 14 [0,0,2,6,14,0,62,126,254,511,1023,2047,2047,4095] [(9,([[],[],[1],[1,2],[1,2,3],[],[1,2,3,4,5],[1,2,3,4,5,6],[1,2,3,4,5,6,7]],[])),(1,([],[])),(1,([],[])),(3,([[],[],[0]],[]))] ?_;refine afB1 (kX2 @hel @hge) ?_;(repeat intro K hK);apply wr
     refine ccB (hap) ?_;refine afB ?_;(repeat intro K hK);apply wr
     exact aX (id) (by rw [hIz];exact ⟨z+1,(applyD m e.ev).1,by omega,rfl,⟨by show _=List.foldl _ _ _;rw [List.take_add_one,he,Option.toList_some,List.foldl_append];rw [hx1];rfl,(zCx hx2 hev.n).1,zBl hx2 hx3 e.ev⟩,rfl⟩) (zAA (n:=(z:Int)+1) (by omega) (by omega))
    simp at hh4;have hfin:m=a5.rec_.m:=by rw [hxz.1,List.take_of_length_le (by omega)];exact r12.j.a
    clear hxz;subst hfin;refine afB ?_;(repeat intro K hK);apply wr
    refine ccB (hsm) ?_;refine afB ?_;(repeat intro K hK);apply wr
    refine cF0 rfl ?_;refine afB ?_;(repeat intro K hK);apply wr
    exact aX (id) (by rw [hI];exact ⟨i+1,a5,b4,by omega,rfl,⟨r11,r12,r13⟩,rfl⟩) (kX2 (zAA (n:=(i:Int)+1) (by omega) (by omega)) @hw1)
   refine zBX (.node 2 6 (.node 2 7 (.node 5 6 (.node 5 7 (.node 6 7 (.leaf [0,1,2,3,4,5,6,7,8,9] (bN [0,1,3,0,8,31,63,127,255,511]) [(5,([[],[0],[0,1],[],[3]],[(4,2)])),(1,([],[])),(1,([],[])),(1,([],[])),(1,([],[])),(1,([],[]))]) (.leaf [0,1,2,3,4,5,7,6,8,9] (bN [0,1,3,0,8,31,63,127,255,511]) [(5,([[],[0],[0,1],[],[3]],[(4,2)])),(1,([],[])),(1,([],[])),(1,([],[])),(1,([],[])),(1,([],[]))])) (.leaf [0,1,2,3,4,7,5,6,8,9] (bN [0,1,3,0,8,7,63,127,255,511]) [(6,([[],[0],[0,1],[],[3],[0,1,2]],[(4,2),(4,5)])),(1,([],[])),(1,([],[])),(1,([],[])),(1,([],[]))])) (.node 6 7 (.node 5 7 (.leaf [0,1,2,3,4,6,5,7,8,9] (bN [0,1,3,0,8,7,63,127,255,511]) [(6,([[],[0],[0,1],[],[3],[0,1,2]],[(4,2),(4,5)])),(1,([],[])),(1,([],[])),(1,([],[])),(1,([],[]))]) (.leaf [0,1,2,3,4,6,7,5,8,9] (bN [0,1,3,0,8,7,39,127,255,511]) [(7,([[],[0],[0,1],[],[3],[0,1,2],[0,1,2,5]],[(4,2),(4,5),(4,6)])),(1,([],[])),(1,([],[])),(1,([],[]))])) (.leaf [0,1,2,3,4,7,6,5,8,9] (bN [0,1,3,0,8,7,39,127,255,511]) [(7,([[],[0],[0,1],[],[3],[0,1,2],[0,1,2,5]],[(4,2),(4,5),(4,6)])),(1,([],[])),(1,([],[])),(1,([],[]))]))) (.node 5 6 (.leaf [0,1,3,4,7,2,5,6,8,9] (bN [0,1,0,4,0,19,63,127,255,511]) [(6,([[],[0],[],[2],[],[0,1,4]],[(1,4),(3,4),(3,5)])),(1,([],[])),(1,([],[])),(1,([],[])),(1,([],[]))]) (.leaf [0,1,3,4,7,2,6,5,8,9] (bN [0,1,0,4,0,19,51,127,255,511]) [(7,([[],[0],[],[2],[],[0,1,4],[0,1,4,5]],[(1,4),(3,4),(3,5),(3,6)])),(1,([],[])),(1,([],[])),(1,([],[]))]))) (.node 6 7 (.node 2 7 (.node 5 7 (.leaf [0,1,3,4,6,2,5,7,8,9] (bN [0,1,0,4,0,19,63,127,255,511]) [(6,([[],[0],[],[2],[],[0,1,4]],[(1,4),(3,4),(3,5)])),(1,([],[])),(1,([],[])),(1,([],[])),(1,([],[]))]) (.leaf [0,1,3,4,6,2,7,5,8,9] (bN [0,1,0,4,0,19,51,127,255,511]) [(7,([[],[0],[],[2],[],[0,1,4],[0,1,4,5]],[(1,4),(3,4),(3,5),(3,6)])),(1,([],[])),(1,([],[])),(1,([],[]))])) (.leaf [0,1,3,4,6,7,2,5,8,9] (bN [0,1,0,4,0,16,51,127,255,511]) [(7,([[],[0],[],[2],[],[4],[0,1,4,5]],[(1,4),(1,5),(3,4),(3,5),(3,6)])),(1,([],[])),(1,([],[])),(1,([],[]))])) (.leaf [0,1,3,4,7,6,2,5,8,9] (bN [0,1,0,4,0,16,51,127,255,511]) [(7,([[],[0],[],[2],[],[4],[0,1,4,5]],[(1,4),(1,5),(3,4),(3,5),(3,6)])),(1,([],[])),(1,([],[])),(1,([],[]))]))) (by kernel_rfl) (by kernel_rfl) ?_
   simp only [PT.run]
   repeat' (with_reducible apply And.intro)
   all_goals (simp only [zB0,zWb,List.map_nil,zWV,zWk];refine afB ?_;(repeat intro K hK);apply wr)
   all_goals ((refine ccB (m1) ?_))
   all_goals ((refine afB ?_);(repeat intro K hK);(apply wr))
   all_goals ((refine ccB (m2) ?_))
   all_goals ((refine afB ?_);(repeat intro K hK);(apply wr))
   ·refine hY () _ (fun x=>if x=257 then 355 else if x=258 then 356 else x) (trivial) ⟨rfl,?_,?_,?_,by simp⟩
    ·simp [leT,ltV,lt1,ren,ren1]
    ·simp [leO,lt1,ren1]
    (simp;try omega)
   ·refine hY () _ (fun x=>if x=257 then 356 else if x=258 then 355 else x) (trivial) ⟨rfl,?_,?_,?_,by simp⟩
    ·simp [leT,ltV,lt1,ren,ren1]
    ·simp [leO,lt1,ren1]
    (simp;try omega)
   ·refine hY () _ (fun x=>if x=257 then 356 else if x=258 then 306 else x) (trivial) ⟨rfl,?_,?_,?_,by simp⟩
    ·simp [leT,ltV,lt1,ren,ren1]
    ·simp [leO,lt1,ren1]
    (simp;try omega)
   ·refine hY () _ (fun x=>if x=257 then 306 else if x=258 then 356 else x) (trivial) ⟨rfl,?_,?_,?_,by simp⟩
    ·simp [leT,ltV,lt1,ren,ren1]
    ·simp [leO,lt1,ren1]
    (simp;try omega)
   ·refine hY () _ (fun x=>if x=257 then 306 else if x=258 then 307 else x) (trivial) ⟨rfl,?_,?_,?_,by simp⟩
    ·simp [leT,ltV,lt1,ren,ren1]
    ·simp [leO,lt1,ren1]
    (simp;try omega)
   ·refine hY () _ (fun x=>if x=257 then 307 else if x=258 then 306 else x) (trivial) ⟨rfl,?_,?_,?_,by simp⟩
    ·simp [leT,ltV,lt1,ren,ren1]
    ·simp [leO,lt1,ren1]
    (simp;try omega)
   ·refine hY () _ (fun x=>if x=257 then 356 else if x=258 then 257 else x) (trivial) ⟨rfl,?_,?_,?_,by simp⟩
    ·simp [leT,ltV,lt1,ren,ren1]
    ·simp [leO,lt1,ren1]
    (simp;try omega)
   ·refine hY () _ (fun x=>if x=257 then 307 else if x=258 then 257 else x) (trivial) ⟨rfl,?_,?_,?_,by simp⟩
    ·simp [leT,ltV,lt1,ren,ren1]
    ·simp [leO,lt1,ren1]
    (simp;try omega)
   ·refine hY () _ (fun x=>if x=257 then 257 else if x=258 then 356 else x) (trivial) ⟨rfl,?_,?_,?_,by simp⟩
    ·simp [leT,ltV,lt1,ren,ren1]
    ·simp [leO,lt1,ren1]
    (simp;try omega)
   ·refine hY () _ (fun x=>if x=257 then 257 else if x=258 then 307 else x) (trivial) ⟨rfl,?_,?_,?_,by simp⟩
    ·simp [leT,ltV,lt1,ren,ren1]
    ·simp [leO,lt1,ren1]
    (simp;try omega)
   ·refine hY () _ (fun x=>if x=257 then 257 else if x=258 then 258 else x) (trivial) ⟨rfl,?_,?_,?_,by simp⟩
    ·simp [leT,ltV,lt1,ren,ren1]
    ·simp [leO,lt1,ren1]
    (simp;try omega)
   refine hY () _ (fun x=>if x=257 then 258 else if x=258 then 257 else x) (trivial) ⟨rfl,?_,?_,?_,by simp⟩
   ·simp [leT,ltV,lt1,ren,ren1]
   ·simp [leO,lt1,ren1]
   (simp;try omega)
  by_cases he:i<es.length
  ·obtain ⟨z,hz⟩:∃ z,es[i]? =some z:=⟨_,zWH he⟩;have hgz:=zBp (k:=.i64) hz;obtain ⟨e,he1,he2,hev⟩:=zRc z;have hP:=(hxa.okP (q:=[]) (by omega) (by simp) (by simp)).up (show 400<=40000 by omega)
   have hin:=zRs a e (by have h0:zEY a []=a:=(by have:=hxa.q;obtain ⟨x1,x2,x3,⟨m,k,g,q⟩,d⟩:=a;simp only at this;subst this;rfl);rw [h0] at hP;exact hP)
   obtain ⟨q,hq,hq1,hq2⟩:=zU2 hxa.q (e:=e) ⟨he1,by omega⟩
   rw [hq] at hin;refine cT1 (kX2 @he @hl3) rfl ?_;refine afB ?_;(repeat intro K hK);apply wr
   refine zAG 13 [0,1,0,0,12,28,60,127,255,511,511,1023,3071] [(7,([[],[0],[],[],[2,3],[2,3,4],[2,3,4,5]],[(1,6)])),(1,([],[])),(1,([],[])),(4,([[],[],[0],[0,2]],[]))] ?_;refine afB1 (kX2 @hl3 @hgz) ?_;(repeat intro K hK);apply wr
   refine ccB (hev) ?_;refine afB ?_;(repeat intro K hK);apply wr
   refine ccB (hin) ?_;refine afB ?_;(repeat intro K hK);apply wr
   refine hG q _ (id) (⟨hq1,hq2⟩) ⟨rfl,?_,?_,?_,by simp⟩
   ·simp [leT,ltV,lt1,ren,ren1]
   ·simp [leO,lt1,ren1]
   (simp;try omega)
  have hqe:evs a.rec_.queue=[]:=by rw [hxa.q];rfl
  refine cF1 (kX2 @he @hl3) rfl ?_;refine afB ?_;(repeat intro K hK);apply wr
  refine hG [] _ (id) (⟨by simp,by simp⟩) ⟨rfl,?_,?_,?_,by simp⟩
  ·simp [leT,ltV,lt1,ren,ren1,hqe]
  ·simp [leO,lt1,ren1,hqe]
  (simp;try omega)
 simp at hh;refine afB ?_;(repeat intro K hK);apply wr
 refine ccB (zEd) ?_;refine afB ?_;(repeat intro K hK);apply wr
 refine zAB ?_;simp
end Go.Proofs.YthjpcmecgjfilaaGreat
end
