/- A part of the proof of ReplicaFollows. -/
import Derived.Test.YthjpcmecgjfilaaGreatB10
import Derived.Test.YthjpcmecgjfilaaGreatB29
import Derived.Test.YthjpcmecgjfilaaGreatB30
import Derived.Test.YthjpcmecgjfilaaGreatB31
import Derived.Test.YthjpcmecgjfilaaGreatB37
import Derived.Test.YthjpcmecgjfilaaGreatB42
import Derived.Test.YthjpcmecgjfilaaGreatB47
set_option linter.unusedSimpArgs false
set_option linter.unusedVariables false
set_option maxHeartbeats 16000000
set_option maxRecDepth 100000
section
namespace Go.Proofs.YthjpcmecgjfilaaGreat
open Go.Ab Go.RowKit Tryz
theorem zN4 (r:RecD) (h1:r.m.mem.length<=100000) (h2:r.log.length<=100000) (h3:r.queue.length<=100000):zAD prog 72 [.st r.row] (.st (recC r.m r.clock (zBV r.log) (.new 72 3 (evs r.queue)))):=by
 refine sX func72 ntmps72 ?_;intros;apply wr
 (refine au ?_;intros;apply wr)
 repeat' ((first|(refine zAC rfl (fun h=>?_) (fun h=>?_)<;>(first|(simp at h;done)|(simp at h)|skip)<;>(first|(exfalso;omega)|skip))|refine cc (zCD (ints .u32 r.m.mem) false 1 (.inl rfl) (by rw [zAM];exact h1)) ?_|refine cc (zEe (ents r.log) false 4 (.inl rfl) (by rw [zAn];exact h2)) ?_|refine cc (zLy (evs r.queue) false 3 (.inl rfl) (by rw [zFQ];exact h3)) ?_|exact rt|fail)<;>(refine au ?_;intros;apply wr))
 refine zTD [2,3] ?_;simp;refine zAB ?_;simp
theorem zUc (e:EvD):evs [e]=[e.row]:=rfl
theorem zON (r:RecD) (e:EvD) (h1:r.m.mem.length<=100000) (h2:r.log.length<=100000) (h3:r.queue.length<=90000):zAD prog 29 [.st r.row,.st e.row] (.tup [.st (zCH r e).1.row,.bool (zCH r e).2]):=by
 have hc:=zN4 r h1 h2 (by omega)
 have hv:=zGE e;have hl:=zFQ r.queue;by_cases ha:evVal e=true/\e.kind≠1/\r.queue.length<16
 ·obtain ⟨a1,a2,a3⟩:=ha;have hE:zCH r e=({r with queue:=r.queue++[e]},true):=by unfold zCH;rw [if_pos ⟨a1,a2,a3⟩]
  rw [hE];rw [a1] at hv;have a4:¬ (16:Int)<=r.queue.length:=by omega
  refine sX func29 ntmps29 ?_;intros;apply wr;refine cX (hc) ?_;intros;apply wr;refine cY (hv) @hl ?_;intros;apply wr;refine gF11 (kX3 @a2 @a4 @hl) rfl (kX2 @hl @maxLen.eq_1) ?_;intros;apply wr;refine zAI ?_;refine zAB ?_;simp [zUa,zUc]
 have hE:zCH r e=(r,false):=by unfold zCH;rw [if_neg ha]
 rw [hE];have hct:(!evVal e||e.kind==1||decide ((16:Int)<=r.queue.length))=true:=by
  cases q1:evVal e with
  | false=>rfl
  | true =>
   by_cases q2:e.kind=1
   ·simp [q2]
   have q3:(16:Int)<=r.queue.length:=by
    by_cases z:r.queue.length<16
    ·exact absurd ⟨q1,q2,z⟩ ha
    omega
   simp [q3]
 refine sX func29 ntmps29 ?_;intros;apply wr;refine cX (hc) ?_;intros;apply wr;refine cY (hv) @hl ?_;intros;apply wr;refine gT10 (kX2 @hct @hl) rfl ?_;intros;apply wr;refine zAI ?_;refine zAB ?_;simp
theorem zRs (r:RepD) (e:EvD) (h:OkP r 40000):zAD prog 7 [.st r.row,.st e.row] (.tup [.st (zEP r e).1.row,.bool (zEP r e).2]):=by
 have hcl:=zDG r h;have hlv:=zIq r;have ha:=zON r.rec_ e (by have:=h.c.m.n;omega) (by have:=h.c.l;omega) (by have:=h.c.q;omega)
 cases hl:zGu r with
 | false =>
  have hE:zEP r e=(r,false):=by unfold zEP;rw [hl];simp
  rw [hl] at hlv;rw [hE];refine sZ func7 ntmps7 ?_;exact wx (qX2 (hcl) (hlv)) trivial
 | true =>
  rw [hl] at hlv;by_cases hk:e.kind=3\/e.kind=5\/e.kind=6
  ·have hE:zEP r e=({r with rec_:=(zCH r.rec_ e).1},(zCH r.rec_ e).2):=by unfold zEP;rw [if_pos ⟨hl,hk⟩]
   rw [hE];clear hE;generalize zCH r.rec_ e=A at *
   obtain ⟨k,n,dd⟩:=e;simp only at hk;rcases hk with rfl|rfl|rfl
   ·refine sZ func7 ntmps7 ?_;exact wx (qX3 (hcl) (hlv) (ha)) trivial
   ·refine sZ func7 ntmps7 ?_;exact wx (qX3 (hcl) (hlv) (ha)) trivial
   refine sZ func7 ntmps7 ?_;exact wx (qX3 (hcl) (hlv) (ha)) trivial
  have hE:zEP r e=(r,false):=by unfold zEP;rw [if_neg (fun z=>hk z.2)]
  rw [hE];have k1:¬ e.kind=3:=fun z=>hk (.inl z)
  have k2:¬ e.kind=5:=fun z=>hk (.inr (.inl z))
  have k3:¬ e.kind=6:=fun z=>hk (.inr (.inr z))
  refine sZ func7 ntmps7 ?_;exact wx1 (qX2 (hcl) (hlv)) trivial (kX3 @k1 @k2 @k3)
theorem zTh {m:MchD} (hM:OkM m) (hm:mayD m=true) {limit:Int} (hl:zHa limit=true):OkF (zC1 0 m 1 limit) 0:=by
 have hd:1<=limit/\limit<=20:=by simpa [zHa] using hl
 refine ⟨rfl,rfl,rfl,hM,hm,zAp,rfl,rfl,zTv,rfl,rfl,Int.le_refl _,by show (1:Int)<=1+((0:Nat):Int);omega,rfl,rfl,rfl,by simp [zC1,zEO],?_,by simp [zC1,zEO],rfl,⟨hd.1,hd.2,Int.le_refl _,by show (0:Int)<=limit;omega⟩,rfl,zCy hM⟩
 show ∀ e∈([]:List EntD),_
 simp
theorem zTE {m:MchD} (hM:OkM m) (hm:mayD m=true) {limit:Int} (hl:zHa limit=true):OkBk (zEL 1 m 1 limit) 1 m [] 0:=by
 have hd:1<=limit/\limit<=20:=by simpa [zHa] using hl
 refine ⟨rfl,rfl,rfl,rfl,rfl,rfl,⟨⟨hM,?_,zCy hM⟩,hm,rfl,rfl,?_,?_,rfl⟩,by simp [zEL,zEO],rfl,by simp [zEL,zEO],⟨hd.1,hd.2,Int.le_refl _,by show (0:Int)<=limit;omega⟩,rfl,zCy hM⟩
 ·show ∀ e∈([]:List EntD),_
  simp
 ·show ∀ e∈([]:List EntD),_
  simp
 show ∀ e∈([]:List EntD),_
 simp
theorem zU2 {r:RepD} (hq:r.rec_.queue=[]) {e:EvD} (he:OkV e):∃ q:List EvD,(zEP r e).1=zEY r q/\q.length<=1/\∀ x∈q,OkW1 x:=by
 have h0:r=zEY r []:=by
  obtain ⟨a,b,c,⟨m,k,g,q⟩,d⟩:=r;subst hq;rfl
 unfold zEP zCH;split
 ·split
  ·rename_i h;refine ⟨[e],by rw [hq];rfl,by simp,fun x hx=>by rw [List.mem_singleton.1 hx];exact ⟨he,h.1,h.2.1⟩⟩
  exact ⟨[],h0,by simp,by simp⟩
 exact ⟨[],h0,by simp,by simp⟩
theorem OkBk.beat {b:RepD} {base:Int} {m:MchD} {H:List EntD} {i:Nat} (h:OkBk b base m H i) (y:Int):OkBk {b with beats:=y} base m H i:=⟨h.role,h.r,h.oq,h.e,h.n,h.k,h.j,h.ll,h.h,h.g,h.wd,h.ws,h.mr⟩
theorem zSf {a b:RepD} {i:Nat} (hA:OkF a i) (hB:OkBk b a.out.base a.rec_.m a.hist i) (hbt:b.beats=i) (hi:i<=20) {q:List EvD} (hq:q.length<=1) (hv:∀ e∈q,OkW1 e) (steps:Int) {clock:Int} (hc:W32 clock) :
  ∃ a1 a2 L bs b3 b4 M sa,zAD prog 9 [.st (zEY a q).row,iv steps,uv clock] (.st (RepD.row a1))/\zAD prog 11 [.st a1.row] (.tup [.st (RepD.row a2),.sl 1 false (strs L)])/\L.length<=2/\bs 0=b/\Recv L bs /\
   zAD prog 9 [.st (bs L.length).row,iv 64,uv 0] (.st (RepD.row b3))/\zAD prog 11 [.st b3.row] (.tup [.st (RepD.row b4),.sl 1 false (strs M)])/\M.length=2/\sa 0=a2/\Recv M sa /\
   OkF (sa 2) (i+1)/\OkBk b4 (sa 2).out.base (sa 2).rec_.m (sa 2).hist (i+1)/\b4.beats=(i+1:Nat):=by
 obtain ⟨r,g,x,y,l,o,e1,hm,hmay,hrc,hl,hrq,hS,hR,hd,ho,hg,hk,-⟩:=hA.run (by omega) hq hv steps hc
 have hP:=hA.okP (q:=q) (by omega) (by omega) fun e he=>(hv e he).v
 have hga:=hA.g;have hrun:=zQO (zEY a q) steps clock (by unfold zGu;show (decide (a.role=1)||_)=true;rw [hA.role];rfl) hP hc (by show q.length<=400;omega) (by show a.gate.held.length<=_;omega) (by show L64 a.out.tail;rw [hA.ot];exact zCy hA.m)
 rw [e1] at hrun;obtain ⟨p1,p2,p3,p4⟩:=pkA hA (by omega) hm hrc hl hrq hS hg hk _ rfl
 obtain ⟨bs,s1,s2,s3⟩:=recvB hA hi hB (zCy hm) hS p3;obtain ⟨b3,t1,t2,t3,t4⟩:=runBk hB hi hA.h hR hS hm hd ho (nxF a.out r.m.count l) ((i:Int)+1) a.gate.acked hA.ga b.beats;have t5:=t4 rfl;obtain ⟨sa,v1,v2,v3,v4,v5⟩:=recvA hA hi hm hmay hrc hl hrq hS hg hk _ rfl p1 p2 p3;have hnx:1<=nxF a.out r.m.count l/\nxF a.out r.m.count l<=4611686018427387904:=by
  have h1:=hA.b1;have h2:=hA.b2;unfold nxF;split<;>omega
 have hpk:=zVf b3 t2 t5.role t5.e (by rw [t5.n];exact hnx) (by rw [t5.k];exact zCy hm) (by rw [t3,hbt];omega)
 rw [t5.n,t5.k,t3,hbt] at hpk;refine ⟨_,_,_,bs,b3,_,_,sa,hrun,p4,?_,s1,s2,by rw [s3];exact t1,hpk,rfl,v1,v2,v4,?_,by push_cast;rfl⟩
 ·show (pksL a.out.base (outF a.out r.m.count l).queue++_).length<=2
  unfold outF;split
  ·rw [hA.oq];simp [pksL]
  simp [pksL]
 have:=t5.beat ((i:Int)+1);rw [v3];show OkBk _ (ackF _).base r.m (a.hist++l) (i+1)
 rw [v5];exact this
theorem run3c:decide ((zDs (zEY (zC1 0 (mkD 2 [0]) 1 2) []) 3 0).rec_.m.count=3)=true:=by kernel_rfl
theorem run3l:(zDs (zEY (zC1 0 (mkD 2 [0]) 1 2) []) 3 0).hist.isEmpty=true:=by kernel_rfl
theorem zSr:∃ (M:MchD) (a b a1 a2 b1 b2:RepD) (p q:Str),zAD prog 6 [iv 2,.sl 1 false [[iv 0]],iv 2] (.tup [.st (wldR a b),.bool true])/\zGu a=true/\zGu b=false /\
  zAD prog 9 [.st a.row,iv 3,uv 0] (.st a1.row)/\zAD prog 11 [.st a1.row] (.tup [.st a2.row,.sl 1 false (strs [p,q])]) /\
  zAD prog 12 [.st b.row,.str p] (.tup [.st b1.row,.bool true])/\zAD prog 9 [.st b1.row,iv 3,uv 0] (.st b2.row) /\
  a2.role=1/\b2.role=2/\a2.rec_.m.mem.length<=100000/\b2.rpl.m=a2.rec_.m/\(segs a2.out.queue).length=1/\a2.rec_.m.count=3:=by
 obtain ⟨hM,hmay,hs⟩:=zTb 2 [0] (by decide)
 have hm:=zMQ 2 [0] (by decide)
 rw [show (2:Int) % 3=2 by decide] at hm
 have hst:=zIN 2 2 [0] (mkD 2 [0]) (by decide) hmay hs ⟨hM.gv.1,by have:=hM.gv.2;omega⟩ (by have:=hM.n;omega) hm
 have c3:=of_decide_eq_true run3c;have l3:=List.isEmpty_iff.1 run3l;have hc0:(mkD 2 [0]).count=0:=by kernel_rfl
 clear hs hm;generalize mkD 2 [0]=M at *
 have hA:=zTh hM hmay (limit:=2) (by decide)
 have hB:OkBk (zEL 1 M 1 2) (zC1 0 M 1 2).out.base (zC1 0 M 1 2).rec_.m (zC1 0 M 1 2).hist 0:=zTE hM hmay (limit:=2) (by decide)
 obtain ⟨r,g,x,y,l,o,e1,hm',hmay',hrc,hl,hrq,hS,hR,hd,ho,hg,hk,-⟩:=hA.run (by omega) (q:=[]) (by simp) (by simp) 3 (clock:=0) zAp
 rw [e1] at c3 l3;have c3:r.m.count=3:=c3;have l3:l=[]:=(List.append_eq_nil_iff.1 l3).2;subst l3;have hP:=hA.okP (q:=[]) (by omega) (by simp) (by simp)
 have hrun:=zQO (zEY (zC1 0 M 1 2) []) 3 0 rfl hP zAp (by simp) (by show ([]:List OutD).length<=_;simp) (by show L64 M.count;exact zCy hM)
 rw [e1] at hrun;obtain ⟨p1,p2,p3,p4⟩:=pkA hA (by omega) (x:=x) (y:=y) hm' hrc hl hrq hS hg hk _ rfl
 have eO:outF (zC1 0 M 1 2).out r.m.count []=⟨1,r.m.count,M.count,[⟨M.count,r.m.count,[]⟩]⟩:=by
  unfold outF;rw [if_neg (fun z=>by have h1:=z.2;have h2:(zC1 0 M 1 2).out.tail=M.count:=rfl;omega)]
  rfl
 rw [eO] at hrun;simp only [eO] at p3 p4;have hr:=recv1 hA (by omega) hB (zCy hm') hS (p3 _ (List.mem_singleton.2 rfl))
 have h3s:stp 3=3:=by decide
 obtain ⟨r1,r2,r3⟩:=hB.j.repl hR hS hm' 3 (by show r.m.count<=M.count+limS 3;rw [hc0,c3];decide)
 have hJ:OkJ {(zEL 1 M 1 2).rpl with log:=(zEL 1 M 1 2).rpl.log++[],known:=r.m.count}:=⟨hB.j.j.m,by show ∀ e∈([]:List EntD),_;simp,zCy hm'⟩
 have hrb:=zQN (zGk (zEL 1 M 1 2) ((zC1 0 M 1 2).out.base+1) r.m.count []) 3 0 (hB.feed (by omega) hA.h hS (zCy hm') _) rfl hJ (by show ([]:List EntD).length<=_;simp) (by show ∀ e∈([]:List EntD),_;simp) (by show ([]:List OutD).length<=_;simp)
  (by rw [h3s];exact zWg (Nat.le_of_eq (congrArg List.length r2)) (by omega))
 rw [h3s] at hrb;have hlog:(zCK {(zEL 1 M 1 2).rpl with log:=(zEL 1 M 1 2).rpl.log++[],known:=r.m.count} 3).1.log=[]:=List.length_eq_zero_iff.1 (Nat.le_zero.1 r3)
 have hma:=r1.a;rw [hlog] at hma;exact ⟨M,_,_,_,_,_,_,_,_,hst,rfl,rfl,hrun,p4,hr,hrb,rfl,rfl,by show r.m.mem.length<=_;have:=hm'.n;omega,hma,rfl,c3⟩
theorem zEd:zAD prog 5 [] (.bool true):=by
 obtain ⟨M,a,b,a1,a2,b1,b2,p,q,h1,h2,h3,h4,h5,h6,h7,h8,h9,h10,h11,h12,h13⟩:=zSr;have l1:=zIq a;have l2:=zIq b;rw [h2] at l1;rw [h3] at l2;have m1:=zTl a2 h8 h10;have m2:=zTm b2 h9 (by rw [h11];exact h10)
 have hsm:=zQU a2.rec_.m h10;rw [h11] at m2;have hpn:zAD prog 23 [iv 2,.st zMch.row,lv 1,iv 2] (.tup [.st zRep.row,.bool false]):=by
  have h:=zPw 2 zMch 1 2 (by decide) (by decide) (by decide)
  simp only [zVN,show zBL 2 zMch 1 2=false by kernel_rfl,if_false,zWa] at h
  exact h
 have hmd:zAD prog 16 [.st a2.rec_.m.row,.st a2.rec_.m.row] (.bool true):=hsm;refine sX func5 ntmps5 ?_;intros;apply wr;refine auB ?_;intros;apply wr;refine ccB (h1) ?_;refine auB ?_;intros;apply wr;refine ccB (l1) ?_;refine auB ?_;intros;apply wr;refine ccB (l2) ?_;refine auB ?_;intros;apply wr;refine cF0 rfl ?_;refine auB ?_;intros;apply wr;refine ccB (h4) ?_;refine auB ?_;intros;apply wr;refine ccB (h5) ?_;refine auB ?_;intros;apply wr;refine cF1 @strs.eq_1 rfl ?_;refine auB ?_;intros;apply wr;refine zBX (.node 5 9 (.leaf [0,1,2,3,4,5,6,7,8,9,10,11] (bN [0,1,0,4,12,31,63,127,127,63,767,2047]) [(5,([[],[0],[],[2],[2,3]],[])),(1,([],[])),(5,([[],[0],[0],[],[0,1,3]],[])),(1,([],[]))]) (.leaf [0,1,2,3,4,9,5,6,7,8,10,11] (bN [0,1,0,4,12,0,63,127,255,255,511,2047]) [(6,([[],[0],[],[2],[2,3],[]],[(1,5),(3,5),(4,5)])),(1,([],[])),(1,([],[])),(3,([[],[],[0]],[])),(1,([],[]))])) (by kernel_rfl) (by kernel_rfl) ?_
 simp only [PT.run]
 repeat' (with_reducible apply And.intro)
 all_goals (simp only [zB0,zWb,List.map_nil,zWV,zWk];refine afB1 @strs.eq_1 ?_;intros;apply wr)
 all_goals ((refine ccB (h6) ?_))
 all_goals ((refine afB ?_);intros;(apply wr))
 all_goals ((refine ccB (h7) ?_))
 all_goals ((refine afB ?_);intros;(apply wr))
 all_goals ((refine ccB (hpn) ?_))
 all_goals ((refine afB ?_);intros;(apply wr))
 ·refine zAG 26 [0,1,3,7,15,31,63,127,255,511,1023,2047,4095,8191,16383,8191,65535,131071,262143,524287,1048575,2097151,4194303,8388607,16777215,33554431] [(1,([],[])),(1,([],[])),(1,([],[])),(1,([],[])),(1,([],[])),(1,([],[])),(1,([],[])),(1,([],[])),(1,([],[])),(1,([],[])),(1,([],[])),(1,([],[])),(1,([],[])),(3,([[],[0],[]],[(2,1)])),(1,([],[])),(1,([],[])),(1,([],[])),(1,([],[])),(1,([],[])),(1,([],[])),(1,([],[])),(1,([],[])),(1,([],[])),(1,([],[]))] ?_;refine afB1 @h12 ?_;intros;apply wr;refine ccB (m1) ?_;refine afB ?_;intros;apply wr;refine ccB (m2) ?_;refine afB ?_;intros;apply wr;refine ccB (hmd) ?_;refine afB ?_;intros;apply wr;refine ccB (m1) ?_;refine afB ?_;intros;apply wr;refine zAB ?_;simp [h13]
 refine zAG 26 [0,1,3,7,15,31,63,127,255,511,1023,2047,4095,8191,16383,8191,65535,131071,262143,524287,1048575,2097151,4194303,8388607,16777215,33554431] [(1,([],[])),(1,([],[])),(1,([],[])),(1,([],[])),(1,([],[])),(1,([],[])),(1,([],[])),(1,([],[])),(1,([],[])),(1,([],[])),(1,([],[])),(1,([],[])),(1,([],[])),(3,([[],[0],[]],[(2,1)])),(1,([],[])),(1,([],[])),(1,([],[])),(1,([],[])),(1,([],[])),(1,([],[])),(1,([],[])),(1,([],[])),(1,([],[])),(1,([],[]))] ?_;refine afB1 @h12 ?_;intros;apply wr;refine ccB (m1) ?_;refine afB ?_;intros;apply wr;refine ccB (m2) ?_;refine afB ?_;intros;apply wr;refine ccB (hmd) ?_;refine afB ?_;intros;apply wr;refine ccB (m1) ?_;refine afB ?_;intros;apply wr;refine zAB ?_;simp [h13]
end Go.Proofs.YthjpcmecgjfilaaGreat
end
