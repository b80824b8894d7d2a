/- A part of the proof of ReplicaFollows. -/
import Derived.Test.YthjpcmecgjfilaaGreatB09
import Derived.Test.YthjpcmecgjfilaaGreatB10
import Derived.Test.YthjpcmecgjfilaaGreatB24
import Derived.Test.YthjpcmecgjfilaaGreatB27
import Derived.Test.YthjpcmecgjfilaaGreatB28
set_option linter.unusedSimpArgs false
set_option linter.unusedVariables false
set_option maxHeartbeats 16000000
set_option maxRecDepth 100000
section
namespace Go.Proofs.YthjpcmecgjfilaaGreat
open Go.Ab Go.RowKit Tryz
theorem due_ok (t:TimD) (k:Int):zAD prog 128 [.st t.row,uv k] (.bool (dueD t k)):=by
 refine sZ func128 ntmps128 ?_;exact wx1 trivial trivial @dueD.eq_1
abbrev recC (m:MchD) (c:Int) (lg q:V):List V:=m.row++[uv c,lg,q]
abbrev recO (m:MchD) (c:Int) (lg q:V):Ob:=⟨46,52,true,false,[recC m c lg q]⟩
abbrev logO (l:List EntD):Ob:=⟨84,4,false,false,ents l⟩
theorem zN3 (r:RecD) (h1:r.m.mem.length<=100000) (h2:r.log.length<=100000) (h3:r.queue.length<=100000):zAD prog 72 [.st r.row] (.st (recC r.m r.clock (.new 84 4 (ents r.log)) (.sl 3 false (evs r.queue)))):=by
 refine sX func72 ntmps72 ?_;intros;apply wr
 (refine au ?_;intros;apply wr)
 repeat' ((first|(refine zAC rfl (fun h=>?_) (fun h=>?_)<;>(first|(simp at h;done)|(simp at h)|skip)<;>(first|(exfalso;omega)|skip))|refine cc (zCD (ints .u32 r.m.mem) false 1 (.inl rfl) (by rw [zAM];exact h1)) ?_|refine cc (zEe (ents r.log) false 4 (.inl rfl) (by rw [zAn];exact h2)) ?_|refine cc (zLy (evs r.queue) false 3 (.inl rfl) (by rw [zFQ];exact h3)) ?_|exact rt|fail)<;>(refine au ?_;intros;apply wr))
 refine zTD [2,4] ?_;simp;refine zAB ?_;simp
def LPost (nx:Nat) (ob:List (Nat × Option Ob)) (id j:Nat) (m:MchD) (c:Int) (l:List EntD) (q:V) (nx':Nat) (ob':List (Nat × Option Ob)):Prop :=
 ∃ k,(k=j\/nx<=k)/\k<nx'/\nx<=nx'/\lookO ob' k=some (logO l)/\lookO ob' id=some (recO m c (.own k) q)/\∀ i,i<nx->i≠id->i≠j->lookO ob' i=lookO ob i
theorem zFJ {nx:Nat} {ob:List (Nat × Option Ob)} (id j:Nat) (m:MchD) (c:Int) (l:List EntD) (q:V) (e:EvD) (hob:lookO ob id=some (recO m c (.own j) q)) (hj:lookO ob j=some (logO l)) (hi:id<nx) (hjn:j<nx) (hne:id≠j) (hl:l.length<=90000) :
  InlC prog 125 [.st e.row,.ptr id 52 0 0] nx ob fun r nx' ob'=>r=.tup []/\LPost nx ob id j m c (l++[⟨m.count,e⟩]) q nx' ob':=by
 have hll:=zAn l;have n1:¬ j=id:=fun e=>hne e.symm
 have n2:¬ id=nx:=by omega
 have n3:¬ j=nx:=by omega
 have n4:¬ nx=id:=by omega
 have n5:¬ nx=j:=by omega
 have p1:¬ id=nx+1:=by omega
 have p2:¬ nx+1=id:=by omega
 have p3:¬ j=nx+1:=by omega
 have p4:¬ nx+1=j:=by omega
 have q1:¬ id=nx+1+1:=by omega
 have q2:¬ nx+1+1=id:=by omega
 have q3:¬ j=nx+1+1:=by omega
 refine InlC.of func125 rfl (by kernel_rfl) rfl ?_
 simp only [ntmps125,St.startI,argT];refine au1 (kX15 @hob @hj @hne @n1 @n2 @n3 @p1 @p2 @p3 @p4 @q1 @q2 @q3 @hll @maxLen.eq_1) ?_;intros;apply wr;exact ⟨nx+1+1,.inr (by omega),by omega,by omega,by simp [lookO,q2,logO,zIa,zL6],by simp [lookO],fun i h1 h2 h3=>by
  have r1:¬ i=nx:=by omega
  have r2:¬ i=nx+1:=by omega
  have r3:¬ i=nx+1+1:=by omega
  simp [lookO,h2,h3,r1,r2,r3]⟩
theorem zFH {nx:Nat} {ob:List (Nat × Option Ob)} (id j b:Nat) (m:MchD) (c:Int) (l:List EntD) (q:V) (e:EvD) (hM:OkM m) (he:OkV e) (hob:lookO ob id=some (recO m c (.own j) q)) (hj:lookO ob j=some (logO l))
  (hb:lookO ob b=some ⟨231,1,true,false,[[.cap 125 [] [some (id,52)]]]⟩) (hi:id<nx) (hjn:j<nx) (hbn:b<nx) (hne:id≠j) (hnb:id≠b) (hjb:j≠b) (hl:l.length<=90000) :
  InlC prog 126 [.st e.row,.ptr id 52 0 0,.ptr b 1 0 0] nx ob fun r nx' ob'=>r=.tup []/\LPost nx ob id j (zAV ⟨m,c,l,[]⟩ e).m c (zAV ⟨m,c,l,[]⟩ e).log q nx' ob':=by
 have hA:=zLr m e hM he.n he.d;have n1:¬ j=id:=fun e=>hne e.symm
 have n2:¬ id=nx:=by omega
 have n3:¬ j=nx:=by omega
 have n4:¬ b=nx:=by omega
 have n5:¬ b=id:=fun e=>hnb e.symm
 have n6:¬ nx=id:=by omega
 have hct:=(zCx hM he.n).2;have n7:¬ id=nx+1+50:=by omega
 have n8:¬ b=nx+1+50:=by omega
 have n9:¬ j=nx+1+50:=by omega
 have na:¬ nx=nx+1+50:=by omega
 unfold zAV;simp only;generalize applyD m e=R at *
 obtain ⟨m',ok⟩:=R;simp only at *
 cases ok with
 | false =>
  simp only [zWa,if_false];refine InlC.of func126 rfl (by kernel_rfl) rfl ?_
  simp only [ntmps126,St.startI,argT];refine au1 (kX4 @hob @hb @n2 @n4) ?_;intros;apply wr;refine cZ (hA) (kX4 @hob @hb @n2 @n4) (kX4 @hob @hb @n2 @n4) ?_;intros;apply wr;refine gF00 rfl ?_;intros;apply wr;exact ⟨j,.inl rfl,by omega,by omega,by simp [lookO,n3,n9,hj],by simp [lookO,n2,n7,hob],fun i h1 h2 h3=>by
   have r1:¬ i=nx:=by omega
   have r2:¬ i=nx+1+50:=by omega
   simp [lookO,r1,r2]⟩
 | true =>
  simp only [if_true];refine InlC.of func126 rfl (by kernel_rfl) rfl ?_
  simp only [ntmps126,St.startI,argT];refine au1 (kX4 @hob @hb @n2 @n4) ?_;intros;apply wr;refine cZ (hA) (kX4 @hob @hb @n2 @n4) (kX4 @hob @hb @n2 @n4) ?_;intros;apply wr;refine gT01 rfl (kX9 @hob @hb @n2 @n4 @n5 @n7 @n8 @na @n6) ?_;intros;apply wr
  first|refine .inr ((zFJ id j m' c l q e (by simp [lookO]) (by simp [lookO,n1,n3,n9,hj]) (by omega) (by omega) hne hl).mono fun r nx' ob' hp=>?_)|refine (zFJ id j m' c l q e (by simp [lookO]) (by simp [lookO,n1,n3,n9,hj]) (by omega) (by omega) hne hl).mono fun r nx' ob' hp=>?_|refine ((zFJ id j m' c l q e (by simp [lookO]) (by simp [lookO,n1,n3,n9,hj]) (by omega) (by omega) hne hl).mono fun r nx' ob' hp=>?_).2
  simp only [aftI];obtain ⟨rfl,k,g0,g1,g2,g3,g4,g5⟩:=hp;simp;rw [hct] at g3;refine ⟨k,by omega,g1,by omega,g3,g4,fun i h1 h2 h3=>?_⟩
  have r1:¬ i=nx:=by omega
  have r2:¬ i=nx+1+50:=by omega
  rw [g5 i (by omega) h2 h3]
  simp [lookO,h2,r1,r2]
abbrev zMR:List V:=[uv 0,uv 0,uv 0,uv 0,uv 0,uv 0,uv 0,uv 0,uv 0,uv 0,uv 0,uv 0,uv 0,uv 0,uv 0,uv 0,uv 0,uv 0,uv 0,uv 0,uv 0,uv 0,uv 0,uv 0,uv 0,.sl 0 true [],.str [],.bool false,uv 0,.bool false,uv 0,uv 0,uv 0,iv 0,iv 0,uv 0,uv 0,.str [],uv 0,uv 0,.bool false,uv 0,.bool false,uv 0,uv 0,uv 0,lv 0,.bool false,.bool false]
theorem zLL (m:MchD) (c:Int) (l:List EntD) (q:List EvD) (e:EvD):zAV ⟨m,c,l,q⟩ e=⟨(zAV ⟨m,c,l,[]⟩ e).m,c,(zAV ⟨m,c,l,[]⟩ e).log,q⟩:=by
 unfold zAV;simp only;split<;>rfl
abbrev advB (m:MchD) (c:Int) (l:List EntD) (q:V):List (Nat × Option Ob):=[(0,some (recO m c (.own 52) q)),(55,some ⟨231,1,true,false,[[.cap 125 [] [some (0,52)]]]⟩),(52,some (logO l)),(1,some ⟨46,52,true,false,[zMR++[uv 0,.sl 0 true [],.sl 0 true []]]⟩)]
theorem adv_ok (r:RecD) (steps clock:Int) (k:Nat) (hR:OkR r k) (hk:k<=1000) (hc:W32 clock):zAD prog 75 [.st r.row,iv steps,uv clock] (.tup [.st (advD r steps clock).1.row,.sl 4 false (outs (advD r steps clock).2)]):=by
 have hmem:=hR.m.n;have hll:=hR.l;have hql:=hR.q;have hcop:=zN3 r (by omega) (by omega) (by omega)
 have hmay:=zIC r.m hR.m.gv.1 (by have:=hR.m.gv.2;omega)
 cases hM:mayD r.m with
 | false =>
  have hE:advD r steps clock=(r,[]):=by unfold advD;rw [hM];rfl
  rw [hM] at hmay;rw [hE];refine sX func75 ntmps75 ?_;(repeat intro K hK);apply wr
  refine cX (hcop) ?_;(repeat intro K hK);apply wr
  refine cX (hmay) ?_;(repeat intro K hK);apply wr
  refine gT00 rfl ?_;(repeat intro K hK);apply wr
  refine zAI ?_;refine zAB ?_;simp
 | true =>
  rw [hM] at hmay;refine sX func75 ntmps75 ?_;(repeat intro K hK);apply wr
  refine cX (hcop) ?_;(repeat intro K hK);apply wr
  refine cX (hmay) ?_;(repeat intro K hK);apply wr
  refine gF01 rfl @zFQ ?_;(repeat intro K hK);apply wr
  obtain ⟨C,hC⟩:∃ C,C=max r.clock clock:=⟨_,rfl⟩;have hCi:(if r.clock<clock then clock else r.clock)=C:=by rw [hC];split<;>omega
  have hr0:OkR {r with clock:=C} k:=⟨hR.m,by rw [hC];exact zNm hR.c hc,hR.l,hR.q,hR.v,hR.t⟩
  obtain ⟨I,hI⟩:∃ I:Nat->St->Prop,I=(fun kk ss=>∃ (i:Nat) (m:MchD) (l:List EntD),i<=r.queue.length/\kk=r.queue.length-i/\((r.queue.take i).foldl zAV {r with clock:=C}=⟨m,C,l,r.queue⟩/\OkR ⟨m,C,l,r.queue⟩ (k+i))/\ss=⟨95,[(31,.int .i64 i),(30,.int .i64 r.queue.length),(29,.sl 3 false (evs r.queue)),(9,.cap 126 [] [some (0,52),some (55,1)]),(3,.ptr 0 52 0 0),(1,iv steps),(8,.ptr 55 1 0 0),(6,.ptr 1 52 0 0)],56,advB m C l (.sl 3 false (evs r.queue)),0⟩):=⟨_,rfl⟩
  refine lX1 I (id) (by rw [hI];exact ⟨0,r.m,r.log,by simp,rfl,⟨rfl,hr0⟩,rfl⟩) @hCi ?_
  intro kk ss hIk _
  rw [hI] at hIk;obtain ⟨i,m,l,hi,rfl,hx,rfl⟩:=hIk;obtain ⟨hx1,hx2⟩:=hx;refine au ?_;(repeat intro K hK);apply wr
  refine zAC rfl (fun hh=>?_) (fun hh=>?_)
  ·simp at hh;obtain ⟨e,he,-,ht,hmem⟩:=get_at hh;have hget:=zUb he;have heV:=hR.v e hmem;have hll2:=hx2.l;simp only at hll2;refine au1 @hget ?_;(repeat intro K hK);apply wr
   first|refine .inr ((zFH 0 52 55 m C l (.sl 3 false (evs r.queue)) e hx2.m heV (by simp [lookO]) (by simp [lookO]) (by simp [lookO]) (by decide) (by decide) (by decide) (by decide) (by decide) (by decide) (by omega)).mono fun r nx' ob' hp=>?_)|refine (zFH 0 52 55 m C l (.sl 3 false (evs r.queue)) e hx2.m heV (by simp [lookO]) (by simp [lookO]) (by simp [lookO]) (by decide) (by decide) (by decide) (by decide) (by decide) (by decide) (by omega)).mono fun r nx' ob' hp=>?_|refine ((zFH 0 52 55 m C l (.sl 3 false (evs r.queue)) e hx2.m heV (by simp [lookO]) (by simp [lookO]) (by simp [lookO]) (by decide) (by decide) (by decide) (by decide) (by decide) (by decide) (by omega)).mono fun r nx' ob' hp=>?_).2
   simp only [aftI];obtain ⟨rfl,j,g0,g1,g2,g3,g4,g5⟩:=hp;have f55:=g5 55 (by decide) (by decide) (by decide)
   have f1:=g5 1 (by decide) (by decide) (by decide)
   simp [lookO] at f55 f1;obtain ⟨h1,-,-,-⟩:=hx2.offer heV;rw [zLL] at h1;have hst:(r.queue.take (i+1)).foldl zAV {r with clock:=C}=⟨(zAV ⟨m,C,l,[]⟩ e).m,C,(zAV ⟨m,C,l,[]⟩ e).log,r.queue⟩:=by rw [ht,List.foldl_append,hx1];exact zLL _ _ _ _ _
   generalize (zAV ⟨m,C,l,[]⟩ e).m=m' at *
   generalize (zAV ⟨m,C,l,[]⟩ e).log=l' at *
   simp;refine au ?_;(repeat intro K hK);apply wr
   exact aX (fun x=>if x=52 then j else x) (by rw [hI];exact ⟨i+1,m',l',by omega,rfl,⟨hst,h1⟩,rfl⟩) (kX5 (zAA (n:=(i:Int)+1) (by omega) (by omega)) @g3 @g4 @f55 @f1)
  simp at hh;rw [zGW hh] at hx1;have hQ:zBc r clock=⟨m,C,l,[]⟩:=by unfold zBc;rw [<- hC,hx1]
  have hQ2:OkR ⟨m,C,l,[]⟩ 2000:=⟨hx2.m,hx2.c,by have:=hx2.l;simp only at this ⊢;omega,by simp,by simp,hx2.t⟩
  clear hx1 hx2 hr0;refine au ?_;(repeat intro K hK);apply wr
  refine zAT 12 90 4 (by decide) rfl ?_
  have hlim:(if 4000<if steps<0 then 0 else steps then 4000 else if steps<0 then 0 else steps)=(limS steps:Int):=by unfold limS;(repeat' split)<;>omega
  have hl4:=zLG steps;obtain ⟨Iu,hIu⟩:∃ I:Nat->St->Prop,I=(fun kk ss=>∃ (u:Nat) (m':MchD) (c:Int) (l':List EntD) (o:List OutD),u<=limS steps/\kk=limS steps-u/\(runR (limS steps) ⟨m,C,l,[]⟩ []=runR (limS steps-u) ⟨m',c,l',[]⟩ o/\OkR ⟨m',c,l',[]⟩ (2000+2*u)/\o.length<=u)/\ss=⟨95,[(43,.int .i64 u),(42,.int .i64 (limS steps)),(12,.own 56),(9,.cap 126 [] [some (0,52),some (55,1)]),(3,.ptr 0 52 0 0),(8,.ptr 55 1 0 0),(6,.ptr 1 52 0 0)],57,(56,some ⟨90,4,false,false,outs o⟩)::advB m' c l' (.sl 0 true []),0⟩):=⟨_,rfl⟩
  refine lX1 Iu (id) (by rw [hIu];exact ⟨0,m,C,l,[],by simp,rfl,⟨rfl,hQ2,by simp⟩,rfl⟩) @hlim ?_
  intro kk ss hIk _
  rw [hIu] at hIk;obtain ⟨u,m',c,l',o,hu,rfl,hxu,rfl⟩:=hIk;obtain ⟨hx1,hx2,hx3⟩:=hxu;have hl2:=hx2.l;simp only at hl2;refine au ?_;(repeat intro K hK);apply wr
  refine zAC rfl (fun hh2=>?_) (fun hh2=>?_)
  ·simp at hh2;have hrun:runR (limS steps-u) ⟨m',c,l',[]⟩ o=if zDT (zAu ⟨m',c,l',[]⟩).m=true then (zAu ⟨m',c,l',[]⟩,o) else runR (limS steps-(u+1)) (goR (zAu ⟨m',c,l',[]⟩)).1 (o++(goR (zAu ⟨m',c,l',[]⟩)).2):=by
    rw [show limS steps-u=(limS steps-(u+1))+1 by omega];rfl
   rw [hrun] at hx1;obtain ⟨hT,-,-,-⟩:=hx2.tick;refine au ?_;(repeat intro K hK);apply wr
   refine cX (due_ok m'.tim c) ?_;(repeat intro K hK);apply wr
   clear hK;clear K;rename_i K hK;refine zBe (α:=MchD × List EntD) (fun ⟨m2,l2⟩=>(⟨95,[(43,.int .i64 u),(42,.int .i64 (limS steps)),(12,.own 56),(9,.cap 126 [] [some (0,52),some (55,1)]),(3,.ptr 0 52 0 0),(8,.ptr 55 1 0 0),(6,.ptr 1 52 0 0)],57,(56,some ⟨90,4,false,false,outs o⟩)::advB m2 c l2 (.sl 0 true []),0⟩:St)) (fun ⟨m2,l2⟩=>zAu ⟨m',c,l',[]⟩=⟨m2,c,l2,[]⟩) hK (fun ⟨m2,l2⟩ hxhJ=>?_) (fun hJ=>?_)
   all_goals clear hK
   ·rw [hxhJ] at hx1 hT;have hT2:=hT.m;simp only at hT2 hx1;have hl3:=hT.l;simp only at hl3;refine au ?_;(repeat intro K hK);apply wr
    refine cX (zLA m2 hT2) ?_;(repeat intro K hK);apply wr
    refine zAC rfl (fun hs=>?_) (fun hs=>?_)
    ·have hS:zDT m2=true:=by unfold zDT;simpa using hs
     rw [if_pos hS] at hx1;have hE:advD r steps clock=(⟨m2,c,l2,[]⟩,o):=by unfold advD;rw [if_pos hM,hQ];exact hx1
     refine au ?_;(repeat intro K hK);apply wr
     refine zAI ?_;refine zAB ?_;simp [hE]
    have hS:¬ zDT m2=true:=by unfold zDT;simpa using hs
    rw [if_neg hS] at hx1;refine au ?_;(repeat intro K hK);apply wr
    refine cX (zMn m2 hT2) ?_;(repeat intro K hK);apply wr
    clear hK;clear K;rename_i K hK;refine zBe (α:=List EntD) (fun l3=>(⟨95,[(43,.int .i64 u),(42,.int .i64 (limS steps)),(12,.own 56),(9,.cap 126 [] [some (0,52),some (55,1)]),(3,.ptr 0 52 0 0),(8,.ptr 55 1 0 0),(6,.ptr 1 52 0 0)],57,(56,some ⟨90,4,false,false,outs o⟩)::advB m2 c l3 (.sl 0 true []),0⟩:St)) (fun l3=>clkR ⟨m2,c,l2,[]⟩=⟨m2,c,l3,[]⟩) hK (fun l3 hxhG=>?_) (fun hG=>?_)
    all_goals clear hK
    ·obtain ⟨hK2,-,-,-⟩:=hT.clk;rw [hxhG] at hK2;have hgo:goR ⟨m2,c,l2,[]⟩=(⟨(stepD m2 c).1,uw (c+1),l3,[]⟩,(stepD m2 c).2):=by unfold goR;rw [hxhG]
     have hG2:=hT.go;rw [hgo] at hx1 hG2;have hso:=zDu m2 c;have hlo:=zBF o;refine au ?_;(repeat intro K hK);apply wr
     refine cc (step_ok m2 c hT2) ?_;generalize stepD m2 c=S at *
     have hlS:=zBF S.2;refine au1 (kX3 @hlo @hlS @maxLen.eq_1) ?_;(repeat intro K hK);apply wr
     simp only at hx1;exact aX (fun x=>if x=56 then 107 else x) (by rw [hIu];exact ⟨u+1,S.1,(uw (c+1)),l3,(o++S.2),by omega,rfl,⟨hx1,hG2.up (by omega),by rw [zWL];omega⟩,rfl⟩) (kX2 (zAA (n:=(u:Int)+1) (by omega) (by omega)) @zGN)
    refine zAC rfl (fun hr=>?_) (fun hr=>?_)
    ·have hcl:clkR ⟨m2,c,l2,[]⟩=⟨m2,c,l2++[⟨m2.count,⟨1,c,[]⟩⟩],[]⟩:=by unfold clkR;rw [if_pos hr]
     refine au ?_;(repeat intro K hK);apply wr
     first|refine .inr ((zFJ 0 52 m2 c l2 (.sl 0 true []) ⟨1,c,[]⟩ (by simp [lookO]) (by simp [lookO]) (by decide) (by decide) (by decide) (by omega)).mono fun r nx' ob' hp=>?_)|refine (zFJ 0 52 m2 c l2 (.sl 0 true []) ⟨1,c,[]⟩ (by simp [lookO]) (by simp [lookO]) (by decide) (by decide) (by decide) (by omega)).mono fun r nx' ob' hp=>?_|refine ((zFJ 0 52 m2 c l2 (.sl 0 true []) ⟨1,c,[]⟩ (by simp [lookO]) (by simp [lookO]) (by decide) (by decide) (by decide) (by omega)).mono fun r nx' ob' hp=>?_).2
     simp only [aftI];obtain ⟨rfl,j,g0,g1,g2,g3,g4,g5⟩:=hp;have f55:=g5 55 (by decide) (by decide) (by decide)
     have f1:=g5 1 (by decide) (by decide) (by decide)
     have f56:=g5 56 (by decide) (by decide) (by decide)
     simp [lookO] at f55 f1 f56;generalize l2++[⟨m2.count,⟨1,c,[]⟩⟩]=l3 at *
     simp;refine au ?_;(repeat intro K hK);apply wr
     refine hG l3 _ (fun x=>if x=52 then j else x) (hcl) ⟨rfl,?_,?_,?_,by simp⟩
     ·simp [leT,ltV,lt1,ren,ren1,g3,g4,f55,f1,f56]
     ·simp [leO,lt1,ren1,g3,g4,f55,f1,f56]
     (simp;try omega)
    have hcl:clkR ⟨m2,c,l2,[]⟩=⟨m2,c,l2,[]⟩:=by unfold clkR;rw [if_neg (by simp [hr])]
    refine au ?_;(repeat intro K hK);apply wr
    refine hG l2 _ (id) (hcl) ⟨rfl,?_,?_,?_,by simp⟩
    ·simp [leT,ltV,lt1,ren,ren1]
    ·simp [leO,lt1,ren1]
    (simp;try omega)
   refine zAC rfl (fun hd=>?_) (fun hd=>?_)
   ·have hTd:zAu ⟨m',c,l',[]⟩=⟨(zAV ⟨m',c,l',[]⟩ ⟨2,0,[]⟩).m,c,(zAV ⟨m',c,l',[]⟩ ⟨2,0,[]⟩).log,[]⟩:=by unfold zAu;rw [if_pos hd];exact zLL _ _ _ _ _
    refine au ?_;(repeat intro K hK);apply wr
    first|refine .inr ((zFH 0 52 55 m' c l' (.sl 0 true []) ⟨2,0,[]⟩ hx2.m timV (by simp [lookO]) (by simp [lookO]) (by simp [lookO]) (by decide) (by decide) (by decide) (by decide) (by decide) (by decide) (by omega)).mono fun r nx' ob' hp=>?_)|refine (zFH 0 52 55 m' c l' (.sl 0 true []) ⟨2,0,[]⟩ hx2.m timV (by simp [lookO]) (by simp [lookO]) (by simp [lookO]) (by decide) (by decide) (by decide) (by decide) (by decide) (by decide) (by omega)).mono fun r nx' ob' hp=>?_|refine ((zFH 0 52 55 m' c l' (.sl 0 true []) ⟨2,0,[]⟩ hx2.m timV (by simp [lookO]) (by simp [lookO]) (by simp [lookO]) (by decide) (by decide) (by decide) (by decide) (by decide) (by decide) (by omega)).mono fun r nx' ob' hp=>?_).2
    simp only [aftI];obtain ⟨rfl,j,g0,g1,g2,g3,g4,g5⟩:=hp;have f55:=g5 55 (by decide) (by decide) (by decide)
    have f1:=g5 1 (by decide) (by decide) (by decide)
    have f56:=g5 56 (by decide) (by decide) (by decide)
    simp [lookO] at f55 f1 f56;simp;generalize (zAV ⟨m',c,l',[]⟩ ⟨2,0,[]⟩).m=m3 at *
    generalize (zAV ⟨m',c,l',[]⟩ ⟨2,0,[]⟩).log=l3 at *
    refine au ?_;(repeat intro K hK);apply wr
    refine hJ ⟨m3,l3⟩ _ (fun x=>if x=52 then j else x) (hTd) ⟨rfl,?_,?_,?_,by simp⟩
    ·simp [leT,ltV,lt1,ren,ren1,g3,g4,f55,f1,f56]
    ·simp [leO,lt1,ren1,g3,g4,f55,f1,f56]
    (simp;try omega)
   have hTd:zAu ⟨m',c,l',[]⟩=⟨m',c,l',[]⟩:=by unfold zAu;rw [if_neg (by simp [hd])]
   refine au ?_;(repeat intro K hK);apply wr
   refine hJ ⟨m',l'⟩ _ (id) (hTd) ⟨rfl,?_,?_,?_,by simp⟩
   ·simp [leT,ltV,lt1,ren,ren1]
   ·simp [leO,lt1,ren1]
   (simp;try omega)
  simp at hh2;have hE:advD r steps clock=(⟨m',c,l',[]⟩,o):=by unfold advD;rw [if_pos hM,hQ,hx1,show limS steps-u=0 by omega];rfl
  refine au ?_;(repeat intro K hK);apply wr
  refine zAI ?_;refine zAB ?_;simp [hE]
theorem cut_ok (r:RecD) (h1:r.m.mem.length<=100000) (h2:r.log.length<=100000) (h3:r.queue.length<=100000):zAD prog 77 [.st r.row] (.tup [.st (cutD r).row,zBV r.log,lv r.m.count]):=by
 refine sZ func77 ntmps77 ?_
 (refine af1 @cutD.eq_1 ?_;intros;apply wr)
 repeat' ((first|(refine zAC rfl (fun h=>?_) (fun h=>?_)<;>(first|(simp [cutD] at h;done)|(simp [cutD] at h)|skip)<;>(first|(exfalso;omega)|skip))|refine cc1 (zKS r h1 h2 h3) @cutD.eq_1 ?_|(refine zAG 8 [0,0,0,4,12,1,35,127] [(7,([[],[],[],[2],[2,3],[0],[0,1,5]],[(4,5)])),(1,([],[]))] ?_)|exact rt1 @cutD.eq_1|fail)<;>(refine af1 @cutD.eq_1 ?_;intros;apply wr))
theorem zVO (s:SndD) (g:SegD) (hs:∀ g∈s.queue,OkG g) (hg:OkG g) (hn:s.queue.length<=1000):zAD prog 79 [.st s.row,.st g.row] (.tup [.st (zCT s g).1.row,iv (zCT s g).2]):=by
 have hc:=zD1 s (fun g h=>by have:=(hs g h).n;omega) hn
 have hse:=zEJ s hs;have hE:=zGh g hg;have hcg:=zJg g (by have:=hg.n;omega)
 have hl:=zCX s.queue;by_cases h1:g.from_≠s.tail\/zBR s=false
 ·have hR:zCT s g=(s,2400):=by unfold zCT;rw [if_pos h1]
  have h1b:(g.from_ != s.tail||!zBR s)=true:=by rcases h1 with q|q<;>simp [q]
  rw [hR];refine sX func79 ntmps79 ?_;intros;apply wr;refine cX (hc) ?_;intros;apply wr;refine cX (hse) ?_;intros;apply wr;refine gT10 @h1b rfl ?_;intros;apply wr;refine zAI ?_;refine zAB ?_;simp
 have h2:g.from_=s.tail:=by simpa using fun z=>h1 (.inl z)
 have h3:zBR s=true:=by simpa using fun z=>h1 (.inr z)
 rw [h3] at hse;refine sX func79 ntmps79 ?_;intros;apply wr;refine cX (hc) ?_;intros;apply wr;refine cX (hse) ?_;intros;apply wr;refine cF1 @h2 rfl ?_;by_cases h4:(zAZ g).2≠0
 ·have hR:zCT s g=(s,(zAZ g).2):=by unfold zCT;rw [if_neg h1,if_pos h4]
  rw [hR]
  (refine af1 @h4 ?_;intros;apply wr)
  repeat' ((first|(refine zAC rfl (fun h=>?_) (fun h=>?_)<;>(first|(simp [h4] at h;done)|(simp [h4] at h)|skip)<;>(first|(exfalso;omega)|skip))|refine cc1 (hE) @h4 ?_|(refine zAG 8 [0,1,0,4,12,31,63,127] [(5,([[],[0],[],[2],[2,3]],[(1,3),(1,4)])),(1,([],[])),(1,([],[])),(1,([],[]))] ?_)|exact rt1 @h4|fail)<;>(refine af1 @h4 ?_;intros;apply wr))
 have h4':(zAZ g).2=0:=by simpa using h4
 rw [h4'] at hE;by_cases h5:8<=s.queue.length
 ·have hR:zCT s g=(s,2401):=by unfold zCT;rw [if_neg h1,if_neg h4,if_pos h5]
  rw [hR];have h6:(8:Int)<=s.queue.length:=by omega
  (refine af1 (kX2 @h6 @hl) ?_;intros;apply wr)
  repeat' ((first|(refine zAC rfl (fun h=>?_) (fun h=>?_)<;>(first|(simp [h6,hl] at h;done)|(simp [h6,hl] at h)|skip)<;>(first|(exfalso;omega)|skip))|refine cc1 (hE) (kX2 @h6 @hl) ?_|(refine zAG 8 [0,1,0,4,12,31,63,127] [(5,([[],[0],[],[2],[2,3]],[(1,3),(1,4)])),(1,([],[])),(1,([],[])),(1,([],[]))] ?_)|exact rt1 (kX2 @h6 @hl)|fail)<;>(refine af1 (kX2 @h6 @hl) ?_;intros;apply wr))
 have hR:zCT s g=({s with queue:=s.queue++[g],tail:=g.known},0):=by unfold zCT;rw [if_neg h1,if_neg h4,if_neg h5]
 rw [hR];have h6:¬ (8:Int)<=s.queue.length:=by omega
 (refine af1 (kX5 @h6 @hl @zCW @zAs @maxLen.eq_1) ?_;intros;apply wr)
 repeat' ((first|(refine zAC rfl (fun h=>?_) (fun h=>?_)<;>(first|(simp [h6,hl,zCW,zAs,maxLen] at h;done)|(simp [h6,hl,zCW,zAs,maxLen] at h)|skip)<;>(first|(exfalso;omega)|skip))|refine cc1 (hE) (kX5 @h6 @hl @zCW @zAs @maxLen.eq_1) ?_|refine cc1 (hcg) (kX5 @h6 @hl @zCW @zAs @maxLen.eq_1) ?_|(refine zAG 8 [0,1,0,4,12,31,63,127] [(5,([[],[0],[],[2],[2,3]],[(1,3),(1,4)])),(1,([],[])),(1,([],[])),(1,([],[]))] ?_)|exact rt1 (kX5 @h6 @hl @zCW @zAs @maxLen.eq_1)|fail)<;>(refine af1 (kX5 @h6 @hl @zCW @zAs @maxLen.eq_1) ?_;intros;apply wr))
 refine zAI ?_;refine zAB ?_;simp [hR,zCW,zAs]
theorem zIq (r:RepD):zAD prog 22 [.st r.row] (.bool (zGu r)):=by
 refine sZ func22 ntmps22 ?_;exact wx1 trivial trivial @zGu.eq_1
theorem zUJ (r:RepD):zAD prog 45 [.st r.row] (.bool (zIU r)):=by
 refine sZ func45 ntmps45 ?_;exact wx1 (qX1 (zIq r)) trivial @zIU.eq_1
theorem zGA (m:MchD) (h1:m.mem.length<=100000):zAD prog 39 [.st m.row] (.st m.row):=by
 refine sZ func39 ntmps39 ?_;exact wx (qX1 (zCD (ints .u32 m.mem) false 1 (.inl rfl) (by rw [zAM];exact h1))) trivial
theorem zLz (g:SegD) (h:g.ents.length<=100000):zAD prog 70 [.st g.row] (.st g.row):=by
 refine sZ func70 ntmps70 ?_;exact wx (qX1 (zEe (ents g.ents) false 4 (.inl rfl) (by rw [zAn];exact h))) trivial
theorem zMy {α:Type} {L:List α} {i:Nat} {x:α} (h:L[i]? =some x):L.set i x=L:=by
 apply List.ext_getElem?;intro j;rw [List.getElem?_set];split
 ·rename_i e;subst e;split
  ·exact h.symm
  rw [List.getElem?_eq_none (by omega)]
 rfl
structure OkP (r:RepD) (k:Nat):Prop where
 c:OkR r.rec_ k
 p:OkM r.rpl.m
 pl:r.rpl.log.length<=50000
 g:r.gate.held.length<=40000
 o:∀ g∈r.out.queue,OkG g
 on:r.out.queue.length<=100
 i:∀ e∈r.inn.early,OkG e.2
 en:r.inn.early.length<=100
 h:r.hist.length<=40000
abbrev repC (r:RepD) (a b c d e f g:V):List V:=[iv r.host,iv r.role,lv r.gen]++(r.rec_.m.row++([uv r.rec_.clock,a,b]++(r.rpl.m.row++[c,lv r.rpl.known,uv r.rpl.clock,d,lv r.gate.acked,lv r.gate.bytes,lv r.mark,lv r.out.base,lv r.out.tail,lv r.out.known,e,lv r.inn.next,lv r.inn.known,f,iv r.watch.limit,iv r.watch.silent,lv r.watch.seen,lv r.beats,iv r.cmd,lv r.cmdAt,g])))
abbrev zRR:List V:=[iv 0,iv 0,lv 0]++(zMR++([uv 0,.sl 0 true [],.sl 0 true []]++(zMR++[.sl 0 true [],lv 0,uv 0,.sl 0 true [],lv 0,lv 0,lv 0,lv 0,lv 0,lv 0,.sl 0 true [],lv 0,lv 0,.sl 0 true [],iv 0,iv 0,lv 0,lv 0,iv 0,lv 0,.sl 0 true []])))
abbrev repO (cs:List V):Ob:=⟨61,125,true,false,[cs]⟩
theorem zDG (r:RepD) (h:OkP r 40000):zAD prog 28 [.st r.row] (.st r.row):=by
 have c1:=zGA r.rec_.m (by have:=h.c.m.n;omega)
 have c2:=zGA r.rpl.m (by have:=h.p.n;omega)
 have c3:=zEe (ents r.rec_.log) false 4 (.inl rfl) (by rw [zAn];have:=h.c.l;omega)
 have c4:=zLy (evs r.rec_.queue) false 3 (.inl rfl) (by rw [zFQ];have:=h.c.q;omega)
 have c5:=zEe (ents r.rpl.log) false 4 (.inl rfl) (by rw [zAn];have:=h.pl;omega)
 have c6:=zLx (outs r.gate.held) false 4 (.inl rfl) (by rw [zBF];have:=h.g;omega)
 have c7:=cloneS (segs r.out.queue) false 3 (.inl rfl) (by rw [zCX];have:=h.on;omega)
 have c8:=cloneY (zGg r.inn.early) false 4 (.inl rfl) (by rw [zJo];have:=h.en;omega)
 have c9:=zEe (ents r.hist) false 4 (.inl rfl) (by rw [zAn];have:=h.h;omega)
 have hl1:=zCX r.out.queue;have hl2:=zJo r.inn.early;have hon:=h.on;have hen:=h.en;refine sX func28 ntmps28 ?_;intros;apply wr;refine cX (c1) ?_;intros;apply wr;refine cX (c3) ?_;intros;apply wr;refine cX (c4) ?_;intros;apply wr;refine cX (c2) ?_;intros;apply wr;refine cX (c5) ?_;intros;apply wr;refine cX (c6) ?_;intros;apply wr;refine cY (c7) @hl1 ?_;intros;apply wr;obtain ⟨I,hI⟩:∃ I:Nat->St->Prop,I=(fun kk ss=>∃ (i:Nat) ,i<=r.out.queue.length/\kk=r.out.queue.length-i/\(True)/\ss=⟨96,[(53,.int .i64 i),(52,.int .i64 r.out.queue.length),(51,.own 104),(1,.ptr 0 125 0 0),(2,.ptr 1 125 0 0)],105,[(0,some (repO (repC r (.own 51) (.own 52) (.own 102) (.own 103) (.own 104) (.sl 4 false (zGg r.inn.early)) (zBV r.hist)))),(1,some (repO zRR)),(51,some (logO r.rec_.log)),(52,some ⟨72,3,false,false,evs r.rec_.queue⟩),(102,some (logO r.rpl.log)),(103,some ⟨90,4,false,false,outs r.gate.held⟩),(104,some ⟨150,3,false,false,segs r.out.queue⟩)],0⟩):=⟨_,rfl⟩
 refine lX I (id) (by rw [hI];exact ⟨0,by simp,rfl,trivial,rfl⟩) ?_
 intro kk ss hIk _
 rw [hI] at hIk;obtain ⟨i,hi,rfl,hx,rfl⟩:=hIk;refine au1 @hl1 ?_;intros;apply wr;refine zAC rfl (fun hh=>?_) (fun hh=>?_)
 ·simp at hh;obtain ⟨g,hg,-,-,hmem⟩:=get_at hh;have hget:=zE4 hg;have hset:=zMy hget;have cg:=zLz g (by have:=(h.o g hmem).n;omega)
  refine au1 @hget ?_;intros;apply wr;refine zAG 8 [0,1,3,0,0,16,63,127] [(6,([[],[0],[0,1],[],[],[4]],[(2,5)])),(1,([],[])),(1,([],[]))] ?_;refine af ?_;intros;apply wr;refine cYf (cg) @hl1 ?_;intros;apply wr;exact aX (id) (by rw [hI];exact ⟨i+1,by omega,rfl,trivial,rfl⟩) (kX3 (zAA (n:=(i:Int)+1) (by omega) (by omega)) @hget @hset)
 simp at hh;refine af ?_;intros;apply wr;refine cYf (c8) @hl2 ?_;intros;apply wr;obtain ⟨Ij,hIj⟩:∃ I:Nat->St->Prop,I=(fun kk ss=>∃ (j:Nat) ,j<=r.inn.early.length/\kk=r.inn.early.length-j/\(True)/\ss=⟨96,[(76,.int .i64 j),(75,.int .i64 r.inn.early.length),(74,.own 105),(1,.ptr 0 125 0 0),(2,.ptr 1 125 0 0)],106,[(0,some (repO (repC r (.own 51) (.own 52) (.own 102) (.own 103) (.own 104) (.own 105) (zBV r.hist)))),(1,some (repO zRR)),(51,some (logO r.rec_.log)),(52,some ⟨72,3,false,false,evs r.rec_.queue⟩),(102,some (logO r.rpl.log)),(103,some ⟨90,4,false,false,outs r.gate.held⟩),(104,some ⟨150,3,false,false,segs r.out.queue⟩),(105,some ⟨154,4,false,false,zGg r.inn.early⟩)],0⟩):=⟨_,rfl⟩
 refine lX Ij (id) (by rw [hIj];exact ⟨0,by simp,rfl,trivial,rfl⟩) ?_
 intro kk ss hIk _
 rw [hIj] at hIk;obtain ⟨j,hj,rfl,hxj,rfl⟩:=hIk;refine af1 @hl2 ?_;intros;apply wr;refine zAC rfl (fun hh2=>?_) (fun hh2=>?_)
 ·simp at hh2;obtain ⟨e,he,-,-,hmem⟩:=get_at hh2;have hget:=zOr he;have hset:=zMy hget;have cg:=zLz e.2 (by have:=(h.i e hmem).n;omega)
  refine af1 @hget ?_;intros;apply wr;refine zAG 10 [0,1,3,0,0,16,48,127,255,511] [(7,([[],[0],[0,1],[],[],[4],[4,5]],[(2,6)])),(1,([],[])),(1,([],[])),(1,([],[]))] ?_;refine af ?_;intros;apply wr;refine cYf (cg) @hl2 ?_;intros;apply wr;exact aX (id) (by rw [hIj];exact ⟨j+1,by omega,rfl,trivial,rfl⟩) (kX3 (zAA (n:=(j:Int)+1) (by omega) (by omega)) @hget @hset)
 simp at hh2;refine af ?_;intros;apply wr;refine cXf (c9) ?_;intros;apply wr;refine zAI ?_;refine zAB ?_;simp
theorem zRl (l:List EntD) (hb:l.length<=100000):zAD prog 14 [.sl 4 false (ents l),.sl 4 false (ents l)] (.bool true):=by
 have hl:=zAn l;refine sY func14 ntmps14 @hl ?_;intros;apply wr;refine gF01 rfl @hl ?_;intros;apply wr;obtain ⟨I,hI⟩:∃ I:Nat->St->Prop,I=(fun kk ss=>∃ (i:Nat) ,i<=l.length/\kk=l.length-i/\(True)/\ss=⟨26,[(5,.int .i64 i),(0,.sl 4 false (ents l)),(1,.sl 4 false (ents l))],0,[],0⟩):=⟨_,rfl⟩
 refine lX I (id) (by rw [hI];exact ⟨0,by simp,rfl,trivial,rfl⟩) ?_
 intro kk ss hIk _
 rw [hI] at hIk;obtain ⟨i,hi,rfl,hx,rfl⟩:=hIk;refine au1 @hl ?_;intros;apply wr;refine zAC rfl (fun h=>?_) (fun h=>?_)
 ·simp at h;obtain ⟨x,hx,-,-,-⟩:=get_at h;have hg:=zCQ hx;refine au1 @hg ?_;intros;apply wr;refine zAG 9 [0,0,3,7,0,0,48,112,255] [(8,([[],[],[0,1],[0,1,2],[],[],[4,5],[4,5,6]],[])),(1,([],[]))] ?_;refine afm1 (kX3 @hl @hg @eqCs.eq_1) ?_;intros;apply wr;refine zBM rfl ?_;intros;apply wr;exact aX (id) (by rw [hI];exact ⟨i+1,by omega,rfl,trivial,rfl⟩) (zAA (n:=(i:Int)+1) (by omega) (by omega))
 simp at h;refine af ?_;intros;apply wr;refine zAB ?_;simp
end Go.Proofs.YthjpcmecgjfilaaGreat
end
