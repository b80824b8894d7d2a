/- A part of the proof of ReplicaHalts. -/
import Derived.Test.YthjpcmecgjfilaaGreatH12
import Derived.Test.YthjpcmecgjfilaaGreatH23
import Derived.Test.YthjpcmecgjfilaaGreatH24
set_option linter.unusedSimpArgs false
set_option linter.unusedVariables false
set_option maxHeartbeats 16000000
set_option maxRecDepth 100000
section
namespace Go.Proofs.YthjpcmecgjfilaaGreat
open Go.Ab Go.RowKit Tryz
theorem due_ok (t:TimD) (k:Int):zAD prog 128 [.st t.row,uv k] (.bool (dueD t k)):=by
 refine sZ func128 ntmps128 ?_;exact wx1 trivial trivial @dueD.eq_1
abbrev recC (m:MchD) (c:Int) (lg q:V):List V:=m.row++[uv c,lg,q]
abbrev recO (m:MchD) (c:Int) (lg q:V):Ob:=⟨46,52,true,false,[recC m c lg q]⟩
abbrev logO (l:List EntD):Ob:=⟨84,4,false,false,ents l⟩
theorem zNn (r:RecD) (h1:r.m.mem.length<=100000) (h2:r.log.length<=100000) (h3:r.queue.length<=100000):zAD prog 72 [.st r.row] (.st (recC r.m r.clock (.new 84 4 (ents r.log)) (.sl 3 false (evs r.queue)))):=by
 refine sX func72 ntmps72 ?_;intros;apply wr
 (refine au ?_;intros;apply wr)
 repeat' ((first|(refine zAC rfl (fun h=>?_) (fun h=>?_)<;>(first|(simp at h;done)|(simp at h)|skip)<;>(first|(exfalso;omega)|skip))|refine cc (zCH (ints .u32 r.m.mem) false 1 (.inl rfl) (by rw [zAN];exact h1)) ?_|refine cc (zFf (ents r.log) false 4 (.inl rfl) (by rw [zAt];exact h2)) ?_|refine cc (zOO (evs r.queue) false 3 (.inl rfl) (by rw [zGb];exact h3)) ?_|exact rt|fail)<;>(refine au ?_;intros;apply wr))
 refine awp_fz [2,4] ?_;simp;refine zAB ?_;simp
def LPost (nx:Nat) (ob:List (Nat × Option Ob)) (id j:Nat) (m:MchD) (c:Int) (l:List EntD) (q:V) (nx':Nat) (ob':List (Nat × Option Ob)):Prop :=
 ∃ k,(k=j\/nx<=k)/\k<nx'/\nx<=nx'/\lookO ob' k=some (logO l)/\lookO ob' id=some (recO m c (.own k) q)/\∀ i,i<nx->i≠id->i≠j->lookO ob' i=lookO ob i
theorem zE8 {nx:Nat} {ob:List (Nat × Option Ob)} (id j:Nat) (m:MchD) (c:Int) (l:List EntD) (q:V) (e:EvD) (hob:lookO ob id=some (recO m c (.own j) q)) (hj:lookO ob j=some (logO l)) (hi:id<nx) (hjn:j<nx) (hne:id≠j) (hl:l.length<=90000) :
  InlC prog 125 [.st e.row,.ptr id 52 0 0] nx ob fun r nx' ob'=>r=.tup []/\LPost nx ob id j m c (l++[⟨m.count,e⟩]) q nx' ob':=by
 have hll:=zAt l;have n1:¬ j=id:=fun e=>hne e.symm
 have n2:¬ id=nx:=by omega
 have n3:¬ j=nx:=by omega
 have n4:¬ nx=id:=by omega
 have n5:¬ nx=j:=by omega
 have p1:¬ id=nx+1:=by omega
 have p2:¬ nx+1=id:=by omega
 have p3:¬ j=nx+1:=by omega
 have p4:¬ nx+1=j:=by omega
 have q1:¬ id=nx+1+1:=by omega
 have q2:¬ nx+1+1=id:=by omega
 have q3:¬ j=nx+1+1:=by omega
 refine InlC.of func125 rfl (by kernel_rfl) rfl ?_
 simp only [ntmps125,St.startI,argT];refine au1 (kX15 @hob @hj @hne @n1 @n2 @n3 @p1 @p2 @p3 @p4 @q1 @q2 @q3 @hll @maxLen.eq_1) ?_;intros;apply wr;exact ⟨nx+1+1,.inr (by omega),by omega,by omega,by simp [lookO,q2,logO,zIS,zLt],by simp [lookO],fun i h1 h2 h3=>by
  have r1:¬ i=nx:=by omega
  have r2:¬ i=nx+1:=by omega
  have r3:¬ i=nx+1+1:=by omega
  simp [lookO,h2,h3,r1,r2,r3]⟩
theorem zE6 {nx:Nat} {ob:List (Nat × Option Ob)} (id j b:Nat) (m:MchD) (c:Int) (l:List EntD) (q:V) (e:EvD) (hM:OkM m) (he:OkV e) (hob:lookO ob id=some (recO m c (.own j) q)) (hj:lookO ob j=some (logO l))
  (hb:lookO ob b=some ⟨231,1,true,false,[[.cap 125 [] [some (id,52)]]]⟩) (hi:id<nx) (hjn:j<nx) (hbn:b<nx) (hne:id≠j) (hnb:id≠b) (hjb:j≠b) (hl:l.length<=90000) :
  InlC prog 126 [.st e.row,.ptr id 52 0 0,.ptr b 1 0 0] nx ob fun r nx' ob'=>r=.tup []/\LPost nx ob id j (zAV ⟨m,c,l,[]⟩ e).m c (zAV ⟨m,c,l,[]⟩ e).log q nx' ob':=by
 have hA:=zLh m e hM he.n he.d;have n1:¬ j=id:=fun e=>hne e.symm
 have n2:¬ id=nx:=by omega
 have n3:¬ j=nx:=by omega
 have n4:¬ b=nx:=by omega
 have n5:¬ b=id:=fun e=>hnb e.symm
 have n6:¬ nx=id:=by omega
 have hct:=(zDE hM he.n).2;have n7:¬ id=nx+1+50:=by omega
 have n8:¬ b=nx+1+50:=by omega
 have n9:¬ j=nx+1+50:=by omega
 have na:¬ nx=nx+1+50:=by omega
 unfold zAV;simp only;generalize applyD m e=R at *
 obtain ⟨m',ok⟩:=R;simp only at *
 cases ok with
 | false =>
  simp only [zWK,if_false];refine InlC.of func126 rfl (by kernel_rfl) rfl ?_
  simp only [ntmps126,St.startI,argT];refine au1 (kX4 @hob @hb @n2 @n4) ?_;intros;apply wr;refine cZ (hA) (kX4 @hob @hb @n2 @n4) (kX4 @hob @hb @n2 @n4) ?_;intros;apply wr;refine gF00 rfl ?_;intros;apply wr;exact ⟨j,.inl rfl,by omega,by omega,by simp [lookO,n3,n9,hj],by simp [lookO,n2,n7,hob],fun i h1 h2 h3=>by
   have r1:¬ i=nx:=by omega
   have r2:¬ i=nx+1+50:=by omega
   simp [lookO,r1,r2]⟩
 | true =>
  simp only [if_true];refine InlC.of func126 rfl (by kernel_rfl) rfl ?_
  simp only [ntmps126,St.startI,argT];refine au1 (kX4 @hob @hb @n2 @n4) ?_;intros;apply wr;refine cZ (hA) (kX4 @hob @hb @n2 @n4) (kX4 @hob @hb @n2 @n4) ?_;intros;apply wr;refine gT01 rfl (kX9 @hob @hb @n2 @n4 @n5 @n7 @n8 @na @n6) ?_;intros;apply wr
  first|refine .inr ((zE8 id j m' c l q e (by simp [lookO]) (by simp [lookO,n1,n3,n9,hj]) (by omega) (by omega) hne hl).mono fun r nx' ob' hp=>?_)|refine (zE8 id j m' c l q e (by simp [lookO]) (by simp [lookO,n1,n3,n9,hj]) (by omega) (by omega) hne hl).mono fun r nx' ob' hp=>?_|refine ((zE8 id j m' c l q e (by simp [lookO]) (by simp [lookO,n1,n3,n9,hj]) (by omega) (by omega) hne hl).mono fun r nx' ob' hp=>?_).2
  simp only [aftI];obtain ⟨rfl,k,g0,g1,g2,g3,g4,g5⟩:=hp;simp;rw [hct] at g3;refine ⟨k,by omega,g1,by omega,g3,g4,fun i h1 h2 h3=>?_⟩
  have r1:¬ i=nx:=by omega
  have r2:¬ i=nx+1+50:=by omega
  rw [g5 i (by omega) h2 h3]
  simp [lookO,h2,r1,r2]
abbrev zMR:List V:=[uv 0,uv 0,uv 0,uv 0,uv 0,uv 0,uv 0,uv 0,uv 0,uv 0,uv 0,uv 0,uv 0,uv 0,uv 0,uv 0,uv 0,uv 0,uv 0,uv 0,uv 0,uv 0,uv 0,uv 0,uv 0,.sl 0 true [],.str [],.bool false,uv 0,.bool false,uv 0,uv 0,uv 0,iv 0,iv 0,uv 0,uv 0,.str [],uv 0,uv 0,.bool false,uv 0,.bool false,uv 0,uv 0,uv 0,lv 0,.bool false,.bool false]
theorem zLB (m:MchD) (c:Int) (l:List EntD) (q:List EvD) (e:EvD):zAV ⟨m,c,l,q⟩ e=⟨(zAV ⟨m,c,l,[]⟩ e).m,c,(zAV ⟨m,c,l,[]⟩ e).log,q⟩:=by
 unfold zAV;simp only;split<;>rfl
abbrev advB (m:MchD) (c:Int) (l:List EntD) (q:V):List (Nat × Option Ob):=[(0,some (recO m c (.own 52) q)),(55,some ⟨231,1,true,false,[[.cap 125 [] [some (0,52)]]]⟩),(52,some (logO l)),(1,some ⟨46,52,true,false,[zMR++[uv 0,.sl 0 true [],.sl 0 true []]]⟩)]
theorem adv_ok (r:RecD) (steps clock:Int) (k:Nat) (hR:OkR r k) (hk:k<=1000) (hc:W32 clock):zAD prog 75 [.st r.row,iv steps,uv clock] (.tup [.st (advD r steps clock).1.row,.sl 4 false (outs (advD r steps clock).2)]):=by
 have hmem:=hR.m.n;have hll:=hR.l;have hql:=hR.q;have hcop:=zNn r (by omega) (by omega) (by omega)
 have hmay:=zH7 r.m hR.m.gv.1 (by have:=hR.m.gv.2;omega)
 cases hM:mayD r.m with
 | false =>
  have hE:advD r steps clock=(r,[]):=by unfold advD;rw [hM];rfl
  rw [hM] at hmay;rw [hE];refine sX func75 ntmps75 ?_;(repeat intro K hK);apply wr
  refine cX (hcop) ?_;(repeat intro K hK);apply wr
  refine cX (hmay) ?_;(repeat intro K hK);apply wr
  refine gT00 rfl ?_;(repeat intro K hK);apply wr
  refine zAI ?_;refine zAB ?_;simp
 | true =>
  rw [hM] at hmay;refine sX func75 ntmps75 ?_;(repeat intro K hK);apply wr
  refine cX (hcop) ?_;(repeat intro K hK);apply wr
  refine cX (hmay) ?_;(repeat intro K hK);apply wr
  refine gF01 rfl @zGb ?_;(repeat intro K hK);apply wr
  obtain ⟨C,hC⟩:∃ C,C=max r.clock clock:=⟨_,rfl⟩;have hCi:(if r.clock<clock then clock else r.clock)=C:=by rw [hC];split<;>omega
  have hr0:OkR {r with clock:=C} k:=⟨hR.m,by rw [hC];exact zNW hR.c hc,hR.l,hR.q,hR.v,hR.t⟩
  obtain ⟨I,hI⟩:∃ I:Nat->St->Prop,I=(fun kk ss=>∃ (i:Nat) (m:MchD) (l:List EntD),i<=r.queue.length/\kk=r.queue.length-i/\((r.queue.take i).foldl zAV {r with clock:=C}=⟨m,C,l,r.queue⟩/\OkR ⟨m,C,l,r.queue⟩ (k+i))/\ss=⟨95,[(31,.int .i64 i),(30,.int .i64 r.queue.length),(29,.sl 3 false (evs r.queue)),(9,.cap 126 [] [some (0,52),some (55,1)]),(3,.ptr 0 52 0 0),(1,iv steps),(8,.ptr 55 1 0 0),(6,.ptr 1 52 0 0)],56,advB m C l (.sl 3 false (evs r.queue)),0⟩):=⟨_,rfl⟩
  refine lX1 I (id) (by rw [hI];exact ⟨0,r.m,r.log,by simp,rfl,⟨rfl,hr0⟩,rfl⟩) @hCi ?_
  intro kk ss hIk _
  rw [hI] at hIk;obtain ⟨i,m,l,hi,rfl,hx,rfl⟩:=hIk;obtain ⟨hx1,hx2⟩:=hx;refine au ?_;(repeat intro K hK);apply wr
  refine zAC rfl (fun hh=>?_) (fun hh=>?_)
  ·simp at hh;obtain ⟨e,he,-,ht,hmem⟩:=get_at hh;have hget:=zOk he;have heV:=hR.v e hmem;have hll2:=hx2.l;simp only at hll2;refine au1 @hget ?_;(repeat intro K hK);apply wr
   first|refine .inr ((zE6 0 52 55 m C l (.sl 3 false (evs r.queue)) e hx2.m heV (by simp [lookO]) (by simp [lookO]) (by simp [lookO]) (by decide) (by decide) (by decide) (by decide) (by decide) (by decide) (by omega)).mono fun r nx' ob' hp=>?_)|refine (zE6 0 52 55 m C l (.sl 3 false (evs r.queue)) e hx2.m heV (by simp [lookO]) (by simp [lookO]) (by simp [lookO]) (by decide) (by decide) (by decide) (by decide) (by decide) (by decide) (by omega)).mono fun r nx' ob' hp=>?_|refine ((zE6 0 52 55 m C l (.sl 3 false (evs r.queue)) e hx2.m heV (by simp [lookO]) (by simp [lookO]) (by simp [lookO]) (by decide) (by decide) (by decide) (by decide) (by decide) (by decide) (by omega)).mono fun r nx' ob' hp=>?_).2
   simp only [aftI];obtain ⟨rfl,j,g0,g1,g2,g3,g4,g5⟩:=hp;have f55:=g5 55 (by decide) (by decide) (by decide)
   have f1:=g5 1 (by decide) (by decide) (by decide)
   simp [lookO] at f55 f1;obtain ⟨h1,-,-,-⟩:=hx2.offer heV;rw [zLB] at h1;have hst:(r.queue.take (i+1)).foldl zAV {r with clock:=C}=⟨(zAV ⟨m,C,l,[]⟩ e).m,C,(zAV ⟨m,C,l,[]⟩ e).log,r.queue⟩:=by rw [ht,List.foldl_append,hx1];exact zLB _ _ _ _ _
   generalize (zAV ⟨m,C,l,[]⟩ e).m=m' at *
   generalize (zAV ⟨m,C,l,[]⟩ e).log=l' at *
   simp;refine au ?_;(repeat intro K hK);apply wr
   exact aX (fun x=>if x=52 then j else x) (by rw [hI];exact ⟨i+1,m',l',by omega,rfl,⟨hst,h1⟩,rfl⟩) (kX5 (zAA (n:=(i:Int)+1) (by omega) (by omega)) @g3 @g4 @f55 @f1)
  simp at hh;rw [zGN hh] at hx1;have hQ:zBb r clock=⟨m,C,l,[]⟩:=by unfold zBb;rw [<- hC,hx1]
  have hQ2:OkR ⟨m,C,l,[]⟩ 2000:=⟨hx2.m,hx2.c,by have:=hx2.l;simp only at this ⊢;omega,by simp,by simp,hx2.t⟩
  clear hx1 hx2 hr0;refine au ?_;(repeat intro K hK);apply wr
  refine zAT 12 90 4 (by decide) rfl ?_
  have hlim:(if 4000<if steps<0 then 0 else steps then 4000 else if steps<0 then 0 else steps)=(limS steps:Int):=by unfold limS;(repeat' split)<;>omega
  have hl4:=zK6 steps;obtain ⟨Iu,hIu⟩:∃ I:Nat->St->Prop,I=(fun kk ss=>∃ (u:Nat) (m':MchD) (c:Int) (l':List EntD) (o:List OutD),u<=limS steps/\kk=limS steps-u/\(runR (limS steps) ⟨m,C,l,[]⟩ []=runR (limS steps-u) ⟨m',c,l',[]⟩ o/\OkR ⟨m',c,l',[]⟩ (2000+2*u)/\o.length<=u)/\ss=⟨95,[(43,.int .i64 u),(42,.int .i64 (limS steps)),(12,.own 56),(9,.cap 126 [] [some (0,52),some (55,1)]),(3,.ptr 0 52 0 0),(8,.ptr 55 1 0 0),(6,.ptr 1 52 0 0)],57,(56,some ⟨90,4,false,false,outs o⟩)::advB m' c l' (.sl 0 true []),0⟩):=⟨_,rfl⟩
  refine lX1 Iu (id) (by rw [hIu];exact ⟨0,m,C,l,[],by simp,rfl,⟨rfl,hQ2,by simp⟩,rfl⟩) @hlim ?_
  intro kk ss hIk _
  rw [hIu] at hIk;obtain ⟨u,m',c,l',o,hu,rfl,hxu,rfl⟩:=hIk;obtain ⟨hx1,hx2,hx3⟩:=hxu;have hl2:=hx2.l;simp only at hl2;refine au ?_;(repeat intro K hK);apply wr
  refine zAC rfl (fun hh2=>?_) (fun hh2=>?_)
  ·simp at hh2;have hrun:runR (limS steps-u) ⟨m',c,l',[]⟩ o=if zDQ (zAu ⟨m',c,l',[]⟩).m=true then (zAu ⟨m',c,l',[]⟩,o) else runR (limS steps-(u+1)) (goR (zAu ⟨m',c,l',[]⟩)).1 (o++(goR (zAu ⟨m',c,l',[]⟩)).2):=by
    rw [show limS steps-u=(limS steps-(u+1))+1 by omega];rfl
   rw [hrun] at hx1;obtain ⟨hT,-,-,-⟩:=hx2.tick;refine au ?_;(repeat intro K hK);apply wr
   refine cX (due_ok m'.tim c) ?_;(repeat intro K hK);apply wr
   clear hK;clear K;rename_i K hK;refine zB1 (α:=MchD × List EntD) (fun ⟨m2,l2⟩=>(⟨95,[(43,.int .i64 u),(42,.int .i64 (limS steps)),(12,.own 56),(9,.cap 126 [] [some (0,52),some (55,1)]),(3,.ptr 0 52 0 0),(8,.ptr 55 1 0 0),(6,.ptr 1 52 0 0)],57,(56,some ⟨90,4,false,false,outs o⟩)::advB m2 c l2 (.sl 0 true []),0⟩:St)) (fun ⟨m2,l2⟩=>zAu ⟨m',c,l',[]⟩=⟨m2,c,l2,[]⟩) hK (fun ⟨m2,l2⟩ hxhJ=>?_) (fun hJ=>?_)
   all_goals clear hK
   ·rw [hxhJ] at hx1 hT;have hT2:=hT.m;simp only at hT2 hx1;have hl3:=hT.l;simp only at hl3;refine au ?_;(repeat intro K hK);apply wr
    refine cX (zK0 m2 hT2) ?_;(repeat intro K hK);apply wr
    refine zAC rfl (fun hs=>?_) (fun hs=>?_)
    ·have hS:zDQ m2=true:=by unfold zDQ;simpa using hs
     rw [if_pos hS] at hx1;have hE:advD r steps clock=(⟨m2,c,l2,[]⟩,o):=by unfold advD;rw [if_pos hM,hQ];exact hx1
     refine au ?_;(repeat intro K hK);apply wr
     refine zAI ?_;refine zAB ?_;simp [hE]
    have hS:¬ zDQ m2=true:=by unfold zDQ;simpa using hs
    rw [if_neg hS] at hx1;refine au ?_;(repeat intro K hK);apply wr
    refine cX (zMZ m2 hT2) ?_;(repeat intro K hK);apply wr
    clear hK;clear K;rename_i K hK;refine zB1 (α:=List EntD) (fun l3=>(⟨95,[(43,.int .i64 u),(42,.int .i64 (limS steps)),(12,.own 56),(9,.cap 126 [] [some (0,52),some (55,1)]),(3,.ptr 0 52 0 0),(8,.ptr 55 1 0 0),(6,.ptr 1 52 0 0)],57,(56,some ⟨90,4,false,false,outs o⟩)::advB m2 c l3 (.sl 0 true []),0⟩:St)) (fun l3=>clkR ⟨m2,c,l2,[]⟩=⟨m2,c,l3,[]⟩) hK (fun l3 hxhG=>?_) (fun hG=>?_)
    all_goals clear hK
    ·obtain ⟨hK2,-,-,-⟩:=hT.clk;rw [hxhG] at hK2;have hgo:goR ⟨m2,c,l2,[]⟩=(⟨(stepD m2 c).1,uw (c+1),l3,[]⟩,(stepD m2 c).2):=by unfold goR;rw [hxhG]
     have hG2:=hT.go;rw [hgo] at hx1 hG2;have hso:=zDs m2 c;have hlo:=zBD o;refine au ?_;(repeat intro K hK);apply wr
     refine cc (step_ok m2 c hT2) ?_;generalize stepD m2 c=S at *
     have hlS:=zBD S.2;refine au1 (kX3 @hlo @hlS @maxLen.eq_1) ?_;(repeat intro K hK);apply wr
     simp only at hx1;exact aX (fun x=>if x=56 then 107 else x) (by rw [hIu];exact ⟨u+1,S.1,(uw (c+1)),l3,(o++S.2),by omega,rfl,⟨hx1,hG2.up (by omega),by rw [zV7];omega⟩,rfl⟩) (kX2 (zAA (n:=(u:Int)+1) (by omega) (by omega)) @zGG)
    refine zAC rfl (fun hr=>?_) (fun hr=>?_)
    ·have hcl:clkR ⟨m2,c,l2,[]⟩=⟨m2,c,l2++[⟨m2.count,⟨1,c,[]⟩⟩],[]⟩:=by unfold clkR;rw [if_pos hr]
     refine au ?_;(repeat intro K hK);apply wr
     first|refine .inr ((zE8 0 52 m2 c l2 (.sl 0 true []) ⟨1,c,[]⟩ (by simp [lookO]) (by simp [lookO]) (by decide) (by decide) (by decide) (by omega)).mono fun r nx' ob' hp=>?_)|refine (zE8 0 52 m2 c l2 (.sl 0 true []) ⟨1,c,[]⟩ (by simp [lookO]) (by simp [lookO]) (by decide) (by decide) (by decide) (by omega)).mono fun r nx' ob' hp=>?_|refine ((zE8 0 52 m2 c l2 (.sl 0 true []) ⟨1,c,[]⟩ (by simp [lookO]) (by simp [lookO]) (by decide) (by decide) (by decide) (by omega)).mono fun r nx' ob' hp=>?_).2
     simp only [aftI];obtain ⟨rfl,j,g0,g1,g2,g3,g4,g5⟩:=hp;have f55:=g5 55 (by decide) (by decide) (by decide)
     have f1:=g5 1 (by decide) (by decide) (by decide)
     have f56:=g5 56 (by decide) (by decide) (by decide)
     simp [lookO] at f55 f1 f56;generalize l2++[⟨m2.count,⟨1,c,[]⟩⟩]=l3 at *
     simp;refine au ?_;(repeat intro K hK);apply wr
     refine hG l3 _ (fun x=>if x=52 then j else x) (hcl) ⟨rfl,?_,?_,?_,by simp⟩
     ·simp [leT,ltV,lt1,ren,ren1,g3,g4,f55,f1,f56]
     ·simp [leO,lt1,ren1,g3,g4,f55,f1,f56]
     (simp;try omega)
    have hcl:clkR ⟨m2,c,l2,[]⟩=⟨m2,c,l2,[]⟩:=by unfold clkR;rw [if_neg (by simp [hr])]
    refine au ?_;(repeat intro K hK);apply wr
    refine hG l2 _ (id) (hcl) ⟨rfl,?_,?_,?_,by simp⟩
    ·simp [leT,ltV,lt1,ren,ren1]
    ·simp [leO,lt1,ren1]
    (simp;try omega)
   refine zAC rfl (fun hd=>?_) (fun hd=>?_)
   ·have hTd:zAu ⟨m',c,l',[]⟩=⟨(zAV ⟨m',c,l',[]⟩ ⟨2,0,[]⟩).m,c,(zAV ⟨m',c,l',[]⟩ ⟨2,0,[]⟩).log,[]⟩:=by unfold zAu;rw [if_pos hd];exact zLB _ _ _ _ _
    refine au ?_;(repeat intro K hK);apply wr
    first|refine .inr ((zE6 0 52 55 m' c l' (.sl 0 true []) ⟨2,0,[]⟩ hx2.m timV (by simp [lookO]) (by simp [lookO]) (by simp [lookO]) (by decide) (by decide) (by decide) (by decide) (by decide) (by decide) (by omega)).mono fun r nx' ob' hp=>?_)|refine (zE6 0 52 55 m' c l' (.sl 0 true []) ⟨2,0,[]⟩ hx2.m timV (by simp [lookO]) (by simp [lookO]) (by simp [lookO]) (by decide) (by decide) (by decide) (by decide) (by decide) (by decide) (by omega)).mono fun r nx' ob' hp=>?_|refine ((zE6 0 52 55 m' c l' (.sl 0 true []) ⟨2,0,[]⟩ hx2.m timV (by simp [lookO]) (by simp [lookO]) (by simp [lookO]) (by decide) (by decide) (by decide) (by decide) (by decide) (by decide) (by omega)).mono fun r nx' ob' hp=>?_).2
    simp only [aftI];obtain ⟨rfl,j,g0,g1,g2,g3,g4,g5⟩:=hp;have f55:=g5 55 (by decide) (by decide) (by decide)
    have f1:=g5 1 (by decide) (by decide) (by decide)
    have f56:=g5 56 (by decide) (by decide) (by decide)
    simp [lookO] at f55 f1 f56;simp;generalize (zAV ⟨m',c,l',[]⟩ ⟨2,0,[]⟩).m=m3 at *
    generalize (zAV ⟨m',c,l',[]⟩ ⟨2,0,[]⟩).log=l3 at *
    refine au ?_;(repeat intro K hK);apply wr
    refine hJ ⟨m3,l3⟩ _ (fun x=>if x=52 then j else x) (hTd) ⟨rfl,?_,?_,?_,by simp⟩
    ·simp [leT,ltV,lt1,ren,ren1,g3,g4,f55,f1,f56]
    ·simp [leO,lt1,ren1,g3,g4,f55,f1,f56]
    (simp;try omega)
   have hTd:zAu ⟨m',c,l',[]⟩=⟨m',c,l',[]⟩:=by unfold zAu;rw [if_neg (by simp [hd])]
   refine au ?_;(repeat intro K hK);apply wr
   refine hJ ⟨m',l'⟩ _ (id) (hTd) ⟨rfl,?_,?_,?_,by simp⟩
   ·simp [leT,ltV,lt1,ren,ren1]
   ·simp [leO,lt1,ren1]
   (simp;try omega)
  simp at hh2;have hE:advD r steps clock=(⟨m',c,l',[]⟩,o):=by unfold advD;rw [if_pos hM,hQ,hx1,show limS steps-u=0 by omega];rfl
  refine au ?_;(repeat intro K hK);apply wr
  refine zAI ?_;refine zAB ?_;simp [hE]
end Go.Proofs.YthjpcmecgjfilaaGreat
end
