/- A part of the proof of ReplicaBare+ReplicaWindow. -/
import Derived.Test.YtoondlebmacanaaGreatB06
import Derived.Test.YtoondlebmacanaaGreatB13
import Derived.Test.YtoondlebmacanaaGreatB38
import Derived.Test.YtoondlebmacanaaGreatB39
import Derived.Test.YtoondlebmacanaaGreatB50
import Derived.Test.YtoondlebmacanaaGreatB52
import Derived.Test.YtoondlebmacanaaGreatB53
import Derived.Test.YtoondlebmacanaaGreatB54
import Derived.Test.YtoondlebmacanaaGreatB55
set_option linter.unusedSimpArgs false
set_option linter.unusedVariables false
set_option maxHeartbeats 16000000
set_option maxRecDepth 100000
section
namespace Go.Proofs.YtoondlebmacanaaGreat
open Go.Ab Go.RowKit Fx
theorem zQt {C D E G:Prop} (c:C) (d:D) (e:E) (t:C→D→E→G:=by intro c d e;(refine af1 e ?_;intros;apply wr);repeat' ((first|(refine zAC rfl (fun h=>?_) (fun h=>?_)<;>(first|(simp [e] at h;done)|(simp [e] at h)|skip)<;>(first|(exfalso;omega)|skip))|((first|refine .inl ⟨1,_,d.1,?_⟩|refine ⟨1,_,d.1,?_⟩);simp [aftC,aftE,noX,noXc,noX1,e];first|refine And.intro zAP ?_|skip)|((first|refine .inl ⟨1,_,d.2.1,?_⟩|refine ⟨1,_,d.2.1,?_⟩);simp [aftC,aftE,noX,noXc,noX1,e];first|refine And.intro zAP ?_|skip)|refine cc1 c.1 e ?_|refine cc1 c.2.1 e ?_|refine cc1 c.2.2.1 e ?_|refine cc1 c.2.2.2.1 e ?_|refine cc1 c.2.2.2.2.1 e ?_|refine cc1 c.2.2.2.2.2.1 e ?_|(refine zAG (rid:=10) 13 [0,1,0,0,12,28,60,127,255,511,511,1023,3071] [(7,([[],[0],[],[],[2,3],[2,3,4],[2,3,4,5]],[(1,6)])),(1,([],[])),(1,([],[])),(4,([[],[],[0],[0,2]],[]))] ?_)|(refine zAG (rid:=11) 13 [0,1,0,0,12,28,60,0,128,384,1023,2047,4095] [(10,([[],[0],[],[],[2,3],[2,3,4],[2,3,4,5],[],[7],[7,8]],[(1,6),(9,6)])),(1,([],[])),(1,([],[])),(1,([],[]))] ?_)|(refine zAv (rid:=13) (.node 2 13 (.node 8 13 (.leaf [0,1,2,3,4,5,6,7,8,9,10,11,12,13,14,15,16] (bN [0,0,3,0,8,24,0,64,255,511,1023,1023,1023,511,10239,28671,65535]) [(8,([[],[],[0,1],[],[3],[3,4],[],[6]],[(5,2),(7,2)])),(1,([],[])),(7,([[],[0],[0],[0],[],[0,1,4],[0,1,2,4,5]],[])),(1,([],[]))]) (.leaf [0,1,2,3,4,5,6,7,13,8,9,10,11,12,14,15,16] (bN [0,0,3,0,8,24,0,64,7,511,1023,2047,2047,2047,4095,24575,65535]) [(9,([[],[],[0,1],[],[3],[3,4],[],[6],[0,1,2]],[(5,2),(5,8),(7,2),(7,8)])),(1,([],[])),(1,([],[])),(5,([[],[],[],[0],[0,1,3]],[])),(1,([],[]))])) (.leaf [0,1,3,4,5,6,7,13,2,8,9,10,11,12,14,15,16] (bN [0,0,0,4,12,0,32,0,131,511,1023,2047,2047,2047,4095,24575,65535]) [(9,([[],[],[],[2],[2,3],[],[5],[],[0,1,7]],[(4,7),(4,8),(6,7),(6,8)])),(1,([],[])),(1,([],[])),(5,([[],[],[],[0],[0,1,3]],[])),(1,([],[]))])) (by kernel_rfl) (by kernel_rfl) ?_;simp only [PT.run];repeat' (with_reducible apply And.intro);all_goals (simp only [zBZ,zWq,List.map_nil,zWi,zWn]))|exact rt1 e|fail)<;>(refine af1 e ?_;intros;apply wr))):G:=t c d e
theorem zVD {r:RepD} (hq:r.rec_.queue=[]) {e:EvD} (he:OkV e):∃ q:List EvD,(zDh r e).1=zLP r q∧q.length≤1∧(∀ x∈q,OkV x)∧∀ x∈q,x.kind≠1:=by
 have h0:r=zLP r []:=by
  obtain ⟨a,b,c,⟨m,k,g,q⟩,d⟩:=r;simp only at hq;subst hq;rfl
 unfold zDh zCE;split
 ·split
  ·rename_i h;refine ⟨[e],by rw [hq];rfl,by simp,fun x hx=>by rw [List.mem_singleton.1 hx];exact he,fun x hx=>by rw [List.mem_singleton.1 hx];exact h.2.1⟩
  exact ⟨[],h0,by simp,by simp,by simp⟩
 exact ⟨[],h0,by simp,by simp,by simp⟩
theorem OkB.barer {m0:MchD} {r:RepD} {i:Nat} {O:List OutD} (h:OkB m0 r i O) (hi:i≤100) (hM:OkM m0) (hm:mayD m0=true):zAD Tryz.prog 12 [.st m0.row,zBu r.hist,lv r.rec_.m.count] (.tup [.st r.rec_.m.row,.sl 4 false (outs O),.bool true]):=by
 have hol:=h.ol;have hh:=h.h;have hu:=((zBx _).1 h.may).n;have ho:=h.rb.ord;obtain ⟨m1,rest,h1,h2,-⟩:=h.rb;have:=zSv m0 m1 r.hist rest O r.rec_.m.count hM hm h1 hu (by omega) (by omega) ho (spr_of ho fun p=>by have:=h.hc p;omega) (fun e he=>⟨(h.hv e he).n,(h.hv e he).d⟩)
 rwa [show rest.foldl (fun x e=>(applyD x e.ev).1) m1=r.rec_.m from h2] at this
theorem zOv (O:List OutD) {i:Nat} {o:OutD} (h:O[i]? =some o):(O.take (i+1)).filter conO=(O.take i).filter conO++(if conO o=true then [o] else []):=by
 rw [List.take_add_one,h,List.filter_append];cases hc:conO o<;>simp [hc]
theorem bare_ok (kind:Int) (l runs es:List Int):zAD Tryz.prog 3 [iv kind,.sl 1 false (ints .i64 l),.sl 1 false (ints .i64 runs),.sl 1 false (ints .i64 es)] (.bool true):=by
 have hl1:=zAN .i64 l;have hl2:=zAN .i64 runs;have hl3:=zAN .i64 es;by_cases hc:(60:Int)<l.length∨(8:Int)<runs.length∨(30:Int)<es.length
 ·rcases hc with hc|hc|hc
  ·refine sZ Tryz.func3 Tryz.ntmps3 ?_;exact zQt (qX1 (zCV)) trivial (kX4 @hl1 @hl2 @hl3 @hc)
  ·refine sZ Tryz.func3 Tryz.ntmps3 ?_;exact zQt (qX1 (zCV)) trivial (kX4 @hl1 @hl2 @hl3 @hc)
  refine sZ Tryz.func3 Tryz.ntmps3 ?_;exact zQt (qX1 (zCV)) trivial (kX4 @hl1 @hl2 @hl3 @hc)
 have c1:¬ (60:Int)<l.length:=fun q=>hc (.inl q)
 have c2:¬ (8:Int)<runs.length:=fun q=>hc (.inr (.inl q))
 have c3:¬ (30:Int)<es.length:=fun q=>hc (.inr (.inr q))
 obtain ⟨hM,hmay,hs⟩:=zTy (kind % 3) l (by omega)
 have hm:=zL7 kind l (by omega)
 generalize mkD (kind % 3) l=M at *
 have hst:=zET kind 3 l M (by decide) hmay hs ⟨hM.gv.1,by have:=hM.gv.2;omega⟩ (by have:=hM.n;omega) hm
 have ha:=prim_b hM hmay 3;generalize zDm 0 M 1 3=a0 at *
 generalize zM6 1 M 1 3=b at *
 refine sY Tryz.func3 Tryz.ntmps3 (kX3 @hl1 @hl2 @hl3) ?_;(repeat intro K hK);apply wr
 refine gF10 (kX6 @hl1 @hl2 @hl3 @c1 @c2 @c3) rfl ?_;(repeat intro K hK);apply wr
 refine ccB (hst) ?_;refine auB ?_;(repeat intro K hK);apply wr
 refine cF0 rfl ?_;refine auB ?_;(repeat intro K hK);apply wr
 obtain ⟨I,hI⟩:∃ I:Nat→St→Prop,I=(fun kk ss=>∃ (i:Nat) (r:RepD) (O:List OutD),i≤runs.length∧kk=runs.length-i∧(OkB M r i O)∧ss=⟨134,[(11,.int .i64 i),(9,.ptr 256 255 0 0),(2,.sl 1 false (ints .i64 runs)),(3,.sl 1 false (ints .i64 es)),(0,iv kind),(1,.sl 1 false (ints .i64 l))],257,[(256,some ⟨66,255,true,false,[wldR r b]⟩)],0⟩):=⟨_,rfl⟩
 refine lX I (id) (by rw [hI];exact ⟨0,a0,[],by simp,rfl,ha,rfl⟩) ?_
 intro kk ss hIk _
 rw [hI] at hIk;obtain ⟨i,r,O,hi,rfl,hx,rfl⟩:=hIk;refine auB1 @hl2 ?_;(repeat intro K hK);apply wr
 refine zAC rfl (fun hh=>?_) (fun hh=>?_)
 ·simp at hh;have hlt:i<runs.length:=by omega
  obtain ⟨x,hx'⟩:∃ x,runs[i]? =some x:=⟨_,zWa hlt⟩;have hget:=zBU (k:=.i64) hx';have hw70:IntKind.i64.wrap (70*(i:Int))=70*i:=zAB (by omega) (by omega)
  have hwi:IntKind.u32.wrap (70*(i:Int))=70*i:=u32_in (by omega) (by omega)
  have hw1:IntKind.i64.wrap ((i:Int)+1)=((i+1:Nat):Int):=by rw [zAB (by omega) (by omega)];omega
  refine auB1 @hl3 ?_;(repeat intro K hK);apply wr
  refine zBe (α:=List EvD) (fun q=>(⟨134,[(11,.int .i64 i),(9,.ptr 256 255 0 0),(2,.sl 1 false (ints .i64 runs)),(3,.sl 1 false (ints .i64 es)),(0,iv kind),(1,.sl 1 false (ints .i64 l))],257,[(256,some ⟨66,255,true,false,[wldR (zLP r q) b]⟩)],0⟩:St)) (fun q=>q.length≤1∧(∀ x∈q,OkV x)∧(∀ x∈q,x.kind≠1)) hK (fun q hxhG=>?_) (fun hG=>?_)
  all_goals clear hK
  ·obtain ⟨hq1,hq2,hq3⟩:=hxhG;have hP:=hx.okP (q:=q) (by omega) (by omega) hq2
   have hrun:=zLG (zLP r q) (x % 65) (70*i) (by unfold zEv;show (decide (r.role=1)||_)=true;rw [hx.role];rfl) hP ⟨by omega,by omega⟩ (by show q.length≤400;omega) (by show r.gate.held.length≤_;rw [hx.hd];have:=hx.ol;have:=List.length_filter_le conO O;omega) hx.t
   obtain ⟨O',hnx⟩:=hx.round (by omega) hq1 hq2 hq3 (x % 65) (clock:=70*(i:Int)) ⟨by omega,by omega⟩
   generalize zLP r q=rq at *
   generalize zD5 rq (x % 65) (70*i)=r' at *
   refine auB ?_;(repeat intro K hK);apply wr
   refine zAG 13 [0,1,0,0,12,28,60,0,128,384,1023,2047,4095] [(10,([[],[0],[],[],[2,3],[2,3,4],[2,3,4,5],[],[7],[7,8]],[(1,6),(9,6)])),(1,([],[])),(1,([],[])),(1,([],[]))] ?_;refine afB1 (kX2 @hl2 @hget) ?_;(repeat intro K hK);apply wr
   refine ccB (zA0 x 65 (by decide) (by decide)) ?_
   refine afB1 (kX2 @hw70 @hwi) ?_;(repeat intro K hK);apply wr
   refine ccB1 (hrun) (kX2 @hw70 @hwi) ?_;refine afB ?_;(repeat intro K hK);apply wr
   exact aX (id) (by rw [hI];exact ⟨i+1,r',O',by omega,rfl,hnx,rfl⟩) (kX2 (zAB (n:=(i:Int)+1) (by omega) (by omega)) @hw1)
  by_cases he:i<es.length
  ·obtain ⟨z,hz⟩:∃ z,es[i]? =some z:=⟨_,zWa he⟩;have hgz:=zBU (k:=.i64) hz;obtain ⟨e,he1,he2,hev⟩:=zRk z;have hP:=(hx.okP (q:=[]) (by omega) (by simp) (by simp)).up (show 400≤40000 by omega)
   have hin:=zLx r e (by have:=hx.q;obtain ⟨a,b,c,⟨m,k,g,q⟩,d⟩:=r;simp only at this;subst this;exact hP)
   obtain ⟨q,hq,hq1,hq2,hq3⟩:=zVD hx.q (e:=e) ⟨he1,by omega⟩
   rw [hq] at hin;refine cT1 (kX2 @he @hl3) rfl ?_;refine afB ?_;(repeat intro K hK);apply wr
   refine zAG 13 [0,1,0,0,12,28,60,127,255,511,511,1023,3071] [(7,([[],[0],[],[],[2,3],[2,3,4],[2,3,4,5]],[(1,6)])),(1,([],[])),(1,([],[])),(4,([[],[],[0],[0,2]],[]))] ?_;refine afB1 (kX2 @hl3 @hgz) ?_;(repeat intro K hK);apply wr
   refine ccB (hev) ?_;refine afB ?_;(repeat intro K hK);apply wr
   refine ccB (hin) ?_;refine afB ?_;(repeat intro K hK);apply wr
   refine hG q _ (id) (⟨hq1,hq2,hq3⟩) ⟨rfl,?_,?_,?_,by simp⟩
   ·simp [leT,ltV,lt1,ren,ren1]
   ·simp [leO,lt1,ren1]
   (simp;try omega)
  have hqe:evs r.rec_.queue=[]:=by rw [hx.q];rfl
  refine cF1 (kX2 @he @hl3) rfl ?_;refine afB ?_;(repeat intro K hK);apply wr
  refine hG [] _ (id) (⟨by simp,by simp,by simp⟩) ⟨rfl,?_,?_,?_,by simp⟩
  ·simp [leT,ltV,lt1,ren,ren1,hqe]
  ·simp [leO,lt1,ren1,hqe]
  (simp;try omega)
 simp at hh;have hi8:i≤100:=by omega
 have hba:=hx.barer hi8 hM hmay;have m1:=zT7 r hx.role (by have:=hx.m.n;omega)
 have s1:=zIm r.rec_.m (by have:=hx.m.n;omega)
 have s2:=zLq r.gate.held (by rw [hx.hd];have:=hx.ol;have:=List.length_filter_le conO O;omega)
 have hOl:=zAw O;have hol:=hx.ol;have hhd:=hx.hd;refine afB ?_;(repeat intro K hK);apply wr
 refine ccB (m1) ?_;refine afB ?_;(repeat intro K hK);apply wr
 refine zBe (α:=Unit) (fun _=>(⟨134,[(14,.sl 4 false (outs O)),(15,.bool true),(13,.ptr 258 49 0 0),(12,.ptr 257 49 0 0),(9,.ptr 256 255 0 0)],259,[(258,some ⟨42,49,true,false,[r.rec_.m.row]⟩),(257,some ⟨42,49,true,false,[r.rec_.m.row]⟩),(256,some ⟨66,255,true,false,[wldR r b]⟩)],0⟩:St)) (fun _=>True) hK (fun _ hxhJ=>?_) (fun hJ=>?_)
 all_goals clear hK
 ·refine afB ?_;(repeat intro K hK);apply wr
  refine zAW 16 81 4 (by decide) rfl ?_
  simp;obtain ⟨I,hI⟩:∃ I:Nat→St→Prop,I=(fun kk ss=>∃ (i:Nat) (acc:List OutD),i≤O.length∧kk=O.length-i∧(acc=(O.take i).filter conO∧acc.length≤i)∧ss=⟨134,[(17,.int .i64 i),(14,.sl 4 false (outs O)),(15,.bool true),(13,.ptr 258 49 0 0),(12,.ptr 257 49 0 0),(9,.ptr 256 255 0 0),(16,.own 259)],260,[(259,some ⟨81,4,false,false,outs acc⟩),(258,some ⟨42,49,true,false,[r.rec_.m.row]⟩),(257,some ⟨42,49,true,false,[r.rec_.m.row]⟩),(256,some ⟨66,255,true,false,[wldR r b]⟩)],0⟩):=⟨_,rfl⟩
  refine lX I (id) (by rw [hI];exact ⟨0,[],by simp,rfl,⟨by simp,by simp⟩,rfl⟩) ?_
  intro kk ss hIk _
  rw [hI] at hIk;obtain ⟨i,acc,hi,rfl,hx,rfl⟩:=hIk;refine afB1 @hOl ?_;(repeat intro K hK);apply wr
  refine zAC rfl (fun hz=>?_) (fun hz=>?_)
  ·simp at hz;have hlt:i<O.length:=by omega
   obtain ⟨o,ho⟩:∃ o,O[i]? =some o:=⟨_,zWa hlt⟩;have hgo:=zC5 ho;have hw1:IntKind.i64.wrap ((i:Int)+1)=((i+1:Nat):Int):=by rw [zAB (by omega) (by omega)];omega
   have hfs:=zOv O ho;obtain ⟨hx1,hx2⟩:=hx;have hal:=zAw acc;by_cases k1:o.kind=1
   ·have b1:(o.kind==1)=true:=by simp [k1]
    have b2:decide (o.kind=1)=true:=by simp [k1]
    have hc:conO o=true:=by simp [k1]
    rw [hc,if_pos rfl,← hx1] at hfs;refine afB1 (kX4 @hOl @hgo @b1 @b2) ?_;(repeat intro K hK);apply wr
    refine cT0 rfl ?_;refine afB1 (kX4 @hOl @hgo @hal @maxLen.eq_1) ?_;(repeat intro K hK);apply wr
    exact aX (fun x=>if x=259 then 261 else x) (by rw [hI];exact ⟨i+1,(acc++[o]),by omega,rfl,⟨hfs.symm,by simp;omega⟩,rfl⟩) (kX4 (zAB (n:=(i:Int)+1) (by omega) (by omega)) @hw1 @zBI @zId)
   have b1:(o.kind==1)=false:=by simp [k1]
   have b2:decide (o.kind=1)=false:=by simp [k1]
   by_cases k2:o.kind=2
   ·have b3:(o.kind==2)=true:=by simp [k2]
    have b4:decide (o.kind=2)=true:=by simp [k2]
    have hc:conO o=true:=by simp [k2]
    rw [hc,if_pos rfl,← hx1] at hfs;refine afB1 (kX6 @hOl @hgo @b1 @b2 @b3 @b4) ?_;(repeat intro K hK);apply wr
    refine cT0 rfl ?_;refine afB1 (kX4 @hOl @hgo @hal @maxLen.eq_1) ?_;(repeat intro K hK);apply wr
    exact aX (fun x=>if x=259 then 261 else x) (by rw [hI];exact ⟨i+1,(acc++[o]),by omega,rfl,⟨hfs.symm,by simp;omega⟩,rfl⟩) (kX4 (zAB (n:=(i:Int)+1) (by omega) (by omega)) @hw1 @zBI @zId)
   have b3:(o.kind==2)=false:=by simp [k2]
   have b4:decide (o.kind=2)=false:=by simp [k2]
   have hc:conO o=false:=by simp [k1,k2]
   rw [hc,if_neg (by simp),← hx1,List.append_nil] at hfs
   refine afB1 (kX6 @hOl @hgo @b1 @b2 @b3 @b4) ?_;(repeat intro K hK);apply wr
   refine cF0 rfl ?_;refine afB ?_;(repeat intro K hK);apply wr
   exact aX (id) (by rw [hI];exact ⟨i+1,acc,by omega,rfl,⟨hfs.symm,by omega⟩,rfl⟩) (kX2 (zAB (n:=(i:Int)+1) (by omega) (by omega)) @hw1)
  simp at hz;have hfin:acc=r.gate.held:=by
   rw [hx.1,List.take_of_length_le (by omega),hhd]
  have s3:zAD Tryz.prog 15 [.sl 4 false (outs r.gate.held),.sl 4 false (outs acc)] (.bool true):=by rw [hfin];exact s2
  clear hfin s2;refine afB ?_;(repeat intro K hK);apply wr
  refine ccB (s1) ?_;refine afB ?_;(repeat intro K hK);apply wr
  refine ccB (s3) ?_;refine afB ?_;(repeat intro K hK);apply wr
  refine ccB (zCV) ?_;refine afB ?_;(repeat intro K hK);apply wr
  refine zAA ?_;simp
 refine zAv (.node 2 13 (.node 8 13 (.leaf [0,1,2,3,4,5,6,7,8,9,10,11,12,13,14,15,16] (bN [0,0,3,0,8,24,0,64,255,511,1023,1023,1023,511,10239,28671,65535]) [(8,([[],[],[0,1],[],[3],[3,4],[],[6]],[(5,2),(7,2)])),(1,([],[])),(7,([[],[0],[0],[0],[],[0,1,4],[0,1,2,4,5]],[])),(1,([],[]))]) (.leaf [0,1,2,3,4,5,6,7,13,8,9,10,11,12,14,15,16] (bN [0,0,3,0,8,24,0,64,7,511,1023,2047,2047,2047,4095,24575,65535]) [(9,([[],[],[0,1],[],[3],[3,4],[],[6],[0,1,2]],[(5,2),(5,8),(7,2),(7,8)])),(1,([],[])),(1,([],[])),(5,([[],[],[],[0],[0,1,3]],[])),(1,([],[]))])) (.leaf [0,1,3,4,5,6,7,13,2,8,9,10,11,12,14,15,16] (bN [0,0,0,4,12,0,32,0,131,511,1023,2047,2047,2047,4095,24575,65535]) [(9,([[],[],[],[2],[2,3],[],[5],[],[0,1,7]],[(4,7),(4,8),(6,7),(6,8)])),(1,([],[])),(1,([],[])),(5,([[],[],[],[0],[0,1,3]],[])),(1,([],[]))])) (by kernel_rfl) (by kernel_rfl) ?_
 simp only [PT.run]
 repeat' (with_reducible apply And.intro)
 all_goals (simp only [zBZ,zWq,List.map_nil,zWi,zWn];refine afB ?_;(repeat intro K hK);apply wr)
 ·refine ccB (hm) ?_;refine afB ?_;(repeat intro K hK);apply wr
  refine ccB (hba) ?_;refine afB ?_;(repeat intro K hK);apply wr
  refine hJ () _ (fun x=>if x=257 then 306 else if x=258 then 407 else x) (trivial) ⟨rfl,?_,?_,?_,by simp⟩
  ·simp [leT,ltV,lt1,ren,ren1]
  ·simp [leO,lt1,ren1]
  (simp;try omega)
 ·refine ccB (hm) ?_;refine afB ?_;(repeat intro K hK);apply wr
  refine ccB (hba) ?_;refine afB ?_;(repeat intro K hK);apply wr
  refine hJ () _ (fun x=>if x=257 then 306 else if x=258 then 356 else x) (trivial) ⟨rfl,?_,?_,?_,by simp⟩
  ·simp [leT,ltV,lt1,ren,ren1]
  ·simp [leO,lt1,ren1]
  (simp;try omega)
 refine ccB (hm) ?_;refine afB ?_;(repeat intro K hK);apply wr
 refine ccB (hba) ?_;refine afB ?_;(repeat intro K hK);apply wr
 refine hJ () _ (fun x=>if x=257 then 306 else if x=258 then 307 else x) (trivial) ⟨rfl,?_,?_,?_,by simp⟩
 ·simp [leT,ltV,lt1,ren,ren1]
 ·simp [leO,lt1,ren1]
 (simp;try omega)
end Go.Proofs.YtoondlebmacanaaGreat
end
