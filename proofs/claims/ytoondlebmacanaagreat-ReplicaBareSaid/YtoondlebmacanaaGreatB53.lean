/- A part of the proof of ReplicaBare+ReplicaWindow. -/
import Derived.Test.YtoondlebmacanaaGreatB20
import Derived.Test.YtoondlebmacanaaGreatB31
import Derived.Test.YtoondlebmacanaaGreatB50
import Derived.Test.YtoondlebmacanaaGreatB51
set_option linter.unusedSimpArgs false
set_option linter.unusedVariables false
set_option maxHeartbeats 16000000
set_option maxRecDepth 100000
section
namespace Go.Proofs.YtoondlebmacanaaGreat
open Go.Ab Go.RowKit
theorem zVd (m:MchD) (e:EvD) (hM:OkM m) (hmay:mayD m=true) (hn:W32 e.n) (hd:e.data.length≤100000):zAD Tryz.prog 35 [.st m.row,.st e.row] (.tup [.st (applyD m e).1.row,.bool (applyD m e).2]):=by
 have ho:=zMX m (by have:=hM.n;omega)
 have hm:=zQL m hM.gv.1 (by have:=hM.gv.2;omega)
 rw [hmay] at hm;refine sX Tryz.func35 Tryz.ntmps35 ?_;intros;apply wr;refine cX (ho) ?_;intros;apply wr;refine cn (hm) ?_;refine au ?_;intros;apply wr;refine gF00 rfl ?_;intros;apply wr
 first|refine .inr ((zDK 0 28 m e hM hmay hn hd (by simp [lookO]) (by simp [lookO]) (by omega) (by omega) (by decide)).mono fun r nx' ob' hp=>?_)|refine (zDK 0 28 m e hM hmay hn hd (by simp [lookO]) (by simp [lookO]) (by omega) (by omega) (by decide)).mono fun r nx' ob' hp=>?_|refine ((zDK 0 28 m e hM hmay hn hd (by simp [lookO]) (by simp [lookO]) (by omega) (by omega) (by decide)).mono fun r nx' ob' hp=>?_).2
 simp only [aftI];obtain ⟨rfl,p1,p2,p3,p4⟩:=hp;have y2:=p4 2 (by omega) (by decide) (by decide)
 simp [lookO] at y2;simp;refine au1 (kX2 @p2 @y2) ?_;intros;apply wr;refine zAI ?_;refine zAA ?_;have hf:∀ i,lookO (List.map (fun p:Nat × Option Ob=>(p.1,p.2.map fzO)) ob') i=(lookO ob' i).map fzO:=zEf ob'
 simp [hf,p3,fzO]
theorem zJT (l:List EntD) (n:Nat):(ents l).take n=ents (l.take n):=by simp [ents,List.map_take]
theorem zJR (l:List EntD) (n:Nat):(ents l).drop n=ents (l.drop n):=by simp [ents,List.map_drop]
abbrev Spr (l:List EntD):Prop:=∀ k a b,l[k]? =some a→l[k+400]? =some b→a.at_<b.at_
theorem Spr.drop {l:List EntD} (h:Spr l) (n:Nat):Spr (l.drop n):=by
 intro k a b ha hb
 rw [zW0] at ha hb;exact h (n+k) a b ha (by rwa [Nat.add_assoc])
abbrev barT (l:List EntD) (u:Int):List (Nat × V):=[(1,zBu l),(2,lv u),(3,.ptr 0 49 0 0),(6,.ptr 1 49 0 0),(9,.own 2)]
abbrev barO (x:MchD) (acc:List OutD):List (Nat × Option Ob):=[(0,some ⟨42,49,true,false,[x.row]⟩),(1,some ⟨42,49,true,false,[zMR0]⟩),(2,some ⟨81,4,false,false,outs acc⟩)]
theorem zSv (m m1:MchD) (H rest:List EntD) (O:List OutD) (u:Int) (hM:OkM m) (hmay:mayD m=true) (hT:Tr u m H O m1 rest) (hu:u≤1152921504606846976) (hO:O.length≤10000) (hH:H.length≤20000) (hord:ordD H=true) (hD:Spr H)
  (hE:∀ e∈H,W32 e.ev.n∧e.ev.data.length≤100000) :
  zAD Tryz.prog 12 [.st m.row,zBu H,lv u] (.tup [.st (rest.foldl (fun x e=>(applyD x e.ev).1) m1).row,.sl 4 false (outs O),.bool true]):=by
 have hc0:=zHE hM;have hle:=hT.le;refine sX Tryz.func12 Tryz.ntmps12 ?_;(repeat intro K hK);apply wr
 refine zAW 9 81 4 (by decide) rfl ?_
 simp;obtain ⟨I,hI⟩:∃ I:Nat→St→Prop,I=(fun kk ss=>∃ (i:Nat) (x:MchD) (L:List EntD) (acc:List OutD),i≤(u-m.count).toNat∧kk=(u-m.count).toNat-i∧((∃ O',Tr u x L O' m1 rest∧acc++O'=O)∧m.count+i≤x.count∧OkM x∧mayD x=true∧ordD L=true∧Spr L∧(∀ e∈L,W32 e.ev.n∧e.ev.data.length≤100000)∧L.length≤20000)∧ss=⟨113,barT L u,3,barO x acc,0⟩):=⟨_,rfl⟩
 refine lX I (id) (by rw [hI];exact ⟨0,m,H,[],by simp,rfl,⟨⟨O,hT,rfl⟩,by simp,hM,hmay,hord,hD,hE,hH⟩,rfl⟩) ?_
 intro kk ss hIk _
 rw [hI] at hIk;obtain ⟨i,x,L,acc,hi,rfl,hx,rfl⟩:=hIk;obtain ⟨⟨O',hx1,hx2⟩,hx3,hx4,hx5,hx6,hx7,hx8,hx9⟩:=hx;rename_i hnn;clear hnn;have hxle:=hx1.le;have hl:=zA8 L;refine au ?_;(repeat intro K hK);apply wr
 by_cases hlt:x.count<u
 ·refine gT11 @hlt rfl @hl ?_;(repeat intro K hK);apply wr
  have hfi:=hx1.first
  refine zBe (α:=Nat) (fun n=>(⟨113,(10,.int .i64 n)::barT L u,3,barO x acc,0⟩:St)) (fun n=>n≤L.length∧n≤400∧(n<L.length→∃ a b,0<n∧L[n-1]? =some a∧L[n]? =some b∧a.at_<b.at_)) hK (fun n hxhG=>?_) (fun hG=>?_)
  all_goals clear hK
  ·obtain ⟨hn1,hn2,hn3⟩:=hxhG;have w1:IntKind.u64.wrap (x.count+4000)=x.count+4000:=u64_in (by omega) (by omega)
   refine au1 (kX2 @w1 @hl) ?_;(repeat intro K hK);apply wr
   have hnl:(decide ((n:Int)<L.length))=decide (n<L.length):=by simp
   by_cases hn:n<L.length
   ·obtain ⟨a,b,b0,ba,bb,bl⟩:=hn3 hn;have hgb:=zBO bb;have hn':(n:Int)<L.length:=by omega
    refine gT11 (kX2 @hn @hn') rfl (kX5 @hl @hn @hn' @hgb (getE hgb)) ?_;(repeat intro K hK);apply wr
    obtain ⟨t,hte⟩:∃ t,t=(if b.at_<(if x.count+4000<u then x.count+4000 else u) then b.at_ else (if x.count+4000<u then x.count+4000 else u)):=⟨_,rfl⟩
    have hca:x.count≤a.at_:=by
     cases hq:L with
     | nil=>rw [hq] at bb;simp at bb
     | cons e0 l0 =>
      rw [hq] at hfi;have h1:x.count≤e0.at_:=by simpa [firstOk] using hfi
      exact Int.le_trans h1 (zFz L 0 (n-1) e0 a hx6 (by rw [hq];rfl) ba (by omega))
    have htb:x.count<t∧t≤u∧t≤x.count+4000∧t≤b.at_:=by rw [hte];(repeat' split)<;>omega
    have hn4:∀ k e,n≤k→L[k]? =some e→t≤e.at_:=fun k e hk he=>by have:=zFz L n k b e hx6 bb he hk;omega
    rw [← hte];clear hte;clear hn3;have ht1:x.count<t:=by omega
    have ht2:t≤u:=by omega
    have ht3:t≤x.count+4000:=by omega
    obtain ⟨y,L',O1,O2,hT1,hT2,hO12,hyc⟩:=hx1.split t (by omega) ht2
    obtain ⟨us,hL',hus,hus2,hT3⟩:=hT1.pre n hn4;have hyok:=hT1.ok (fun e he=>(hx8 e he).1) hx4 hx5
    have hrun:=zLD x y (L.take n) ((L.take n).drop us) O1 t hx4 hx5 hT3 (by omega) (by omega) (by rw [zWw];omega) (zIc L n hx6) hT3.first (fun e he=>hx8 e (List.mem_of_mem_take he))
    have hlen:(((L.take n).length:Int)-(((L.take n).drop us).length:Int))=us:=by rw [zW3,zWw];omega
    rw [hlen] at hrun;have htk:=zJT L n;have hdr:=zJR L us;rw [hL'] at hT2;have htl:(ents L).take L.length=ents L:=by rw [← hl];exact List.take_length
    have hla:=zAw acc;have hlO:=zAw O1;have hb1:acc.length+O1.length≤10000:=by
     have:=congrArg List.length hx2;rw [hO12] at this;simp only [zWj] at this;omega
    have hne:¬ y.count=x.count:=by omega
    have husi:((us:Int)).toNat=us:=by omega
    refine zAv (.node 5 11 (.leaf [0,1,2,3,4,5,6,7,8,9,10,11,12,13,14,15] (bN [0,0,0,6,0,31,63,127,127,127,127,63,2303,6655,15359,32767]) [(5,([[],[],[],[1,2],[]],[])),(1,([],[])),(9,([[],[0],[0],[0],[0],[],[0,1,5],[0,1,2,5,6],[0,1,2,3,5,6,7]],[])),(1,([],[]))]) (.leaf [0,1,2,3,4,11,5,6,7,8,9,10,12,13,14,15] (bN [0,0,0,6,0,0,63,127,255,255,255,255,511,5119,14335,32767]) [(6,([[],[],[],[1,2],[],[]],[(0,5),(3,5)])),(1,([],[])),(1,([],[])),(7,([[],[],[],[],[0],[0,1,4],[0,1,2,4,5]],[])),(1,([],[]))])) (by kernel_rfl) (by kernel_rfl) ?_
    simp only [PT.run]
    repeat' (with_reducible apply And.intro)
    all_goals (simp only [zBZ,zWq,List.map_nil,zWi,zWn];refine af1 (kX3 @hl @htk @hn1) ?_;(repeat intro K hK);apply wr)
    all_goals ((refine cc (hrun) ?_))
    all_goals ((refine af ?_);(repeat intro K hK);(apply wr))
    all_goals ((refine cF0 rfl ?_))
    all_goals ((refine af1 (kX3 @hla @hlO @maxLen.eq_1) ?_);(repeat intro K hK);(apply wr))
    all_goals ((refine cF1 @hne rfl ?_))
    all_goals ((refine af1 (kX3 @hl @hdr @hus2) ?_);(repeat intro K hK);(apply wr))
    all_goals
     exact aX (fun x=>if x=2 then 56 else x) (by rw [hI];exact ⟨i+1,y,(L.drop us),(acc++O1),by omega,rfl,⟨⟨O2,hT2,by rw [zWu,← hO12];exact hx2⟩,by omega,hyok.1,hyok.2,zIb L us hx6,hx7.drop us,fun e he=>hx8 e (List.mem_of_mem_drop he),by rw [zW3];omega⟩,rfl⟩) (kX4 (zAB (n:=(i:Int)+1) (by omega) (by omega)) @zBI @htl @hdr)
   have hn':¬ (n:Int)<L.length:=by omega
   refine zAi (kX2 @hn @hn') rfl ?_;(repeat intro K hK);apply wr
   obtain ⟨t,hte⟩:∃ t,t=(if x.count+4000<u then x.count+4000 else u):=⟨_,rfl⟩
   have htb:x.count<t∧t≤u∧t≤x.count+4000:=by rw [hte];split<;>omega
   have hn4:∀ k e,n≤k→L[k]? =some e→t≤e.at_:=fun k e hk he=>by rw [zWy (by omega)] at he;cases he
   rw [← hte];clear hte;clear hn3;have ht1:x.count<t:=by omega
   have ht2:t≤u:=by omega
   have ht3:t≤x.count+4000:=by omega
   obtain ⟨y,L',O1,O2,hT1,hT2,hO12,hyc⟩:=hx1.split t (by omega) ht2
   obtain ⟨us,hL',hus,hus2,hT3⟩:=hT1.pre n hn4;have hyok:=hT1.ok (fun e he=>(hx8 e he).1) hx4 hx5
   have hrun:=zLD x y (L.take n) ((L.take n).drop us) O1 t hx4 hx5 hT3 (by omega) (by omega) (by rw [zWw];omega) (zIc L n hx6) hT3.first (fun e he=>hx8 e (List.mem_of_mem_take he))
   have hlen:(((L.take n).length:Int)-(((L.take n).drop us).length:Int))=us:=by rw [zW3,zWw];omega
   rw [hlen] at hrun;have htk:=zJT L n;have hdr:=zJR L us;rw [hL'] at hT2;have htl:(ents L).take L.length=ents L:=by rw [← hl];exact List.take_length
   have hla:=zAw acc;have hlO:=zAw O1;have hb1:acc.length+O1.length≤10000:=by
    have:=congrArg List.length hx2;rw [hO12] at this;simp only [zWj] at this;omega
   have hne:¬ y.count=x.count:=by omega
   have husi:((us:Int)).toNat=us:=by omega
   refine zAv (.node 5 11 (.leaf [0,1,2,3,4,5,6,7,8,9,10,11,12,13,14,15] (bN [0,0,0,6,0,31,63,127,127,127,127,63,2303,6655,15359,32767]) [(5,([[],[],[],[1,2],[]],[])),(1,([],[])),(9,([[],[0],[0],[0],[0],[],[0,1,5],[0,1,2,5,6],[0,1,2,3,5,6,7]],[])),(1,([],[]))]) (.leaf [0,1,2,3,4,11,5,6,7,8,9,10,12,13,14,15] (bN [0,0,0,6,0,0,63,127,255,255,255,255,511,5119,14335,32767]) [(6,([[],[],[],[1,2],[],[]],[(0,5),(3,5)])),(1,([],[])),(1,([],[])),(7,([[],[],[],[],[0],[0,1,4],[0,1,2,4,5]],[])),(1,([],[]))])) (by kernel_rfl) (by kernel_rfl) ?_
   simp only [PT.run]
   repeat' (with_reducible apply And.intro)
   all_goals (simp only [zBZ,zWq,List.map_nil,zWi,zWn];refine af1 (kX3 @hl @htk @hn1) ?_;(repeat intro K hK);apply wr)
   all_goals ((refine cc (hrun) ?_))
   all_goals ((refine af ?_);(repeat intro K hK);(apply wr))
   all_goals ((refine cF0 rfl ?_))
   all_goals ((refine af1 (kX3 @hla @hlO @maxLen.eq_1) ?_);(repeat intro K hK);(apply wr))
   all_goals ((refine cF1 @hne rfl ?_))
   all_goals ((refine af1 (kX3 @hl @hdr @hus2) ?_);(repeat intro K hK);(apply wr))
   all_goals
    exact aX (fun x=>if x=2 then 56 else x) (by rw [hI];exact ⟨i+1,y,(L.drop us),(acc++O1),by omega,rfl,⟨⟨O2,hT2,by rw [zWu,← hO12];exact hx2⟩,by omega,hyok.1,hyok.2,zIb L us hx6,hx7.drop us,fun e he=>hx8 e (List.mem_of_mem_drop he),by rw [zW3];omega⟩,rfl⟩) (kX4 (zAB (n:=(i:Int)+1) (by omega) (by omega)) @zBI @htl @hdr)
  by_cases h4:400<L.length
  ·have h4':(400:Int)<L.length:=by omega
   refine zDl @h4' rfl ?_;(repeat intro K hK);apply wr
   obtain ⟨Ij,hIj⟩:∃ I:Nat→St→Prop,I=(fun kk ss=>∃ (j:Nat) (z:Unit),j≤400∧kk=400-j∧(∀ b,L[400]? =some b→∀ a,L[400-j]? =some a→a.at_=b.at_)∧ss=⟨113,(10,.int .i64 ((400-j:Nat):Int))::barT L u,3,barO x acc,0⟩):=⟨_,rfl⟩
   refine lX Ij (id) (by rw [hIj];exact ⟨0,(),by simp,rfl,(fun b hb a ha=>by rw [hb] at ha;cases ha;rfl),rfl⟩) ?_
   intro kk ss hIk _
   rw [hIj] at hIk;obtain ⟨j,z,hj,rfl,hxj,rfl⟩:=hIk;have hj4:j<400:=by
    rcases Nat.lt_or_ge j 400 with q|q
    ·exact q
    exfalso
    obtain ⟨b,hb,-,-,-⟩:=get_at h4;obtain ⟨a,ha,-,-,-⟩:=get_at (show 0<L.length by omega)
    have h1:=hxj b hb a (by rw [show 400-j=0 by omega];exact ha)
    have h2:=hx7 0 a b ha hb;omega
   obtain ⟨k,hk⟩:∃ k,400-j=k+1:=⟨399-j,by omega⟩
   rw [hk] at hxj ⊢;obtain ⟨a,ha,-,-,-⟩:=get_at (show k<L.length by omega)
   obtain ⟨b,hb,-,-,-⟩:=get_at (show k+1<L.length by omega)
   have hga:=zBO ha;have hgb:=zBO hb;have hwk:IntKind.i64.wrap (k:Int)=k:=zAB (by omega) (by omega)
   have hk1:k<L.length:=by omega
   have hk2:k+1<L.length:=by omega
   have hk3:(k:Int)<L.length:=by omega
   have hk4:(k:Int)+1<L.length:=by omega
   have hab2:=zFz L k (k+1) a b hx6 ha hb (by omega)
   refine af1 @hl ?_;(repeat intro K hK);apply wr
   refine zAG 16 [0,1,3,7,7,31,63,127,7,7,519,1799,3847,7943,16383,32767] [(1,([],[])),(1,([],[])),(1,([],[])),(11,([[],[],[0,1],[0,1,2],[0,1,2,3],[],[],[6],[5,6,7],[5,6,7,8],[5,6,7,8,9]],[])),(1,([],[])),(1,([],[]))] ?_;refine af1 (kX10 @hl @hga @hgb @hwk @hk1 @hk2 @hk3 @hk4 (getE hga) (getE hgb)) ?_;(repeat intro K hK);apply wr
   by_cases hab:b.at_=a.at_
   ·refine zBv @hab rfl @hwk ?_;(repeat intro K hK);apply wr
    exact aX (id) (by rw [hIj];exact ⟨j+1,(),by omega,rfl,(fun b' hb' a' ha'=>by rw [show 400-(j+1)=k by omega,ha] at ha';cases ha';rw [← hab];exact hxj b' hb' b hb),rfl⟩) (kX3 (zAB (n:=(j:Int)+1) (by omega) (by omega)) @hwk ((show 400-(j+1)=k by omega)))
   refine zAi @hab rfl ?_;(repeat intro K hK);apply wr
   refine hG (k+1) _ (id) (⟨by omega,by omega,fun _=>⟨a,b,by omega,ha,hb,by omega⟩⟩) ⟨rfl,?_,?_,?_,by simp⟩
   ·simp [leT,ltV,lt1,ren,ren1]
   ·simp [leO,lt1,ren1]
   (simp;try omega)
  have h4':¬ (400:Int)<L.length:=by omega
  refine zAi @h4' rfl ?_;(repeat intro K hK);apply wr
  refine hG L.length _ (id) (⟨by omega,by omega,fun q=>by omega⟩) ⟨rfl,?_,?_,?_,by simp⟩
  ·simp [leT,ltV,lt1,ren,ren1]
  ·simp [leO,lt1,ren1]
  (simp;try omega)
 have hxu:x.count=u:=by omega
 obtain ⟨e1,e2,e3⟩:=hx1.fin hxu;rw [e2,List.append_nil] at hx2;subst e1 e3 hx2;refine zAi @hlt rfl ?_;(repeat intro K hK);apply wr
 obtain ⟨Ip,hIp⟩:∃ I:Nat→St→Prop,I=(fun kk ss=>∃ (p:Nat) (z:MchD),p≤rest.length∧kk=rest.length-p∧(z=(rest.take p).foldl (fun x e=>(applyD x e.ev).1) m1∧OkM z∧mayD z=true)∧ss=⟨113,(16,.int .i64 p)::barT rest u,3,barO z acc,0⟩):=⟨_,rfl⟩
 refine lX Ip (id) (by rw [hIp];exact ⟨0,m1,by simp,rfl,⟨rfl,hx4,hx5⟩,rfl⟩) ?_
 intro kk ss hIk _
 rw [hIp] at hIk;obtain ⟨p,z,hp,rfl,hxp,rfl⟩:=hIk;obtain ⟨hz1,hz2,hz3⟩:=hxp;refine af1 @hl ?_;(repeat intro K hK);apply wr
 refine zAC rfl (fun hh=>?_) (fun hh=>?_)
 ·simp at hh;obtain ⟨e,he,hde,htk,hmem⟩:=get_at hh;have hge:=zBO he;have hap:=zVd z e.ev hz2 hz3 (hx8 e hmem).1 (hx8 e hmem).2;have ham:=zFN hz2 (e:=e.ev) (hx8 e hmem).1;refine af ?_;(repeat intro K hK);apply wr
  refine zAv (.node 6 10 (.leaf [0,1,2,3,4,5,6,7,8,9,10,11,12] (bN [0,0,0,6,14,30,63,127,255,255,127,1535,4095]) [(6,([[],[],[],[1,2],[1,2,3],[1,2,3,4]],[])),(1,([],[])),(5,([[],[0],[0],[],[0,1,3]],[])),(1,([],[]))]) (.leaf [0,1,2,3,4,5,10,6,7,8,9,11,12] (bN [0,0,0,6,14,30,0,127,255,511,511,1023,4095]) [(7,([[],[],[],[1,2],[1,2,3],[1,2,3,4],[]],[(0,6),(3,6),(5,6)])),(1,([],[])),(1,([],[])),(3,([[],[],[0]],[])),(1,([],[]))])) (by kernel_rfl) (by kernel_rfl) ?_
  simp only [PT.run]
  repeat' (with_reducible apply And.intro)
  all_goals (simp only [zBZ,zWq,List.map_nil,zWi,zWn];refine af1 (kX4 @hl @hge (getE hge) @hh) ?_;(repeat intro K hK);apply wr)
  all_goals ((refine cc (hap) ?_))
  all_goals ((refine af ?_);(repeat intro K hK);(apply wr))
  all_goals
   exact aX (id) (by rw [hIp];exact ⟨p+1,((applyD z e.ev).1),by omega,rfl,⟨by rw [htk,List.foldl_append,← hz1];rfl,ham.1,zCl hz2 hz3 e.ev⟩,rfl⟩) (zAB (n:=(p:Int)+1) (by omega) (by omega))
 simp at hh;rw [zFE hh] at hz1;refine af ?_;(repeat intro K hK);apply wr
 refine zAI ?_;refine zAA ?_;simp [hz1]
end Go.Proofs.YtoondlebmacanaaGreat
end
