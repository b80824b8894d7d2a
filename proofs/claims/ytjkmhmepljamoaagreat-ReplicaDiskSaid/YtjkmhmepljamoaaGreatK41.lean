/- A part of the proof of ReplicaDisk. -/
import Derived.Test.YtjkmhmepljamoaaGreatK06
import Derived.Test.YtjkmhmepljamoaaGreatK30
import Derived.Test.YtjkmhmepljamoaaGreatK33
import Derived.Test.YtjkmhmepljamoaaGreatK40
set_option linter.all false
set_option maxHeartbeats 16000000
set_option maxRecDepth 100000
section
namespace Go.Proofs.YtjkmhmepljamoaaGreat
open Go.Ab Go.RowKit Tryz
theorem run3c:decide ((FW (F5 (Dz 0 (mkD 2 [0]) 1 2) []) 3 0).rec_.m.count=3)=true:=by kernel_rfl
theorem run3l:(FW (F5 (Dz 0 (mkD 2 [0]) 1 2) []) 3 0).hist.isEmpty=true:=by kernel_rfl
theorem YQ:∃(M:MchD)(a b a1 a2 b1 b2:RepD)(p q:Str),AC prog 6 [iv 2,.sl 1 false [[iv 0]],iv 2] (.tup [.st (wldR a b),.bool true])/\GF a=true/\GF b=false /\
  AC prog 7 [.st a.row,iv 3,uv 0] (.st a1.row)/\AC prog 9 [.st a1.row] (.tup [.st a2.row,.sl 1 false (strs [p,q])]) /\
  AC prog 10 [.st b.row,.str p] (.tup [.st b1.row,.bool true])/\AC prog 7 [.st b1.row,iv 3,uv 0] (.st b2.row) /\
  a2.role=1/\b2.role=2/\a2.rec_.m.mem.length<=100000/\b2.rpl.m=a2.rec_.m/\(segs a2.out.queue).length=1/\a2.rec_.m.count=3:=by
 obtain⟨hM,hmay,hs⟩:=ZO 2 [0] (by decide);have hm:=Pl 2 [0] (by decide);rw[show(2:Int)%3=2 by decide]at hm;have hst:=Kj 2 2 [0] (mkD 2 [0]) (by decide) hmay hs ⟨hM.gv.1,by have:=hM.gv.2;omega⟩ (by have:=hM.n;omega) hm;have c3:=of_decide_eq_true run3c;have l3:=List.isEmpty_iff.1 run3l;have hc0:(mkD 2 [0]).count=0:=by kernel_rfl
 clear hs hm;generalize mkD 2 [0]=M at *;have hA:=ZU hM hmay (limit:=2) (by decide);have hB:OkBk (GP 1 M 1 2) (Dz 0 M 1 2).out.base (Dz 0 M 1 2).rec_.m (Dz 0 M 1 2).hist 0:=Yl hM hmay (limit:=2) (by decide);obtain⟨r,g,x,y,l,o,e1,hm',hmay',hrc,hl,hrq,hS,hR,hd,ho,hg,hk,-⟩:=hA.run (by omega) (q:=[]) (by simp) (by simp) 3 (clock:=0) Ax;rw[e1]at c3 l3;have c3:r.m.count=3:=c3;have l3:l=[]:=(List.append_eq_nil_iff.1 l3).2;subst l3;have hP:=hA.okP (q:=[]) (by omega) (by simp) (by simp);have hrun:=VC (F5 (Dz 0 M 1 2) []) 3 0 rfl hP Ax (by simp) (by show([]:List OutD).length<=_;simp) (by show L64 M.count;exact DZ hM);rw[e1]at hrun;obtain⟨p1,p2,p3,p4⟩:=pkA hA (by omega) (x:=x) (y:=y) hm' hrc hl hrq hS hg hk _ rfl;have eO:Jw (Dz 0 M 1 2).out r.m.count []=⟨1,r.m.count,M.count,[⟨M.count,r.m.count,[]⟩]⟩:=by
  unfold Jw;rw[if_neg (fun z=>by have h1:=z.2;have h2:(Dz 0 M 1 2).out.tail=M.count:=rfl;omega)];rfl
 rw[eO]at hrun;simp only[eO]at p3 p4;have hr:=recv1 hA (by omega) hB (DZ hm') hS (p3 _ (List.mem_singleton.2 rfl));have h3s:stp 3=3:=by decide
 obtain⟨r1,r2,r3⟩:=hB.j.repl hR hS hm' 3 (by show r.m.count<=M.count+DC 3;rw[hc0,c3];decide);have hJ:OkJ {(GP 1 M 1 2).rpl with log:=(GP 1 M 1 2).rpl.log++[],known:=r.m.count}:=⟨hB.j.j.m,by show ∀e∈([]:List EntD),_;simp,DZ hm'⟩
 have hrb:=VB (JD (GP 1 M 1 2) ((Dz 0 M 1 2).out.base+1) r.m.count []) 3 0 (hB.feed (by omega) hA.h hS (DZ hm') _) rfl hJ (by show([]:List EntD).length<=_;simp) (by show ∀e∈([]:List EntD),_;simp) (by show([]:List OutD).length<=_;simp)
  (by rw[h3s];exact iY (Nat.le_of_eq (congrArg List.length r2)) (by omega))
 rw[h3s]at hrb;have hlog:(Ck {(GP 1 M 1 2).rpl with log:=(GP 1 M 1 2).rpl.log++[],known:=r.m.count} 3).1.log=[]:=List.length_eq_zero_iff.1 (Nat.le_zero.1 r3);have hma:=r1.a;rw[hlog]at hma;exact⟨M,_,_,_,_,_,_,_,_,hst,rfl,rfl,hrun,p4,hr,hrb,rfl,rfl,by show r.m.mem.length<=_;have:=hm'.n;omega,hma,rfl,c3⟩
theorem G4:AC prog 5 [] (.bool true):=by
 obtain⟨M,a,b,a1,a2,b1,b2,p,q,h1,h2,h3,h4,h5,h6,h7,h8,h9,h10,h11,h12,h13⟩:=YQ;have l1:=H3 a;have l2:=H3 b;rw[h2]at l1;rw[h3]at l2;have m1:=Z5 a2 h8 h10;have m2:=rm2_ok b2 h9 (by rw[h11];exact h10);have hsm:=VK a2.rec_.m h10;rw[h11]at m2;have hpn:AC prog 22 [iv 2,.st Vt.row,lv 1,iv 2] (.tup [.st zRep.row,.bool false]):=by
  have h:=UT 2 Vt 1 2 (by decide) (by decide) (by decide);simp only[dF,show Bv 2 Vt 1 2=false by kernel_rfl,if_false,iR]at h;exact h
 have hmd:AC prog 16 [.st a2.rec_.m.row,.st a2.rec_.m.row] (.bool true):=hsm;refine sX func5 ntmps5 ?_;refine auB ?_;refine ccB (h1) ?_;refine auB ?_;refine ccB (l1) ?_;refine auB ?_;refine ccB (l2) ?_;refine auB ?_;intros;apply wr;refine cF0 rfl ?_;refine auB ?_;refine ccB (h4) ?_;refine auB ?_;refine ccB (h5) ?_;refine auB ?_;intros;apply wr;refine cF1 @strs.eq_1 rfl ?_;refine auB ?_;intros;apply wr;refine BH (.node 5 9 (.leaf [0,1,2,3,4,5,6,7,8,9,10,11] (bN [0,1,0,4,12,31,63,127,127,63,767,2047]) [(5,([[],[0],[],[2],[2,3]],[])),(1,([],[])),(5,([[],[0],[0],[],[0,1,3]],[])),(1,([],[]))]) (.leaf [0,1,2,3,4,9,5,6,7,8,10,11] (bN [0,1,0,4,12,0,63,127,255,255,511,2047]) [(6,([[],[0],[],[2],[2,3],[]],[(1,5),(3,5),(4,5)])),(1,([],[])),(1,([],[])),(3,([[],[],[0]],[])),(1,([],[]))])) (by kernel_rfl) (by kernel_rfl) ?_;simp only[PT.run]
 repeat' (with_reducible apply And.intro)
 all_goals (simp only[CE,iI,List.map_nil,iC,iK];refine Qq @strs.eq_1 ?_;intros;apply wr)
 all_goals ((refine ccB (h6) ?_))
 all_goals ((refine afB ?_);intros;(apply wr))
 all_goals ((refine ccB (h7) ?_))
 all_goals ((refine afB ?_);intros;(apply wr))
 all_goals ((refine ccB (hpn) ?_))
 all_goals ((refine afB ?_);intros;(apply wr))
 ·refine AD 26 [0,1,3,7,15,31,63,127,255,511,1023,2047,4095,8191,16383,8191,65535,131071,262143,524287,1048575,2097151,4194303,8388607,16777215,33554431] [(1,([],[])),(1,([],[])),(1,([],[])),(1,([],[])),(1,([],[])),(1,([],[])),(1,([],[])),(1,([],[])),(1,([],[])),(1,([],[])),(1,([],[])),(1,([],[])),(1,([],[])),(3,([[],[0],[]],[(2,1)])),(1,([],[])),(1,([],[])),(1,([],[])),(1,([],[])),(1,([],[])),(1,([],[])),(1,([],[])),(1,([],[])),(1,([],[])),(1,([],[]))] ?_;refine Qq @h12 ?_;refine ccB (m1) ?_;refine afB ?_;refine ccB (m2) ?_;refine afB ?_;refine ccB (hmd) ?_;refine afB ?_;refine ccB (m1) ?_;refine afB ?_;refine ar ?_;simp[h13]
 refine AD 26 [0,1,3,7,15,31,63,127,255,511,1023,2047,4095,8191,16383,8191,65535,131071,262143,524287,1048575,2097151,4194303,8388607,16777215,33554431] [(1,([],[])),(1,([],[])),(1,([],[])),(1,([],[])),(1,([],[])),(1,([],[])),(1,([],[])),(1,([],[])),(1,([],[])),(1,([],[])),(1,([],[])),(1,([],[])),(1,([],[])),(3,([[],[0],[]],[(2,1)])),(1,([],[])),(1,([],[])),(1,([],[])),(1,([],[])),(1,([],[])),(1,([],[])),(1,([],[])),(1,([],[])),(1,([],[])),(1,([],[]))] ?_;refine Qq @h12 ?_;refine ccB (m1) ?_;refine afB ?_;refine ccB (m2) ?_;refine afB ?_;refine ccB (hmd) ?_;refine afB ?_;refine ccB (m1) ?_;refine afB ?_;refine ar ?_;simp[h13]
end Go.Proofs.YtjkmhmepljamoaaGreat
end
