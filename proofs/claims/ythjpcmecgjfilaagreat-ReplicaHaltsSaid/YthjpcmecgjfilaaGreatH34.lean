/- A part of the proof of ReplicaHalts. -/
import Derived.Test.YthjpcmecgjfilaaGreatH06
import Derived.Test.YthjpcmecgjfilaaGreatH32
set_option linter.unusedSimpArgs false
set_option linter.unusedVariables false
set_option maxHeartbeats 16000000
set_option maxRecDepth 100000
section
namespace Go.Proofs.YthjpcmecgjfilaaGreat
open Go.Ab Go.RowKit Tryz
theorem zF8 (l:List EntD) (hb:l.length<=100000):zAD prog 14 [.sl 4 false (ents l),.sl 4 false (ents l)] (.bool true):=by
 have hl:=zAt l;refine sY func14 ntmps14 @hl ?_;intros;apply wr;refine gF01 rfl @hl ?_;intros;apply wr;obtain ⟨I,hI⟩:∃ I:Nat->St->Prop,I=(fun kk ss=>∃ (i:Nat) ,i<=l.length/\kk=l.length-i/\(True)/\ss=⟨26,[(5,.int .i64 i),(0,.sl 4 false (ents l)),(1,.sl 4 false (ents l))],0,[],0⟩):=⟨_,rfl⟩
 refine lX I (id) (by rw [hI];exact ⟨0,by simp,rfl,trivial,rfl⟩) ?_
 intro kk ss hIk _
 rw [hI] at hIk;obtain ⟨i,hi,rfl,hx,rfl⟩:=hIk;refine au1 @hl ?_;intros;apply wr;refine zAC rfl (fun h=>?_) (fun h=>?_)
 ·simp at h;obtain ⟨x,hx,-,-,-⟩:=get_at h;have hg:=zCs hx;refine au1 @hg ?_;intros;apply wr;refine zAE 9 [0,0,3,7,0,0,48,112,255] [(8,([[],[],[0,1],[0,1,2],[],[],[4,5],[4,5,6]],[])),(1,([],[]))] ?_;refine afm1 (kX3 @hl @hg @eqCs.eq_1) ?_;intros;apply wr;refine zBy rfl ?_;intros;apply wr;exact aX (id) (by rw [hI];exact ⟨i+1,by omega,rfl,trivial,rfl⟩) (zAA (n:=(i:Int)+1) (by omega) (by omega))
 simp at h;refine af ?_;intros;apply wr;refine zAB ?_;simp
theorem zRU (l:List OutD) (hb:l.length<=100000):zAD prog 109 [.sl 4 false (outs l),.sl 4 false (outs l)] (.bool true):=by
 have hl:=zBD l;refine sY func109 ntmps109 @hl ?_;intros;apply wr;refine gF01 rfl @hl ?_;intros;apply wr;obtain ⟨I,hI⟩:∃ I:Nat->St->Prop,I=(fun kk ss=>∃ (i:Nat) ,i<=l.length/\kk=l.length-i/\(True)/\ss=⟨26,[(5,.int .i64 i),(0,.sl 4 false (outs l)),(1,.sl 4 false (outs l))],0,[],0⟩):=⟨_,rfl⟩
 refine lX I (id) (by rw [hI];exact ⟨0,by simp,rfl,trivial,rfl⟩) ?_
 intro kk ss hIk _
 rw [hI] at hIk;obtain ⟨i,hi,rfl,hx,rfl⟩:=hIk;refine au1 @hl ?_;intros;apply wr;refine zAC rfl (fun h=>?_) (fun h=>?_)
 ·simp at h;obtain ⟨x,hx,-,-,-⟩:=get_at h;have hg:=zDJ hx;refine au1 @hg ?_;intros;apply wr;refine zAE 9 [0,0,3,7,0,0,48,112,255] [(8,([[],[],[0,1],[0,1,2],[],[],[4,5],[4,5,6]],[])),(1,([],[]))] ?_;refine afm1 (kX3 @hl @hg @eqCs.eq_1) ?_;intros;apply wr;refine zBy rfl ?_;intros;apply wr;exact aX (id) (by rw [hI];exact ⟨i+1,by omega,rfl,trivial,rfl⟩) (zAA (n:=(i:Int)+1) (by omega) (by omega))
 simp at h;refine af ?_;intros;apply wr;refine zAB ?_;simp
theorem zRY (l:List SegD) (hb:l.length<=100000) (h:∀ g∈l,g.ents.length<=100000):zAD prog 110 [.sl 3 false (segs l),.sl 3 false (segs l)] (.bool true):=by
 have hl:=zB5 l;refine sY func110 ntmps110 @hl ?_;intros;apply wr;refine gF01 rfl @hl ?_;intros;apply wr;obtain ⟨I,hI⟩:∃ I:Nat->St->Prop,I=(fun kk ss=>∃ (i:Nat) ,i<=l.length/\kk=l.length-i/\(True)/\ss=⟨55,[(5,.int .i64 i),(0,.sl 3 false (segs l)),(1,.sl 3 false (segs l))],0,[],0⟩):=⟨_,rfl⟩
 refine lX I (id) (by rw [hI];exact ⟨0,by simp,rfl,trivial,rfl⟩) ?_
 intro kk ss hIk _
 rw [hI] at hIk;obtain ⟨i,hi,rfl,hx,rfl⟩:=hIk;refine au1 @hl ?_;intros;apply wr;refine zAC rfl (fun hh=>?_) (fun hh=>?_)
 ·simp at hh;obtain ⟨x,hx,-,-,hm⟩:=get_at hh;have hg:=zEB hx;refine au1 @hg ?_;intros;apply wr;refine zAE 38 [0,0,3,7,15,0,0,96,224,480,1023,2047,4095,4095,16383,32767,65535,4095,4095,397311,921599,1970175,4194303,8388607,16777215,33554431,33554431,134217727,268435455,536870911,33554431,33554431,3254779903,7549747199,16139681791,34359738367,68719476735,137438953471] [(10,([[],[],[0,1],[0,1,2],[0,1,2,3],[],[],[5,6],[5,6,7],[5,6,7,8]],[])),(1,([],[])),(1,([],[])),(10,([[],[],[0,1],[0,1,2],[0,1,2,3],[],[],[5,6],[5,6,7],[5,6,7,8]],[])),(1,([],[])),(1,([],[])),(1,([],[])),(10,([[],[],[0,1],[0,1,2],[0,1,2,3],[],[],[5,6],[5,6,7],[5,6,7,8]],[])),(1,([],[])),(1,([],[])),(1,([],[]))] ?_;refine afm1 (kX2 @hl @hg) ?_;intros;apply wr;refine cXf (zF8 x.ents (h x hm)) ?_;intros;apply wr;refine zBy rfl ?_;intros;apply wr;exact aX (id) (by rw [hI];exact ⟨i+1,by omega,rfl,trivial,rfl⟩) (zAA (n:=(i:Int)+1) (by omega) (by omega))
 simp at hh;refine af ?_;intros;apply wr;refine zAB ?_;simp
theorem zO2 (g:GateD) (hb:g.held.length<=100000):zAD prog 55 [.st g.row,.st g.row] (.bool true):=by
 refine sZ func55 ntmps55 ?_;exact wx (qX1 (zRU g.held hb)) trivial
theorem zRZ (s:SndD) (hb:s.queue.length<=100000) (h:∀ g∈s.queue,g.ents.length<=100000):zAD prog 56 [.st s.row,.st s.row] (.bool true):=by
 refine sZ func56 ntmps56 ?_;exact wx (qX1 (zRY s.queue hb h)) trivial
theorem zRX (r:RplD) (h1:r.m.mem.length<=100000) (h2:r.log.length<=100000):zAD prog 54 [.st r.row,.st r.row] (.bool true):=by
 refine sZ func54 ntmps54 ?_;exact wx (qX2 (zI3 r.m h1) (zF8 r.log h2)) trivial
theorem zRV (r:RecD) (h1:r.m.mem.length<=100000) (h2:r.log.length<=100000) (h3:r.queue.length<=100000):zAD prog 53 [.st r.row,.st r.row] (.bool true):=by
 have hl:=zGb r.queue;refine sX func53 ntmps53 ?_;intros;apply wr;refine cX (zI3 r.m h1) ?_;intros;apply wr;refine cY (zF8 r.log h2) @hl ?_;intros;apply wr;refine gF01 rfl @hl ?_;intros;apply wr;obtain ⟨I,hI⟩:∃ I:Nat->St->Prop,I=(fun kk ss=>∃ (i:Nat) ,i<=r.queue.length/\kk=r.queue.length-i/\(True)/\ss=⟨54,[(5,.int .i64 i),(2,.ptr 0 52 0 0),(3,.ptr 1 52 0 0)],2,[(0,some ⟨46,52,true,false,[r.row]⟩),(1,some ⟨46,52,true,false,[r.row]⟩)],0⟩):=⟨_,rfl⟩
 refine lX I (id) (by rw [hI];exact ⟨0,by simp,rfl,trivial,rfl⟩) ?_
 intro kk ss hIk _
 rw [hI] at hIk;obtain ⟨i,hi,rfl,hx,rfl⟩:=hIk;refine au1 @hl ?_;intros;apply wr;refine zAC rfl (fun hh=>?_) (fun hh=>?_)
 ·simp at hh;obtain ⟨x,hx,-,-,hm⟩:=get_at hh;have hg:=zOk hx;refine au1 @hg ?_;intros;apply wr;refine zAE 11 [0,1,0,7,15,0,32,0,224,480,1023] [(10,([[],[0],[],[0,1,2],[0,1,2,3],[],[5],[],[5,6,7],[5,6,7,8]],[])),(1,([],[]))] ?_;refine afm1 (kX3 @hl @hg @eqCs.eq_1) ?_;intros;apply wr;refine zBy rfl ?_;intros;apply wr;exact aX (id) (by rw [hI];exact ⟨i+1,by omega,rfl,trivial,rfl⟩) (zAA (n:=(i:Int)+1) (by omega) (by omega))
 simp at hh;refine af ?_;intros;apply wr;refine zAB ?_;simp
theorem zRW (r:RepD) (h:OkP r 40000) (he:r.inn.early=[]):zAD prog 21 [.st r.row,.st r.row] (.bool true):=by
 have c1:=zRV r.rec_ (by have:=h.c.m.n;omega) (by have:=h.c.l;omega) (by have:=h.c.q;omega)
 have c2:=zRX r.rpl (by have:=h.p.n;omega) (by have:=h.pl;omega)
 have c3:=zO2 r.gate (by have:=h.g;omega)
 have c4:=zRZ r.out (by have:=h.on;omega) (fun g hg=>by have:=(h.o g hg).n;omega)
 have c5:zAD prog 57 [.st r.inn.row,.st r.inn.row] (.bool true):=by
  have q:=zNt r.inn.next r.inn.known;rwa [<- he] at q
 have c6:=zF8 r.hist (by have:=h.h;omega)
 refine sZ func21 ntmps21 ?_;exact wx1 (qX6 (c1) (c2) (c3) (c4) (c5) (c6)) trivial @eqCs.eq_1
end Go.Proofs.YthjpcmecgjfilaaGreat
end
