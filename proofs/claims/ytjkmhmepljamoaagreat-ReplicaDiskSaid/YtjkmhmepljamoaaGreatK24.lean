/- A part of the proof of ReplicaDisk. -/
import Derived.Test.YtjkmhmepljamoaaGreatK21
import Derived.Test.YtjkmhmepljamoaaGreatK22
set_option linter.all false
set_option maxHeartbeats 16000000
set_option maxRecDepth 100000
section
namespace Go.Proofs.YtjkmhmepljamoaaGreat
open Go.Ab Go.RowKit Tryz
structure OkD(d:DskD):Prop where
 a:W32 d.blocks
 b:W32 d.block
 c:W32 d.frame
 e:W32 d.opBlock
 f:W32 d.opFrame
structure OkN(n:NicD):Prop where
 a:W32 n.frame
 b:W32 n.len
 c:W32 n.buffer
 d:W32 n.got
structure OkM(m:MchD):Prop where
 c:OkC m.cpu
 w:OkW m.mem
 n:m.mem.length<=1024
 k:m.keys.length<=1000
 t:W32 m.tim.dl
 d:OkD m.dk
 r:OkN m.nc
 tg:W32 m.tgt
 gv:W32 m.given
 ct:0<=m.count/\m.count<2000000000000000000
theorem LO(m:MchD)(hM:OkM m):AC prog 232 [.st m.row] (uv (Hn m)):=by
 have hb:=Qu m.tgt m.given hM.gv;have ht:=SB m.tim;have hk:=Qx m.keys;have hd:=KU m.dk;have hn:=R9 m.nc;have hE:Hn m=b2w m.tim.fired+b2w (!decide (m.keys=[]))*2+b2w (CL m.dk)*4+b2w m.nc.received*8+b2w (Bf m.tgt m.given)*16:=rfl;rw[hE];generalize Bf m.tgt m.given=p4 at *;generalize CL m.dk=p2 at *;generalize (!decide (m.keys=[]))=p1 at *;refine sX func232 ntmps232 ?_;(repeat intro K hK);apply wr;refine Cc (α:=Unit) (fun _=>(⟨35,[(3,.ptr 1 5 0 0),(2,uv 0)],2,[(1,some ⟨400,5,true,false,[[.bool m.tim.fired,.bool p1,.bool p2,.bool m.nc.received,.bool p4]]⟩)],0⟩:St)) (fun _=>True) hK (fun _ hxhJ=>?_) (fun hJ=>?_);all_goals clear hK
 ·obtain⟨p0,hp0⟩:∃p0,p0=m.tim.fired:=⟨_,rfl⟩;obtain⟨p3,hp3⟩:∃p3,p3=m.nc.received:=⟨_,rfl⟩;rw[<- hp0,<- hp3];clear hp0 hp3
  (refine af1 (kX4 @b2w.eq_1 @ior.eq_1 @D5 @HZ) ?_;(repeat intro K hK);apply wr)
  repeat' ((first|(refine AB rfl (fun h=>?_) (fun h=>?_)<;>(first|(simp[b2w,ior,D5,HZ]at h;done)|(simp[b2w,ior,D5,HZ]at h)|skip)<;>(first|(exfalso;omega)|skip))|refine Aa 6 ?_|refine BD fun K hK=>?_|(refine BH (.node 2 16 (.node 5 16 (.node 8 16 (.node 11 16 (.node 14 16 (.leaf [0,1,2,3,4,5,6,7,8,9,10,11,12,13,14,15,16,17] (bN [0,1,3,0,8,31,0,64,255,0,512,2047,0,4096,16383,32767,32767,131071]) [(14,([[],[0],[0,1],[],[3],[0,1,2,3,4],[],[6],[0,1,2,3,4,5,6,7],[],[9],[0,1,2,3,4,5,6,7,8,9,10],[],[12]],[(4,2),(7,2),(7,5),(10,2),(10,5),(10,8),(13,2),(13,5),(13,8),(13,11)])),(1,([],[])),(2,([[],[]],[])),(1,([],[]))]) (.leaf [0,1,2,3,4,5,6,7,8,9,10,11,12,13,16,14,15,17] (bN [0,1,3,0,8,31,0,64,255,0,512,2047,0,4096,4095,32767,65535,131071]) [(15,([[],[0],[0,1],[],[3],[0,1,2,3,4],[],[6],[0,1,2,3,4,5,6,7],[],[9],[0,1,2,3,4,5,6,7,8,9,10],[],[12],[0,1,2,3,4,5,6,7,8,9,10,11]],[(4,2),(7,2),(7,5),(10,2),(10,5),(10,8),(13,2),(13,5),(13,8),(13,11),(13,14)])),(1,([],[])),(1,([],[])),(1,([],[]))])) (.leaf [0,1,2,3,4,5,6,7,8,9,10,12,13,16,11,14,15,17] (bN [0,1,3,0,8,31,0,64,255,0,512,0,2048,511,10239,32767,65535,131071]) [(15,([[],[0],[0,1],[],[3],[0,1,2,3,4],[],[6],[0,1,2,3,4,5,6,7],[],[9],[],[11],[0,1,2,3,4,5,6,7,8],[0,1,2,3,4,5,6,7,8,9,10,13]],[(4,2),(7,2),(7,5),(10,2),(10,5),(10,8),(10,13),(12,2),(12,5),(12,8),(12,13),(12,14)])),(1,([],[])),(1,([],[])),(1,([],[]))])) (.leaf [0,1,2,3,4,5,6,7,9,10,12,13,16,8,11,14,15,17] (bN [0,1,3,0,8,31,0,64,0,256,0,1024,63,4351,13311,32767,65535,131071]) [(15,([[],[0],[0,1],[],[3],[0,1,2,3,4],[],[6],[],[8],[],[10],[0,1,2,3,4,5],[0,1,2,3,4,5,6,7,12],[0,1,2,3,4,5,6,7,8,9,12,13]],[(4,2),(7,2),(7,5),(7,12),(9,2),(9,5),(9,12),(9,13),(11,2),(11,5),(11,12),(11,13),(11,14)])),(1,([],[])),(1,([],[])),(1,([],[]))])) (.leaf [0,1,2,3,4,6,7,9,10,12,13,16,5,8,11,14,15,17] (bN [0,1,3,0,8,0,32,0,128,0,512,7,2079,6271,14847,32767,65535,131071]) [(15,([[],[0],[0,1],[],[3],[],[5],[],[7],[],[9],[0,1,2],[0,1,2,3,4,11],[0,1,2,3,4,5,6,11,12],[0,1,2,3,4,5,6,7,8,11,12,13]],[(4,2),(4,11),(6,2),(6,11),(6,12),(8,2),(8,11),(8,12),(8,13),(10,2),(10,11),(10,12),(10,13),(10,14)])),(1,([],[])),(1,([],[])),(1,([],[]))])) (.leaf [0,1,3,4,6,7,9,10,12,13,16,2,5,8,11,14,15,17] (bN [0,1,0,4,0,16,0,64,0,256,0,1027,3087,7231,15615,32767,65535,131071]) [(15,([[],[0],[],[2],[],[4],[],[6],[],[8],[],[0,1,10],[0,1,2,3,10,11],[0,1,2,3,4,5,10,11,12],[0,1,2,3,4,5,6,7,10,11,12,13]],[(1,10),(3,10),(3,11),(5,10),(5,11),(5,12),(7,10),(7,11),(7,12),(7,13),(9,10),(9,11),(9,12),(9,13),(9,14)])),(1,([],[])),(1,([],[])),(1,([],[]))])) (by kernel_rfl) (by kernel_rfl) ?_;simp only[PT.run];repeat' (with_reducible apply And.intro);all_goals (simp only[CE,iI,List.map_nil,iC,iK]))|exact rt1 (kX4 @b2w.eq_1 @ior.eq_1 @D5 @HZ)|fail)<;>(refine af1 (kX4 @b2w.eq_1 @ior.eq_1 @D5 @HZ) ?_;(repeat intro K hK);apply wr))
 refine BH (.node 2 16 (.node 5 16 (.node 8 16 (.node 11 16 (.node 14 16 (.leaf [0,1,2,3,4,5,6,7,8,9,10,11,12,13,14,15,16,17] (bN [0,1,3,0,8,31,0,64,255,0,512,2047,0,4096,16383,32767,32767,131071]) [(14,([[],[0],[0,1],[],[3],[0,1,2,3,4],[],[6],[0,1,2,3,4,5,6,7],[],[9],[0,1,2,3,4,5,6,7,8,9,10],[],[12]],[(4,2),(7,2),(7,5),(10,2),(10,5),(10,8),(13,2),(13,5),(13,8),(13,11)])),(1,([],[])),(2,([[],[]],[])),(1,([],[]))]) (.leaf [0,1,2,3,4,5,6,7,8,9,10,11,12,13,16,14,15,17] (bN [0,1,3,0,8,31,0,64,255,0,512,2047,0,4096,4095,32767,65535,131071]) [(15,([[],[0],[0,1],[],[3],[0,1,2,3,4],[],[6],[0,1,2,3,4,5,6,7],[],[9],[0,1,2,3,4,5,6,7,8,9,10],[],[12],[0,1,2,3,4,5,6,7,8,9,10,11]],[(4,2),(7,2),(7,5),(10,2),(10,5),(10,8),(13,2),(13,5),(13,8),(13,11),(13,14)])),(1,([],[])),(1,([],[])),(1,([],[]))])) (.leaf [0,1,2,3,4,5,6,7,8,9,10,12,13,16,11,14,15,17] (bN [0,1,3,0,8,31,0,64,255,0,512,0,2048,511,10239,32767,65535,131071]) [(15,([[],[0],[0,1],[],[3],[0,1,2,3,4],[],[6],[0,1,2,3,4,5,6,7],[],[9],[],[11],[0,1,2,3,4,5,6,7,8],[0,1,2,3,4,5,6,7,8,9,10,13]],[(4,2),(7,2),(7,5),(10,2),(10,5),(10,8),(10,13),(12,2),(12,5),(12,8),(12,13),(12,14)])),(1,([],[])),(1,([],[])),(1,([],[]))])) (.leaf [0,1,2,3,4,5,6,7,9,10,12,13,16,8,11,14,15,17] (bN [0,1,3,0,8,31,0,64,0,256,0,1024,63,4351,13311,32767,65535,131071]) [(15,([[],[0],[0,1],[],[3],[0,1,2,3,4],[],[6],[],[8],[],[10],[0,1,2,3,4,5],[0,1,2,3,4,5,6,7,12],[0,1,2,3,4,5,6,7,8,9,12,13]],[(4,2),(7,2),(7,5),(7,12),(9,2),(9,5),(9,12),(9,13),(11,2),(11,5),(11,12),(11,13),(11,14)])),(1,([],[])),(1,([],[])),(1,([],[]))])) (.leaf [0,1,2,3,4,6,7,9,10,12,13,16,5,8,11,14,15,17] (bN [0,1,3,0,8,0,32,0,128,0,512,7,2079,6271,14847,32767,65535,131071]) [(15,([[],[0],[0,1],[],[3],[],[5],[],[7],[],[9],[0,1,2],[0,1,2,3,4,11],[0,1,2,3,4,5,6,11,12],[0,1,2,3,4,5,6,7,8,11,12,13]],[(4,2),(4,11),(6,2),(6,11),(6,12),(8,2),(8,11),(8,12),(8,13),(10,2),(10,11),(10,12),(10,13),(10,14)])),(1,([],[])),(1,([],[])),(1,([],[]))])) (.leaf [0,1,3,4,6,7,9,10,12,13,16,2,5,8,11,14,15,17] (bN [0,1,0,4,0,16,0,64,0,256,0,1027,3087,7231,15615,32767,65535,131071]) [(15,([[],[0],[],[2],[],[4],[],[6],[],[8],[],[0,1,10],[0,1,2,3,10,11],[0,1,2,3,4,5,10,11,12],[0,1,2,3,4,5,6,7,10,11,12,13]],[(1,10),(3,10),(3,11),(5,10),(5,11),(5,12),(7,10),(7,11),(7,12),(7,13),(9,10),(9,11),(9,12),(9,13),(9,14)])),(1,([],[])),(1,([],[])),(1,([],[]))])) (by kernel_rfl) (by kernel_rfl) ?_;simp only[PT.run]
 repeat' (with_reducible apply And.intro)
 all_goals (simp only[CE,iI,List.map_nil,iC,iK];refine af ?_;(repeat intro K hK);apply wr)
 all_goals ((refine cc (ht) ?_))
 all_goals ((refine af ?_);(repeat intro K hK);(apply wr))
 all_goals ((refine cc (hk) ?_))
 all_goals ((refine af ?_);(repeat intro K hK);(apply wr))
 all_goals ((refine cc (hd) ?_))
 all_goals ((refine af ?_);(repeat intro K hK);(apply wr))
 all_goals ((refine cc (hn) ?_))
 all_goals ((refine af ?_);(repeat intro K hK);(apply wr))
 all_goals ((refine cc (hb) ?_))
 all_goals ((refine af ?_);(repeat intro K hK);(apply wr))
 all_goals first
  | (refine hJ () _ (fun x=>if x=1 then 1 else x) trivial ⟨rfl,?_,?_,?_,?_⟩<;>(first|(simp[leT,ltV,lt1,ren,BE];done)|(simp[leO,lt1,BE];done)|fail))
  | (refine hJ () _ (fun x=>if x=1 then 2 else x) trivial ⟨rfl,?_,?_,?_,?_⟩<;>(first|(simp[leT,ltV,lt1,ren,BE];done)|(simp[leO,lt1,BE];done)|fail))
  | (refine hJ () _ (fun x=>if x=1 then 3 else x) trivial ⟨rfl,?_,?_,?_,?_⟩<;>(first|(simp[leT,ltV,lt1,ren,BE];done)|(simp[leO,lt1,BE];done)|fail))
  | (refine hJ () _ (fun x=>if x=1 then 4 else x) trivial ⟨rfl,?_,?_,?_,?_⟩<;>(first|(simp[leT,ltV,lt1,ren,BE];done)|(simp[leO,lt1,BE];done)|fail))
  | (refine hJ () _ (fun x=>if x=1 then 5 else x) trivial ⟨rfl,?_,?_,?_,?_⟩<;>(first|(simp[leT,ltV,lt1,ren,BE];done)|(simp[leO,lt1,BE];done)|fail))
  | (refine hJ () _ (fun x=>if x=1 then 6 else x) trivial ⟨rfl,?_,?_,?_,?_⟩<;>(first|(simp[leT,ltV,lt1,ren,BE];done)|(simp[leO,lt1,BE];done)|fail))
  | (refine hJ () _ (fun x=>if x=1 then 7 else x) trivial ⟨rfl,?_,?_,?_,?_⟩<;>(first|(simp[leT,ltV,lt1,ren,BE];done)|(simp[leO,lt1,BE];done)|fail))
theorem Dp{C D E G:Prop}(c:C)(d:D)(e:E)(t:C->D->E->G:=by intro c d e;(refine au1 e ?_;(repeat intro K hK);apply wr);repeat' ((first|(refine AB rfl (fun h=>?_) (fun h=>?_)<;>(first|(simp[e]at h;done)|(simp[e]at h)|skip)<;>(first|(exfalso;omega)|skip))|((first|refine .inl ⟨1,_,d.1,?_⟩|refine⟨1,_,d.1,?_⟩);simp[C0,Cd,noX,Cx,C9,e];first|refine And.intro AQ ?_|skip)|((first|refine .inl ⟨1,_,d.2.1,?_⟩|refine⟨1,_,d.2.1,?_⟩);simp[C0,Cd,noX,Cx,C9,e];first|refine And.intro AQ ?_|skip)|refine cc1 c.1 e ?_|refine cc1 c.2.1 e ?_|refine cc1 c.2.2.1 e ?_|refine cc1 c.2.2.2.1 e ?_|refine cc1 c.2.2.2.2.1 e ?_|refine cc1 c.2.2.2.2.2.1 e ?_|refine Aa 6 ?_|refine BD fun K hK=>?_|exact rt1 e|fail)<;>(refine au1 e ?_;(repeat intro K hK);apply wr))):G:=t c d e
theorem Pi(m:MchD):0<=Hn m/\Hn m<=31:=by
 have hb:∀b,0<=b2w b/\b2w b<=1:=fun b=>by cases b<;>simp[b2w]
 unfold Hn;have:=hb m.tim.fired;have:=hb (!decide (m.keys=[]));have:=hb (CL m.dk);have:=hb m.nc.received;have:=hb (Bf m.tgt m.given);omega
theorem enabled_ok(m:MchD)(hM:OkM m):AC prog 176 [.st m.row] (uv (enD m)):=by
 refine sZ func176 ntmps176 ?_
 (refine af1 @enD.eq_1 ?_;intros;apply wr)
 repeat' ((first|(refine AB rfl (fun h=>?_) (fun h=>?_)<;>(first|(simp[enD]at h;done)|(simp[enD]at h)|skip)<;>(first|(exfalso;omega)|skip))|refine cc1 (LO m hM) @enD.eq_1 ?_|(refine AD 8 [0,1,0,4,12,28,63,127] [(6,([[],[0],[],[2],[2,3],[2,3,4]],[(4,1),(5,1)])),(1,([],[])),(1,([],[]))] ?_)|exact rt1 @enD.eq_1|fail)<;>(refine af1 @enD.eq_1 ?_;intros;apply wr))
structure OkE(e:EffD):Prop where
 r:e.kind=1->0<=e.reg/\e.reg<=15
 v:W32 e.val
theorem OkM.wait{m:MchD}(h:OkM m)(b:Bool):OkM {m with waiting:=b}:=⟨h.c,h.w,h.n,h.k,h.t,h.d,h.r,h.tg,h.gv,h.ct⟩
theorem enD_w(m:MchD):W32 (enD m):=by unfold enD Bg;rw[IntKind.wrap_u32];constructor<;>omega
theorem OL(m:MchD)(hM:OkM m):AC prog 118 [.st m.row] (.bool (OK m)):=by
 refine sZ func118 ntmps118 ?_;exact wx1 (qX1 (enabled_ok m hM)) trivial @OK.eq_1
theorem VI(m:MchD)(hM:OkM m):AC prog 177 [.st m.row] (.bool (runsD m)):=by
 refine sZ func177 ntmps177 ?_;exact wx1 (qX2 (JQ m hM.gv.1 (by have:=hM.gv.2;omega)) (OL m hM)) trivial @runsD.eq_1
theorem iand8{x:Int}(h:W32 x):Bg .u32 x 8=x/8%2*8:=Fh x 3 h (by decide)
theorem iand16{x:Int}(h:W32 x):Bg .u32 x 16=x/16%2*16:=Fh x 4 h (by decide)
theorem PQ(m:MchD)(hM:OkM m):AC prog 178 [.st m.row] (.st (AL m).row):=by
 have c2:=b9 (hM.c.csr 0);have he:=enD_w m;by_cases q:m.cpu.csr 0/2%2=0
 ·have hE:AL m={m with waiting:=false}:=by unfold AL;rw[if_pos q]
  rw[hE];refine sZ func178 ntmps178 ?_;exact wx1 trivial trivial (kX2 @c2 @q)
 have i1:=Tm he;have i2:=b9 he;have i4:=iand4 he;have i8:=iand8 he;have i16:=iand16 he;have hen:AC prog 176 [.st ({m with waiting:=false}:MchD).row] (uv (enD m)):=enabled_ok {m with waiting:=false} (hM.wait false);have z:∀x:Int,¬x%2=1->x%2=0:=fun x hx=>by omega
 by_cases h0:enD m%2=1
 ·have hE:AL m={m with waiting:=false,cpu:=BP m.cpu (16+0) 0}:=by unfold AL SQ;rw[nG];simp[h0]
  rw[hE];refine sX func178 ntmps178 ?_;exact Dp (qX2 (hen) (EC m.cpu (16+0) 0 hM.c)) trivial (RQ @c2 @q @i1 @i2 @i4 @i8 @i16 @D5 @HZ @h0)
 have z0:=z _ h0;by_cases h1:enD m/2%2=1
 ·have hE:AL m={m with waiting:=false,cpu:=BP m.cpu (16+1) 0}:=by unfold AL SQ;rw[nG];simp[z0,h1]
  rw[hE];refine sX func178 ntmps178 ?_;exact Dp (qX2 (hen) (EC m.cpu (16+1) 0 hM.c)) trivial (SL @c2 @q @i1 @i2 @i4 @i8 @i16 @D5 @HZ @z0 @h1)
 have z1:=z _ h1;by_cases h2:enD m/4%2=1
 ·have hE:AL m={m with waiting:=false,cpu:=BP m.cpu (16+2) 0}:=by unfold AL SQ;rw[nG];simp[z0,z1,h2]
  rw[hE];refine sX func178 ntmps178 ?_;exact Dp (qX2 (hen) (EC m.cpu (16+2) 0 hM.c)) trivial (ZI @c2 @q @i1 @i2 @i4 @i8 @i16 @D5 @HZ @z0 @z1 @h2)
 have z2:=z _ h2;by_cases h3:enD m/8%2=1
 ·have hE:AL m={m with waiting:=false,cpu:=BP m.cpu (16+3) 0}:=by unfold AL SQ;rw[nG];simp[z0,z1,z2,h3]
  rw[hE];refine sX func178 ntmps178 ?_;exact Dp (qX2 (hen) (EC m.cpu (16+3) 0 hM.c)) trivial (kX13 @c2 @q @i1 @i2 @i4 @i8 @i16 @D5 @HZ @z0 @z1 @z2 @h3)
 have z3:=z _ h3;by_cases h4:enD m/16%2=1
 ·have hE:AL m={m with waiting:=false,cpu:=BP m.cpu (16+4) 0}:=by unfold AL SQ;rw[nG];simp[z0,z1,z2,z3,h4]
  rw[hE];refine sX func178 ntmps178 ?_;exact Dp (qX2 (hen) (EC m.cpu (16+4) 0 hM.c)) trivial (kX14 @c2 @q @i1 @i2 @i4 @i8 @i16 @D5 @HZ @z0 @z1 @z2 @z3 @h4)
 have z4:=z _ h4;have hE:AL m={m with waiting:=false}:=by unfold AL SQ;rw[nG];simp[z0,z1,z2,z3,z4]
 rw[hE];refine sX func178 ntmps178 ?_;exact Dp (qX1 (hen)) trivial (kX14 @c2 @q @i1 @i2 @i4 @i8 @i16 @D5 @HZ @z0 @z1 @z2 @z3 @z4)
theorem OkC.trap{c:CpuD}(h:OkC c){k b:Int}(hb:W32 b):OkC (BP c k b):=by
 have ht:=V3 (c.csr 0);refine⟨h.x,h.csr 1,fun i=>?_,by simpa[BP]using ht.2⟩;simp only[BP];split
 ·exact⟨ht.1,by omega⟩
 split
 ·exact h.pc
 split
 ·exact E6 _
 split
 ·exact hb
 exact h.csr i
theorem OkC.ret{c:CpuD}(h:OkC c):OkC (Om c):=by
 have ht:=Z4 (c.csr 0);refine⟨h.x,h.csr 2,fun i=>?_,by simpa[Om]using ht.2⟩;simp only[Om];split
 ·exact⟨ht.1,by omega⟩
 exact h.csr i
theorem Ns(m:MchD):(AL m).mem=m.mem:=by unfold AL;split;rfl;split<;>rfl
theorem Io{m:MchD}(hM:OkM m):OkC (AL m).cpu:=by
 unfold AL;split
 ·exact hM.c
 split
 ·exact hM.c
 exact hM.c.trap ⟨by decide,by decide⟩
theorem QL(m:MchD)(hM:OkM m):AC prog 119 [.st m.row] (.bool (readsD m)):=by
 have hx:=TQ (AL m).cpu m.mem (Io hM) hM.w (by have:=hM.n;omega);have hb:=PQ m hM;have hm:=Ns m;have hr:=VI m hM;cases hR:runsD m with
 | false =>
  have hE:readsD m=false:=by unfold readsD;rw[hR];rfl
  rw[hR]at hr;rw[hE];refine sZ func119 ntmps119 ?_;exact wx (qX1 (hr)) trivial
 | true =>
  have hE:readsD m=(decide ((GB m).kind=1)&&decide ((GB m).port=2)):=by unfold readsD;rw[hR];rfl
  rw[hR]at hr;rw[hE];have hF:GB m=(Az (AL m).cpu m.mem).2.2:=rfl;rw[hF];generalize AL m=b at *;generalize Az b.cpu m.mem=Z at *;refine sZ func119 ntmps119 ?_;exact wx1 (qX3 (hr) (hb) (hx)) trivial @hm
theorem Oj(m:MchD)(p k:Int)(hM:OkM m):AC prog 180 [.st m.row,iv p,uv k] (.tup [.st (AO m p k).1.row,uv (AO m p k).2]):=by
 refine sZ func180 ntmps180 ?_;exact wx1 (qX5 (W6 m.keys p hM.k) (Y4 m.tim) (W8 m.dk p) (XK m.nc p) (WQ m.tgt m.given p hM.gv)) trivial @AO.eq_1
theorem Tn(a b:Int):W32 (Bg .u32 a b):=by unfold Bg;rw[IntKind.wrap_u32];constructor<;>omega
theorem cD(a b:Int):W32 (ior .u32 a b):=by unfold ior;rw[IntKind.wrap_u32];constructor<;>omega
theorem ixor_w(a b:Int):W32 (Vp .u32 a b):=by unfold Vp;rw[IntKind.wrap_u32];constructor<;>omega
theorem OJ(a b:Int):W32 (Da .u32 a b):=by unfold Da;rw[IntKind.wrap_u32];constructor<;>omega
theorem aA(b:Bool):W32 (b2w b):=by cases b<;>(constructor<;>decide)
theorem Ax:W32 0:=⟨by decide,by decide⟩
theorem shr_w{a:Int}(h:W32 a)(n:Nat):W32 (a/2^n):=by
 have p:(0:Int)<2^n:=iM (by decide);refine⟨Int.ediv_nonneg h.1 (iJ p),Int.lt_of_le_of_lt (Int.ediv_le_self _ h.1) h.2⟩
theorem BC{α:Type}{P:α->Prop}{c:Prop}[Decidable c]{a b:α}(ha:c->P a)(hb:¬c->P b):P (if c then a else b):=by
 by_cases h:c
 ·rw[if_pos h];exact ha h
 rw[if_neg h];exact hb h
theorem fY{c:Prop}[Decidable c]{a b:Int}(ha:W32 a)(hb:W32 b):W32 (if c then a else b):=BC (P:=W32) (fun _=>ha) (fun _=>hb)
theorem H6{c:Prop}[Decidable c]{x:Int}{o:Option Int}(hx:W32 x)(ho:W32 (o.getD 0)):W32 ((if c then some x else o).getD 0):=BC (P:=fun z:Option Int=>W32 (z.getD 0)) (fun _=>hx) (fun _=>ho)
theorem alu_w{op a b:Int}(ha:W32 a):W32 ((SI op a b).getD 0):=by
 have hq:W32 (Jq a b):=fY ⟨by decide,by decide⟩ (E6 _);have hr:W32 (Jr a b):=fY ha (E6 _);unfold SI;exact H6 (E6 _) (H6 (E6 _) (H6 (Tn _ _) (H6 (cD _ _) (H6 (ixor_w _ _) (H6 (E6 _) (H6 (shr_w ha _) (H6 (E6 _) (H6 (E6 _) (H6 hq (H6 hr (H6 (aA _) (H6 (aA _) Ax))))))))))))
theorem OkC.setS{c:CpuD}(h:OkC c){k v:Int}(hv:W32 v)(h0:k=0->v<=31):OkC (c.setS k v):=by
 refine⟨h.x,h.pc,fun i=>?_,?_⟩
 ·simp only[CpuD.setS];split;exact hv;exact h.csr i
 simp only[CpuD.setS];split
 ·rename_i q;exact h0 (by simpa using q.symm)
 exact h.s
theorem OkC.write{c:CpuD}(h:OkC c){k v:Int}(hv:W32 v):OkC (Bs c k v):=by
 unfold Bs;split
 ·exact h.setS (Tn _ _) (fun _=>by rw[show Bg .u32 v 31=v%32 from AV v 5 32 (by omega) (by decide)];omega)
 split
 ·rename_i q;exact h.setS (Tn _ _) (fun z=>by omega)
 split
 ·exact h.setS (OJ _ _) (fun z=>by omega)
 split
 ·exact h.setS hv (fun z=>by omega)
 exact h
theorem OkC.execute{c:CpuD}(h:OkC c)(i:InstD):OkC (AE c i).1:=by
 have hz:∀b:Bool,W32 (if b=true then uw (c.pc+uw (4*uw i.imm))else uw (c.pc+4)):=fun b=>fY (E6 _) (E6 _);unfold AE;exact BC (P:=fun z:CpuD×EffD=>OkC z.1) (fun _=>(h.setR (E6 _)).setP (E6 _)) (fun _=>BC (P:=fun z:CpuD×EffD=>OkC z.1) (fun _=>h.setP (hz _)) (fun _=>BC (P:=fun z:CpuD×EffD=>OkC z.1) (fun _=>(h.setR (E6 _)).setP (E6 _)) (fun _=>BC (P:=fun z:CpuD×EffD=>OkC z.1) (fun _=>(h.setR (E6 _)).setP (E6 _)) (fun _=>BC (P:=fun z:CpuD×EffD=>OkC z.1) (fun _=>h.trap Ax) (fun _=>BC (P:=fun z:CpuD×EffD=>OkC z.1) (fun _=>h.ret) (fun _=>BC (P:=fun z:CpuD×EffD=>OkC z.1) (fun _=>(h.setR (h.csr _)).setP (E6 _)) (fun _=>BC (P:=fun z:CpuD×EffD=>OkC z.1) (fun _=>(h.write (h.x _)).setP (E6 _)) (fun _=>BC (P:=fun z:CpuD×EffD=>OkC z.1) (fun _=>h.setP (E6 _)) (fun _=>BC (P:=fun z:CpuD×EffD=>OkC z.1) (fun _=>h.setP (E6 _)) (fun _=>BC (P:=fun z:CpuD×EffD=>OkC z.1) (fun _=>h.setP (E6 _)) (fun _=>BC (P:=fun z:CpuD×EffD=>OkC z.1) (fun _=>h.setP (E6 _)) (fun _=>BC (P:=fun z:CpuD×EffD=>OkC z.1) (fun _=>h.setP (E6 _)) (fun _=>(h.setR (alu_w (h.x _))).setP (E6 _))))))))))))))
theorem OkE.execute{c:CpuD}(h:OkC c)(i:InstD)(hi:OkI i):OkE (AE c i).2:=by
 have hz:OkE BB:=⟨fun q=>by simp[BB]at q,Ax⟩;have h1:OkE ⟨1,i.imm,i.a,0⟩:=⟨fun _=>⟨hi.a0,hi.a1⟩,Ax⟩;have h2:OkE ⟨2,i.imm,0,c.x i.a.toNat⟩:=⟨fun q=>by simp at q,h.x _⟩;have h3:∀k:Int,k≠1->OkE ⟨k,0,0,0⟩:=fun k hk=>⟨fun q=>absurd q hk,Ax⟩;unfold AE;exact BC (P:=fun z:CpuD×EffD=>OkE z.2) (fun _=>hz) (fun _=>BC (P:=fun z:CpuD×EffD=>OkE z.2) (fun _=>hz) (fun _=>BC (P:=fun z:CpuD×EffD=>OkE z.2) (fun _=>hz) (fun _=>BC (P:=fun z:CpuD×EffD=>OkE z.2) (fun _=>hz) (fun _=>BC (P:=fun z:CpuD×EffD=>OkE z.2) (fun _=>hz) (fun _=>BC (P:=fun z:CpuD×EffD=>OkE z.2) (fun _=>hz) (fun _=>BC (P:=fun z:CpuD×EffD=>OkE z.2) (fun _=>hz) (fun _=>BC (P:=fun z:CpuD×EffD=>OkE z.2) (fun _=>hz) (fun _=>BC (P:=fun z:CpuD×EffD=>OkE z.2) (fun _=>h1) (fun _=>BC (P:=fun z:CpuD×EffD=>OkE z.2) (fun _=>h2) (fun _=>BC (P:=fun z:CpuD×EffD=>OkE z.2) (fun _=>h3 _ (by decide)) (fun _=>BC (P:=fun z:CpuD×EffD=>OkE z.2) (fun _=>h3 _ (by decide)) (fun _=>BC (P:=fun z:CpuD×EffD=>OkE z.2) (fun _=>h3 _ (by decide)) (fun _=>hz)))))))))))))
theorem cH{l:List Int}(h:OkW l)(a s:Int):W32 (Bw l a s):=by
 unfold Bw;split
 ·have:=Fa (wAt l (a/4)) (a%4);exact⟨by omega,by omega⟩
 exact PD h _
theorem fA{v:Int}(h:0<=v/\v<256):W32 (GH v):=by unfold GH;split<;>(constructor<;>omega)
theorem load_c{c:CpuD}{l:List Int}{i:InstD}(h:OkC c)(hl:OkW l):OkC (Af c l i).1:=by
 unfold Af;have hw:=CG (c:=c) (va:=uw (c.x i.b.toNat+uw i.imm)) (s:=AY i.op) (acc:=2) hl;generalize AG c l (uw (c.x i.b.toNat+uw i.imm)) (AY i.op) 2=R at *;obtain⟨a,m,k⟩:=R;simp only;split
 ·exact h.trap (E6 _)
 refine(h.setR ?_).setP (E6 _);split
 ·rename_i q;exact fA (by rw[show AY i.op=1 by rw[q];rfl];exact Fa _ _)
 exact cH hw _ _
theorem ZL{c:CpuD}{l:List Int}{i:InstD}(hl:OkW l):OkW (Af c l i).2/\(Af c l i).2.length=l.length:=by
 unfold Af;have hw:=CG (c:=c) (va:=uw (c.x i.b.toNat+uw i.imm)) (s:=AY i.op) (acc:=2) hl;have hn:=BO c l (uw (c.x i.b.toNat+uw i.imm)) (AY i.op) 2;generalize AG c l (uw (c.x i.b.toNat+uw i.imm)) (AY i.op) 2=R at *;obtain⟨a,m,k⟩:=R;simp only;split<;>exact⟨hw,hn⟩
theorem fJ{c:CpuD}{l:List Int}{i:InstD}(h:OkC c):OkC (AX c l i).1:=by
 unfold AX;generalize AG c l (uw (c.x i.b.toNat+uw i.imm)) (AY i.op) 3=R;obtain⟨a,m,k⟩:=R;simp only;split
 ·exact h.trap (E6 _)
 exact h.setP (E6 _)
theorem Q7{l:List Int}(hl:OkW l)(a s:Int){v:Int}(hv:W32 v):OkW (Ca l a s v):=by
 unfold Ca;refine eZ hl ?_;split
 ·exact putB_w (PD hl _) (by omega)
 exact hv
theorem VT{c:CpuD}{l:List Int}{i:InstD}(h:OkC c)(hl:OkW l):OkW (AX c l i).2/\(AX c l i).2.length=l.length:=by
 unfold AX;have hw:=CG (c:=c) (va:=uw (c.x i.b.toNat+uw i.imm)) (s:=AY i.op) (acc:=3) hl;have hn:=BO c l (uw (c.x i.b.toNat+uw i.imm)) (AY i.op) 3;generalize AG c l (uw (c.x i.b.toNat+uw i.imm)) (AY i.op) 3=R at *;obtain⟨a,m,k⟩:=R;simp only;split
 ·exact⟨hw,hn⟩
 exact⟨Q7 hw _ _ (h.x _),by simp[Ca];exact hn⟩
theorem gJ{c:CpuD}{l:List Int}(h:OkC c)(hl:OkW l){w:Int}(hw:W32 w):OkC (CY c l w).1/\OkW (CY c l w).2.1/\(CY c l w).2.1.length=l.length/\OkE (CY c l w).2.2:=by
 have hz:OkE BB:=⟨fun q=>by simp[BB]at q,Ax⟩;unfold CY;split
 ·exact⟨h.trap hw,hl,rfl,hz⟩
 rename_i hv;split
 ·exact⟨h.trap hw,hl,rfl,hz⟩
 split
 ·exact⟨load_c h hl,(ZL hl).1,(ZL hl).2,hz⟩
 split
 ·exact⟨fJ h,(VT h hl).1,(VT h hl).2,hz⟩
 exact⟨h.execute _,hl,rfl,OkE.execute h _ (CJ (by simpa using hv))⟩
theorem ZB{c:CpuD}{l:List Int}(h:OkC c)(hl:OkW l):OkC (Az c l).1/\OkW (Az c l).2.1/\(Az c l).2.1.length=l.length/\OkE (Az c l).2.2:=by
 have hz:OkE BB:=⟨fun q=>by simp[BB]at q,Ax⟩;unfold Az;have hw:=CG (c:=c) (va:=c.pc) (s:=4) (acc:=1) hl;have hn:=BO c l c.pc 4 1;generalize AG c l c.pc 4 1=R at *;obtain⟨a,m,k⟩:=R;simp only;split
 ·exact⟨h.trap h.pc,hw,hn,hz⟩
 obtain⟨a1,a2,a3,a4⟩:=gJ h hw (PD hw (a/4));exact⟨a1,a2,a3.trans hn,a4⟩
theorem MI{m:MchD}(h:OkM m):OkM (AL m):=by
 have hc:=Io h;unfold AL at *;split
 ·exact h.wait false
 split
 ·exact h.wait false
 rename_i q _ _ hl;rw[if_neg q,hl]at hc;exact⟨hc,h.w,h.n,h.k,h.t,h.d,h.r,h.tg,h.gv,h.ct⟩
theorem IP{m:MchD}(h:OkM m):OkM (CM m)/\OkE (GB m):=by
 have hb:=MI h;obtain⟨a1,a2,a3,a4⟩:=ZB hb.c h.w;exact⟨⟨a1,a2,by show(Az (AL m).cpu m.mem).2.1.length<=1024;rw[a3];exact h.n,hb.k,hb.t,hb.d,hb.r,hb.tg,hb.gv,hb.ct⟩,a4⟩
theorem Rn{m:MchD}(h:OkM m)(p:Int){k:Int}(hk:W32 k):OkM (AO m p k).1/\W32 (AO m p k).2:=by
 have hlen:(m.keys.length:Int)<4294967296:=by have:=h.k;omega
 have hkey:W32 (cF m.keys):=by
  unfold cF;split
  ·exact⟨by decide,by decide⟩
  rename_i b _ _;have:=b.toNat_lt;exact⟨by omega,by omega⟩
 unfold AO;split
 ·unfold Ed;split
  ·exact⟨⟨h.c,h.w,h.n,by simp only[List.length_tail];have:=h.k;omega,h.t,h.d,h.r,h.tg,h.gv,h.ct⟩,hkey⟩
  split
  ·exact⟨h,⟨by omega,hlen⟩⟩
  exact⟨h,Ax⟩
 split
 ·exact⟨h,hk⟩
 split
 ·exact⟨h,aA _⟩
 split
 ·refine⟨h,?_⟩;unfold OB
  repeat' split
  ·exact h.d.b
  ·exact h.d.c
  ·exact E6 _
  exact Ax
 split
 ·refine⟨h,?_⟩;unfold OX
  repeat' split
  ·exact h.r.a
  ·exact h.r.d
  ·show W32 (b2w m.nc.posted+b2w m.nc.received*2);cases m.nc.posted<;>cases m.nc.received<;>exact⟨by decide,by decide⟩
  exact Ax
 split
 ·refine⟨h,?_⟩;unfold MG
  repeat' split
  ·exact h.tg
  ·have:=Ee h.gv;exact⟨by omega,by omega⟩
  exact Ax
 exact⟨h,Ax⟩
theorem gC(s:Str)(i:Nat):W32 (E8 s i):=by
 unfold E8;have:=(s.getD (4*i) 0).toNat_lt;have:=(s.getD (4*i+1) 0).toNat_lt;have:=(s.getD (4*i+2) 0).toNat_lt;have:=(s.getD (4*i+3) 0).toNat_lt;constructor<;>omega
theorem ZV{l:List Int}(h:OkW l)(o:Nat)(s:Str):∀n,OkW (Hx l o s n)
 | 0=>h
 | n+1=>eZ (ZV h o s n) (gC s n)
theorem Ja{l:List Int}(h:OkW l)(f:Int)(s:Str):OkW (Br l f s):=ZV h _ s 32
theorem GY(l:List Int)(f:Int)(s:Str):(Br l f s).length=l.length:=Gw _ _ _ _
theorem OkD.out{d:DskD}(h:OkD d)(l:List Int)(p:Int){v:Int}(hv:W32 v)(t:Int):OkD (Ak d l p v t).1:=by
 obtain⟨ha,hb,hc,he,hf⟩:=h;unfold Ak Am
 repeat' split
 all_goals exact⟨by first|exact ha|exact hv,by first|exact hb|exact hv,by first|exact hc|exact hv,by first|exact he|exact hb,by first|exact hf|exact hc⟩
theorem OkN.out{n:NicD}(h:OkN n)(l:List Int)(p:Int){v:Int}(hv:W32 v)(t:Int):OkN (AZ n l p v t).1:=by
 obtain⟨ha,hb,hc,hd⟩:=h;unfold AZ
 repeat' split
 all_goals first
  | exact⟨ha,hb,hc,hd⟩
  | exact⟨hv,hb,hc,hd⟩
  | exact⟨ha,hv,hc,hd⟩
  | exact⟨ha,hb,ha,hd⟩
  | exact⟨ha,hb,hc,Ax⟩
  | (simp only[];split<;>first|exact⟨ha,hb,hc,hd⟩|exact⟨ha,hb,ha,hd⟩)
theorem Ym{g:Int}{l:List Int}(hg:W32 g)(hl:OkW l)(p v:Int):W32 (Aj g l p v).1/\OkW (Aj g l p v).2/\(Aj g l p v).2.length=l.length:=by
 have h1:=Ja hl v Cj;have h2:=GY l v Cj;unfold Aj;generalize Br l v Cj=S at *;have h0:W32 g/\OkW l/\l.length=l.length:=⟨hg,hl,rfl⟩;exact BC (P:=fun z:Int×List Int=>W32 z.1/\OkW z.2/\z.2.length=l.length) (fun _=>h0) (fun _=>BC (P:=fun z:Int×List Int=>W32 z.1/\OkW z.2/\z.2.length=l.length) (fun _=>BC (P:=fun z:Int×List Int=>W32 z.1/\OkW z.2/\z.2.length=l.length) (fun _=>⟨cD _ _,h1,h2⟩) (fun _=>h0)) (fun _=>BC (P:=fun z:Int×List Int=>W32 z.1/\OkW z.2/\z.2.length=l.length) (fun _=>⟨OJ _ _,hl,rfl⟩) (fun _=>h0)))
theorem PL{m:MchD}(h:OkM m)(p:Int){v:Int}(hv:W32 v)(t:Int):OkM (AH m p v t).1:=by
 unfold AH;split
 ·exact h
 split
 ·exact⟨h.c,h.w,h.n,h.k,hv,h.d,h.r,h.tg,h.gv,h.ct⟩
 split
 ·exact⟨h.c,h.w,h.n,h.k,h.t,h.d.out _ _ hv _,h.r,h.tg,h.gv,h.ct⟩
 split
 ·exact⟨h.c,h.w,h.n,h.k,h.t,h.d,h.r.out _ _ hv _,h.tg,h.gv,h.ct⟩
 split
 ·obtain⟨a1,a2,a3⟩:=Ym h.gv h.w p v;exact⟨h.c,a2,by show(Aj m.given m.mem p v).2.length<=1024;rw[a3];exact h.n,h.k,h.t,h.d,h.r,h.tg,a1,h.ct⟩
 exact h
theorem done_m{m:MchD}{e:EffD}(h:OkM m)(he:OkE e){k:Int}(hk:W32 k)(t:Int):OkM (BZ m e k t).1:=by
 unfold BZ;split
 ·obtain⟨a1,a2⟩:=Rn h e.port hk;exact⟨a1.c.setR a2,a1.w,a1.n,a1.k,a1.t,a1.d,a1.r,a1.tg,a1.gv,a1.ct⟩
 split
 ·exact PL h _ he.v _
 split
 ·exact h.wait true
 split
 ·exact⟨h.c,h.w,h.n,h.k,h.t,h.d,h.r,h.tg,h.gv,h.ct⟩
 exact h
theorem Fc(m:MchD)(e:EffD)(k t:Int):(BZ m e k t).1.count=m.count:=by
 have h1:(AO m e.port k).1.count=m.count:=by unfold AO;(repeat' split)<;>rfl
 have h2:(AH m e.port e.val t).1.count=m.count:=by unfold AH;(repeat' split)<;>rfl
 unfold BZ
 repeat' split
 all_goals first|exact h1|exact h2|rfl
theorem Eb(m:MchD):(CM m).count=m.count:=by
 show(AL m).count=m.count;unfold AL;split;rfl;split<;>rfl
theorem Ml{m:MchD}(h:OkM m)(hr:runsD m=true){k:Int}(hk:W32 k):OkM (goD m k).1/\(goD m k).1.count=m.count+1:=by
 have hc:m.count<1152921504606846976:=by unfold runsD at hr;simp at hr;exact hr.2
 obtain⟨a1,a2⟩:=IP h;have hd:=done_m a1 a2 hk m.count;have hq:=Fc (CM m) (GB m) k m.count;rw[Eb]at hq;unfold goD;refine⟨⟨hd.c,hd.w,hd.n,hd.k,hd.t,hd.d,hd.r,hd.tg,hd.gv,?_⟩,by show _+1=_;rw[hq]⟩;show 0<=_+1/\_+1<_;rw[hq];have:=h.ct;omega
theorem VR{m:MchD}(h:OkM m){k:Int}(hk:W32 k):OkM (stepD m k).1:=by
 unfold stepD;split
 ·rename_i q;exact(Ml h q hk).1
 exact h
theorem OkD.complete{d:DskD}(h:OkD d)(l:List Int)(e:EvD):OkD (AI d l e).1:=by
 obtain⟨ha,hb,hc,he,hf⟩:=h;unfold AI doneD
 repeat' split
 all_goals first|exact⟨ha,hb,hc,he,hf⟩|exact⟨ha,hb,hc,Ax,Ax⟩
theorem KR{d:DskD}{l:List Int}(hl:OkW l)(e:EvD):OkW (AI d l e).2.1/\(AI d l e).2.1.length=l.length:=by
 have h1:=Ja hl d.opFrame e.data;have h2:=GY l d.opFrame e.data;unfold AI;generalize Br l d.opFrame e.data=S at *;have h0:OkW l/\l.length=l.length:=⟨hl,rfl⟩;exact BC (P:=fun z:DskD×List Int×Bool=>OkW z.2.1/\z.2.1.length=l.length) (fun _=>h0) (fun _=>BC (P:=fun z:DskD×List Int×Bool=>OkW z.2.1/\z.2.1.length=l.length) (fun _=>BC (P:=fun z:DskD×List Int×Bool=>OkW z.2.1/\z.2.1.length=l.length) (fun _=>⟨h1,h2⟩) (fun _=>h0)) (fun _=>BC (P:=fun z:DskD×List Int×Bool=>OkW z.2.1/\z.2.1.length=l.length) (fun _=>h0) (fun _=>h0)))
theorem ZX{n:NicD}{l:List Int}(hn:OkN n)(hl:OkW l)(s:Str):OkN (Ah n l s).1/\OkW (Ah n l s).2.1/\(Ah n l s).2.1.length=l.length:=by
 have h1:=Ja hl n.buffer (s++(Bh l n.buffer).drop s.length);have h2:=GY l n.buffer (s++(Bh l n.buffer).drop s.length);unfold Ah;generalize Br l n.buffer (s++(Bh l n.buffer).drop s.length)=S at *;obtain⟨ha,hb,hc,hd⟩:=hn;refine BC (P:=fun z:NicD×List Int×Bool=>OkN z.1/\OkW z.2.1/\z.2.1.length=l.length) (fun q=>?_) (fun _=>⟨⟨ha,hb,hc,hd⟩,hl,rfl⟩);obtain⟨q1,q2,q3,q4⟩:=q;exact⟨⟨ha,hb,Ax,⟨by show(0:Int)<=(s.length:Int);omega,by show(s.length:Int)<4294967296;omega⟩⟩,h1,h2⟩
theorem DX{m:MchD}(h:OkM m){e:EvD}(he:W32 e.n):OkM (applyD m e).1/\(applyD m e).1.count=m.count:=by
 unfold applyD;split
 ·exact⟨h,rfl⟩
 split
 ·split
  ·refine⟨⟨h.c,h.w,h.n,h.k,?_,h.d,h.r,h.tg,h.gv,h.ct⟩,rfl⟩;unfold FG;split<;>exact h.t
  exact⟨h,rfl⟩
 split
 ·split
  ·refine⟨⟨h.c,h.w,h.n,?_,h.t,h.d,h.r,h.tg,h.gv,h.ct⟩,rfl⟩;unfold FZ;split
   ·exact h.k
   simp;omega
  exact⟨h,rfl⟩
 split
 ·obtain⟨a1,a2⟩:=KR (d:=m.dk) h.w e;exact⟨⟨h.c,a1,by show(AI m.dk m.mem e).2.1.length<=1024;rw[a2];exact h.n,h.k,h.t,h.d.complete _ _,h.r,h.tg,h.gv,h.ct⟩,rfl⟩
 split
 ·split
  ·obtain⟨a1,a2,a3⟩:=ZX h.r h.w e.data;exact⟨⟨h.c,a2,by show(Ah m.nc m.mem e.data).2.1.length<=1024;rw[a3];exact h.n,h.k,h.t,h.d,a1,h.tg,h.gv,h.ct⟩,rfl⟩
  exact⟨h,rfl⟩
 split
 ·split
  ·exact⟨⟨h.c,h.w,h.n,h.k,h.t,h.d,h.r,he,h.gv,h.ct⟩,rfl⟩
  exact⟨h,rfl⟩
 exact⟨h,rfl⟩
end Go.Proofs.YtjkmhmepljamoaaGreat
end
