/- A part of the proof of ReplicaHalts. -/
import Derived.Test.YthjpcmecgjfilaaGreatH18
import Derived.Test.YthjpcmecgjfilaaGreatH20
set_option linter.unusedSimpArgs false
set_option linter.unusedVariables false
set_option maxHeartbeats 16000000
set_option maxRecDepth 100000
section
namespace Go.Proofs.YthjpcmecgjfilaaGreat
open Go.Ab Go.RowKit Tryz
structure OkD (d:DskD):Prop where
 a:W32 d.blocks
 b:W32 d.block
 c:W32 d.frame
 e:W32 d.opBlock
 f:W32 d.opFrame
structure OkN (n:NicD):Prop where
 a:W32 n.frame
 b:W32 n.len
 c:W32 n.buffer
 d:W32 n.got
structure OkM (m:MchD):Prop where
 c:OkC m.cpu
 w:OkW m.mem
 n:m.mem.length<=1024
 k:m.keys.length<=1000
 t:W32 m.tim.dl
 d:OkD m.dk
 r:OkN m.nc
 tg:W32 m.tgt
 gv:W32 m.given
 ct:0<=m.count/\m.count<2000000000000000000
theorem zIf (m:MchD) (hM:OkM m):zAD prog 232 [.st m.row] (uv (zFg m)):=by
 have hb:=zM8 m.tgt m.given hM.gv;have ht:=zNu m.tim;have hk:=zND m.keys;have hd:=zHw m.dk;have hn:=zNb m.nc;have hE:zFg m=b2w m.tim.fired+b2w (!decide (m.keys=[]))*2+b2w (zBi m.dk)*4+b2w m.nc.received*8+b2w (zA8 m.tgt m.given)*16:=rfl;rw [hE];generalize zA8 m.tgt m.given=p4 at *
 generalize zBi m.dk=p2 at *
 generalize (!decide (m.keys=[]))=p1 at *
 refine sX func232 ntmps232 ?_;(repeat intro K hK);apply wr
 refine zB1 (α:=Unit) (fun _=>(⟨35,[(3,.ptr 1 5 0 0),(2,uv 0)],2,[(1,some ⟨402,5,true,false,[[.bool m.tim.fired,.bool p1,.bool p2,.bool m.nc.received,.bool p4]]⟩)],0⟩:St)) (fun _=>True) hK (fun _ hxhJ=>?_) (fun hJ=>?_)
 all_goals clear hK
 ·obtain ⟨p0,hp0⟩:∃ p0,p0=m.tim.fired:=⟨_,rfl⟩;obtain ⟨p3,hp3⟩:∃ p3,p3=m.nc.received:=⟨_,rfl⟩;rw [<- hp0,<- hp3];clear hp0 hp3
  (refine af1 (kX4 @b2w.eq_1 @ior.eq_1 @u32c @i64c) ?_;(repeat intro K hK);apply wr)
  repeat' ((first|(refine zAC rfl (fun h=>?_) (fun h=>?_)<;>(first|(simp [b2w,ior,u32c,i64c] at h;done)|(simp [b2w,ior,u32c,i64c] at h)|skip)<;>(first|(exfalso;omega)|skip))|refine zAX 6 ?_|refine zAk fun K hK=>?_|(refine zCJ (.node 2 16 (.node 5 16 (.node 8 16 (.node 11 16 (.node 14 16 (.leaf [0,1,2,3,4,5,6,7,8,9,10,11,12,13,14,15,16,17] (bN [0,1,3,0,8,31,0,64,255,0,512,2047,0,4096,16383,32767,32767,131071]) [(14,([[],[0],[0,1],[],[3],[0,1,2,3,4],[],[6],[0,1,2,3,4,5,6,7],[],[9],[0,1,2,3,4,5,6,7,8,9,10],[],[12]],[(4,2),(7,2),(7,5),(10,2),(10,5),(10,8),(13,2),(13,5),(13,8),(13,11)])),(1,([],[])),(2,([[],[]],[])),(1,([],[]))]) (.leaf [0,1,2,3,4,5,6,7,8,9,10,11,12,13,16,14,15,17] (bN [0,1,3,0,8,31,0,64,255,0,512,2047,0,4096,4095,32767,65535,131071]) [(15,([[],[0],[0,1],[],[3],[0,1,2,3,4],[],[6],[0,1,2,3,4,5,6,7],[],[9],[0,1,2,3,4,5,6,7,8,9,10],[],[12],[0,1,2,3,4,5,6,7,8,9,10,11]],[(4,2),(7,2),(7,5),(10,2),(10,5),(10,8),(13,2),(13,5),(13,8),(13,11),(13,14)])),(1,([],[])),(1,([],[])),(1,([],[]))])) (.leaf [0,1,2,3,4,5,6,7,8,9,10,12,13,16,11,14,15,17] (bN [0,1,3,0,8,31,0,64,255,0,512,0,2048,511,10239,32767,65535,131071]) [(15,([[],[0],[0,1],[],[3],[0,1,2,3,4],[],[6],[0,1,2,3,4,5,6,7],[],[9],[],[11],[0,1,2,3,4,5,6,7,8],[0,1,2,3,4,5,6,7,8,9,10,13]],[(4,2),(7,2),(7,5),(10,2),(10,5),(10,8),(10,13),(12,2),(12,5),(12,8),(12,13),(12,14)])),(1,([],[])),(1,([],[])),(1,([],[]))])) (.leaf [0,1,2,3,4,5,6,7,9,10,12,13,16,8,11,14,15,17] (bN [0,1,3,0,8,31,0,64,0,256,0,1024,63,4351,13311,32767,65535,131071]) [(15,([[],[0],[0,1],[],[3],[0,1,2,3,4],[],[6],[],[8],[],[10],[0,1,2,3,4,5],[0,1,2,3,4,5,6,7,12],[0,1,2,3,4,5,6,7,8,9,12,13]],[(4,2),(7,2),(7,5),(7,12),(9,2),(9,5),(9,12),(9,13),(11,2),(11,5),(11,12),(11,13),(11,14)])),(1,([],[])),(1,([],[])),(1,([],[]))])) (.leaf [0,1,2,3,4,6,7,9,10,12,13,16,5,8,11,14,15,17] (bN [0,1,3,0,8,0,32,0,128,0,512,7,2079,6271,14847,32767,65535,131071]) [(15,([[],[0],[0,1],[],[3],[],[5],[],[7],[],[9],[0,1,2],[0,1,2,3,4,11],[0,1,2,3,4,5,6,11,12],[0,1,2,3,4,5,6,7,8,11,12,13]],[(4,2),(4,11),(6,2),(6,11),(6,12),(8,2),(8,11),(8,12),(8,13),(10,2),(10,11),(10,12),(10,13),(10,14)])),(1,([],[])),(1,([],[])),(1,([],[]))])) (.leaf [0,1,3,4,6,7,9,10,12,13,16,2,5,8,11,14,15,17] (bN [0,1,0,4,0,16,0,64,0,256,0,1027,3087,7231,15615,32767,65535,131071]) [(15,([[],[0],[],[2],[],[4],[],[6],[],[8],[],[0,1,10],[0,1,2,3,10,11],[0,1,2,3,4,5,10,11,12],[0,1,2,3,4,5,6,7,10,11,12,13]],[(1,10),(3,10),(3,11),(5,10),(5,11),(5,12),(7,10),(7,11),(7,12),(7,13),(9,10),(9,11),(9,12),(9,13),(9,14)])),(1,([],[])),(1,([],[])),(1,([],[]))])) (by kernel_rfl) (by kernel_rfl) ?_;simp only [PT.run];repeat' (with_reducible apply And.intro);all_goals (simp only [zCO,zWP,List.map_nil,zWN,List.getD_cons_succ]))|exact rt1 (kX4 @b2w.eq_1 @ior.eq_1 @u32c @i64c)|fail)<;>(refine af1 (kX4 @b2w.eq_1 @ior.eq_1 @u32c @i64c) ?_;(repeat intro K hK);apply wr))
 refine zCJ (.node 2 16 (.node 5 16 (.node 8 16 (.node 11 16 (.node 14 16 (.leaf [0,1,2,3,4,5,6,7,8,9,10,11,12,13,14,15,16,17] (bN [0,1,3,0,8,31,0,64,255,0,512,2047,0,4096,16383,32767,32767,131071]) [(14,([[],[0],[0,1],[],[3],[0,1,2,3,4],[],[6],[0,1,2,3,4,5,6,7],[],[9],[0,1,2,3,4,5,6,7,8,9,10],[],[12]],[(4,2),(7,2),(7,5),(10,2),(10,5),(10,8),(13,2),(13,5),(13,8),(13,11)])),(1,([],[])),(2,([[],[]],[])),(1,([],[]))]) (.leaf [0,1,2,3,4,5,6,7,8,9,10,11,12,13,16,14,15,17] (bN [0,1,3,0,8,31,0,64,255,0,512,2047,0,4096,4095,32767,65535,131071]) [(15,([[],[0],[0,1],[],[3],[0,1,2,3,4],[],[6],[0,1,2,3,4,5,6,7],[],[9],[0,1,2,3,4,5,6,7,8,9,10],[],[12],[0,1,2,3,4,5,6,7,8,9,10,11]],[(4,2),(7,2),(7,5),(10,2),(10,5),(10,8),(13,2),(13,5),(13,8),(13,11),(13,14)])),(1,([],[])),(1,([],[])),(1,([],[]))])) (.leaf [0,1,2,3,4,5,6,7,8,9,10,12,13,16,11,14,15,17] (bN [0,1,3,0,8,31,0,64,255,0,512,0,2048,511,10239,32767,65535,131071]) [(15,([[],[0],[0,1],[],[3],[0,1,2,3,4],[],[6],[0,1,2,3,4,5,6,7],[],[9],[],[11],[0,1,2,3,4,5,6,7,8],[0,1,2,3,4,5,6,7,8,9,10,13]],[(4,2),(7,2),(7,5),(10,2),(10,5),(10,8),(10,13),(12,2),(12,5),(12,8),(12,13),(12,14)])),(1,([],[])),(1,([],[])),(1,([],[]))])) (.leaf [0,1,2,3,4,5,6,7,9,10,12,13,16,8,11,14,15,17] (bN [0,1,3,0,8,31,0,64,0,256,0,1024,63,4351,13311,32767,65535,131071]) [(15,([[],[0],[0,1],[],[3],[0,1,2,3,4],[],[6],[],[8],[],[10],[0,1,2,3,4,5],[0,1,2,3,4,5,6,7,12],[0,1,2,3,4,5,6,7,8,9,12,13]],[(4,2),(7,2),(7,5),(7,12),(9,2),(9,5),(9,12),(9,13),(11,2),(11,5),(11,12),(11,13),(11,14)])),(1,([],[])),(1,([],[])),(1,([],[]))])) (.leaf [0,1,2,3,4,6,7,9,10,12,13,16,5,8,11,14,15,17] (bN [0,1,3,0,8,0,32,0,128,0,512,7,2079,6271,14847,32767,65535,131071]) [(15,([[],[0],[0,1],[],[3],[],[5],[],[7],[],[9],[0,1,2],[0,1,2,3,4,11],[0,1,2,3,4,5,6,11,12],[0,1,2,3,4,5,6,7,8,11,12,13]],[(4,2),(4,11),(6,2),(6,11),(6,12),(8,2),(8,11),(8,12),(8,13),(10,2),(10,11),(10,12),(10,13),(10,14)])),(1,([],[])),(1,([],[])),(1,([],[]))])) (.leaf [0,1,3,4,6,7,9,10,12,13,16,2,5,8,11,14,15,17] (bN [0,1,0,4,0,16,0,64,0,256,0,1027,3087,7231,15615,32767,65535,131071]) [(15,([[],[0],[],[2],[],[4],[],[6],[],[8],[],[0,1,10],[0,1,2,3,10,11],[0,1,2,3,4,5,10,11,12],[0,1,2,3,4,5,6,7,10,11,12,13]],[(1,10),(3,10),(3,11),(5,10),(5,11),(5,12),(7,10),(7,11),(7,12),(7,13),(9,10),(9,11),(9,12),(9,13),(9,14)])),(1,([],[])),(1,([],[])),(1,([],[]))])) (by kernel_rfl) (by kernel_rfl) ?_
 simp only [PT.run]
 repeat' (with_reducible apply And.intro)
 all_goals (simp only [zCO,zWP,List.map_nil,zWN,List.getD_cons_succ];refine af ?_;(repeat intro K hK);apply wr)
 all_goals ((refine cc (ht) ?_))
 all_goals ((refine af ?_);(repeat intro K hK);(apply wr))
 all_goals ((refine cc (hk) ?_))
 all_goals ((refine af ?_);(repeat intro K hK);(apply wr))
 all_goals ((refine cc (hd) ?_))
 all_goals ((refine af ?_);(repeat intro K hK);(apply wr))
 all_goals ((refine cc (hn) ?_))
 all_goals ((refine af ?_);(repeat intro K hK);(apply wr))
 all_goals ((refine cc (hb) ?_))
 all_goals ((refine af ?_);(repeat intro K hK);(apply wr))
 all_goals first
  | (refine hJ () _ (fun x=>if x=1 then 1 else x) trivial ⟨rfl,?_,?_,?_,?_⟩<;>(first|(simp [leT,ltV,lt1,ren,ren1];done)|(simp [leO,lt1,ren1];done)|fail))
  | (refine hJ () _ (fun x=>if x=1 then 2 else x) trivial ⟨rfl,?_,?_,?_,?_⟩<;>(first|(simp [leT,ltV,lt1,ren,ren1];done)|(simp [leO,lt1,ren1];done)|fail))
  | (refine hJ () _ (fun x=>if x=1 then 3 else x) trivial ⟨rfl,?_,?_,?_,?_⟩<;>(first|(simp [leT,ltV,lt1,ren,ren1];done)|(simp [leO,lt1,ren1];done)|fail))
  | (refine hJ () _ (fun x=>if x=1 then 4 else x) trivial ⟨rfl,?_,?_,?_,?_⟩<;>(first|(simp [leT,ltV,lt1,ren,ren1];done)|(simp [leO,lt1,ren1];done)|fail))
  | (refine hJ () _ (fun x=>if x=1 then 5 else x) trivial ⟨rfl,?_,?_,?_,?_⟩<;>(first|(simp [leT,ltV,lt1,ren,ren1];done)|(simp [leO,lt1,ren1];done)|fail))
  | (refine hJ () _ (fun x=>if x=1 then 6 else x) trivial ⟨rfl,?_,?_,?_,?_⟩<;>(first|(simp [leT,ltV,lt1,ren,ren1];done)|(simp [leO,lt1,ren1];done)|fail))
  | (refine hJ () _ (fun x=>if x=1 then 7 else x) trivial ⟨rfl,?_,?_,?_,?_⟩<;>(first|(simp [leT,ltV,lt1,ren,ren1];done)|(simp [leO,lt1,ren1];done)|fail))
end Go.Proofs.YthjpcmecgjfilaaGreat
end
