/- A part of the proof of ReplicaFollows. -/
import Derived.Test.YthjpcmecgjfilaaGreatB18
import Derived.Test.YthjpcmecgjfilaaGreatB20
set_option linter.unusedSimpArgs false
set_option linter.unusedVariables false
set_option maxHeartbeats 16000000
set_option maxRecDepth 100000
section
namespace Go.Proofs.YthjpcmecgjfilaaGreat
open Go.Ab Go.RowKit Tryz
structure OkD (d:DskD):Prop where
 a:W32 d.blocks
 b:W32 d.block
 c:W32 d.frame
 e:W32 d.opBlock
 f:W32 d.opFrame
structure OkN (n:NicD):Prop where
 a:W32 n.frame
 b:W32 n.len
 c:W32 n.buffer
 d:W32 n.got
structure OkM (m:MchD):Prop where
 c:OkC m.cpu
 w:OkW m.mem
 n:m.mem.length<=1024
 k:m.keys.length<=1000
 t:W32 m.tim.dl
 d:OkD m.dk
 r:OkN m.nc
 tg:W32 m.tgt
 gv:W32 m.given
 ct:0<=m.count/\m.count<2000000000000000000
theorem zIn (m:MchD) (hM:OkM m):zAD prog 232 [.st m.row] (uv (zFp m)):=by
 have hb:=zNP m.tgt m.given hM.gv;have ht:=zOB m.tim;have hk:=zNU m.keys;have hd:=zH1 m.dk;have hn:=zNr m.nc;have hE:zFp m=b2w m.tim.fired+b2w (!decide (m.keys=[]))*2+b2w (zBm m.dk)*4+b2w m.nc.received*8+b2w (zA9 m.tgt m.given)*16:=rfl;rw [hE];generalize zA9 m.tgt m.given=p4 at *
 generalize zBm m.dk=p2 at *
 generalize (!decide (m.keys=[]))=p1 at *
 refine sX func232 ntmps232 ?_;(repeat intro K hK);apply wr
 refine zBe (α:=Unit) (fun _=>(⟨35,[(3,.ptr 1 5 0 0),(2,uv 0)],2,[(1,some ⟨402,5,true,false,[[.bool m.tim.fired,.bool p1,.bool p2,.bool m.nc.received,.bool p4]]⟩)],0⟩:St)) (fun _=>True) hK (fun _ hxhJ=>?_) (fun hJ=>?_)
 all_goals clear hK
 ·obtain ⟨p0,hp0⟩:∃ p0,p0=m.tim.fired:=⟨_,rfl⟩;obtain ⟨p3,hp3⟩:∃ p3,p3=m.nc.received:=⟨_,rfl⟩;rw [<- hp0,<- hp3];clear hp0 hp3
  (refine af1 (kX4 @b2w.eq_1 @ior.eq_1 @u32c @i64c) ?_;(repeat intro K hK);apply wr)
  repeat' ((first|(refine zAC rfl (fun h=>?_) (fun h=>?_)<;>(first|(simp [b2w,ior,u32c,i64c] at h;done)|(simp [b2w,ior,u32c,i64c] at h)|skip)<;>(first|(exfalso;omega)|skip))|refine zAW 6 ?_|refine zAj fun K hK=>?_|(refine zBX (.node 2 16 (.node 5 16 (.node 8 16 (.node 11 16 (.node 14 16 (.leaf [0,1,2,3,4,5,6,7,8,9,10,11,12,13,14,15,16,17] (bN [0,1,3,0,8,31,0,64,255,0,512,2047,0,4096,16383,32767,32767,131071]) [(14,([[],[0],[0,1],[],[3],[0,1,2,3,4],[],[6],[0,1,2,3,4,5,6,7],[],[9],[0,1,2,3,4,5,6,7,8,9,10],[],[12]],[(4,2),(7,2),(7,5),(10,2),(10,5),(10,8),(13,2),(13,5),(13,8),(13,11)])),(1,([],[])),(2,([[],[]],[])),(1,([],[]))]) (.leaf [0,1,2,3,4,5,6,7,8,9,10,11,12,13,16,14,15,17] (bN [0,1,3,0,8,31,0,64,255,0,512,2047,0,4096,4095,32767,65535,131071]) [(15,([[],[0],[0,1],[],[3],[0,1,2,3,4],[],[6],[0,1,2,3,4,5,6,7],[],[9],[0,1,2,3,4,5,6,7,8,9,10],[],[12],[0,1,2,3,4,5,6,7,8,9,10,11]],[(4,2),(7,2),(7,5),(10,2),(10,5),(10,8),(13,2),(13,5),(13,8),(13,11),(13,14)])),(1,([],[])),(1,([],[])),(1,([],[]))])) (.leaf [0,1,2,3,4,5,6,7,8,9,10,12,13,16,11,14,15,17] (bN [0,1,3,0,8,31,0,64,255,0,512,0,2048,511,10239,32767,65535,131071]) [(15,([[],[0],[0,1],[],[3],[0,1,2,3,4],[],[6],[0,1,2,3,4,5,6,7],[],[9],[],[11],[0,1,2,3,4,5,6,7,8],[0,1,2,3,4,5,6,7,8,9,10,13]],[(4,2),(7,2),(7,5),(10,2),(10,5),(10,8),(10,13),(12,2),(12,5),(12,8),(12,13),(12,14)])),(1,([],[])),(1,([],[])),(1,([],[]))])) (.leaf [0,1,2,3,4,5,6,7,9,10,12,13,16,8,11,14,15,17] (bN [0,1,3,0,8,31,0,64,0,256,0,1024,63,4351,13311,32767,65535,131071]) [(15,([[],[0],[0,1],[],[3],[0,1,2,3,4],[],[6],[],[8],[],[10],[0,1,2,3,4,5],[0,1,2,3,4,5,6,7,12],[0,1,2,3,4,5,6,7,8,9,12,13]],[(4,2),(7,2),(7,5),(7,12),(9,2),(9,5),(9,12),(9,13),(11,2),(11,5),(11,12),(11,13),(11,14)])),(1,([],[])),(1,([],[])),(1,([],[]))])) (.leaf [0,1,2,3,4,6,7,9,10,12,13,16,5,8,11,14,15,17] (bN [0,1,3,0,8,0,32,0,128,0,512,7,2079,6271,14847,32767,65535,131071]) [(15,([[],[0],[0,1],[],[3],[],[5],[],[7],[],[9],[0,1,2],[0,1,2,3,4,11],[0,1,2,3,4,5,6,11,12],[0,1,2,3,4,5,6,7,8,11,12,13]],[(4,2),(4,11),(6,2),(6,11),(6,12),(8,2),(8,11),(8,12),(8,13),(10,2),(10,11),(10,12),(10,13),(10,14)])),(1,([],[])),(1,([],[])),(1,([],[]))])) (.leaf [0,1,3,4,6,7,9,10,12,13,16,2,5,8,11,14,15,17] (bN [0,1,0,4,0,16,0,64,0,256,0,1027,3087,7231,15615,32767,65535,131071]) [(15,([[],[0],[],[2],[],[4],[],[6],[],[8],[],[0,1,10],[0,1,2,3,10,11],[0,1,2,3,4,5,10,11,12],[0,1,2,3,4,5,6,7,10,11,12,13]],[(1,10),(3,10),(3,11),(5,10),(5,11),(5,12),(7,10),(7,11),(7,12),(7,13),(9,10),(9,11),(9,12),(9,13),(9,14)])),(1,([],[])),(1,([],[])),(1,([],[]))])) (by kernel_rfl) (by kernel_rfl) ?_;simp only [PT.run];repeat' (with_reducible apply And.intro);all_goals (simp only [zB0,zWb,List.map_nil,zWV,zWk]))|exact rt1 (kX4 @b2w.eq_1 @ior.eq_1 @u32c @i64c)|fail)<;>(refine af1 (kX4 @b2w.eq_1 @ior.eq_1 @u32c @i64c) ?_;(repeat intro K hK);apply wr))
 refine zBX (.node 2 16 (.node 5 16 (.node 8 16 (.node 11 16 (.node 14 16 (.leaf [0,1,2,3,4,5,6,7,8,9,10,11,12,13,14,15,16,17] (bN [0,1,3,0,8,31,0,64,255,0,512,2047,0,4096,16383,32767,32767,131071]) [(14,([[],[0],[0,1],[],[3],[0,1,2,3,4],[],[6],[0,1,2,3,4,5,6,7],[],[9],[0,1,2,3,4,5,6,7,8,9,10],[],[12]],[(4,2),(7,2),(7,5),(10,2),(10,5),(10,8),(13,2),(13,5),(13,8),(13,11)])),(1,([],[])),(2,([[],[]],[])),(1,([],[]))]) (.leaf [0,1,2,3,4,5,6,7,8,9,10,11,12,13,16,14,15,17] (bN [0,1,3,0,8,31,0,64,255,0,512,2047,0,4096,4095,32767,65535,131071]) [(15,([[],[0],[0,1],[],[3],[0,1,2,3,4],[],[6],[0,1,2,3,4,5,6,7],[],[9],[0,1,2,3,4,5,6,7,8,9,10],[],[12],[0,1,2,3,4,5,6,7,8,9,10,11]],[(4,2),(7,2),(7,5),(10,2),(10,5),(10,8),(13,2),(13,5),(13,8),(13,11),(13,14)])),(1,([],[])),(1,([],[])),(1,([],[]))])) (.leaf [0,1,2,3,4,5,6,7,8,9,10,12,13,16,11,14,15,17] (bN [0,1,3,0,8,31,0,64,255,0,512,0,2048,511,10239,32767,65535,131071]) [(15,([[],[0],[0,1],[],[3],[0,1,2,3,4],[],[6],[0,1,2,3,4,5,6,7],[],[9],[],[11],[0,1,2,3,4,5,6,7,8],[0,1,2,3,4,5,6,7,8,9,10,13]],[(4,2),(7,2),(7,5),(10,2),(10,5),(10,8),(10,13),(12,2),(12,5),(12,8),(12,13),(12,14)])),(1,([],[])),(1,([],[])),(1,([],[]))])) (.leaf [0,1,2,3,4,5,6,7,9,10,12,13,16,8,11,14,15,17] (bN [0,1,3,0,8,31,0,64,0,256,0,1024,63,4351,13311,32767,65535,131071]) [(15,([[],[0],[0,1],[],[3],[0,1,2,3,4],[],[6],[],[8],[],[10],[0,1,2,3,4,5],[0,1,2,3,4,5,6,7,12],[0,1,2,3,4,5,6,7,8,9,12,13]],[(4,2),(7,2),(7,5),(7,12),(9,2),(9,5),(9,12),(9,13),(11,2),(11,5),(11,12),(11,13),(11,14)])),(1,([],[])),(1,([],[])),(1,([],[]))])) (.leaf [0,1,2,3,4,6,7,9,10,12,13,16,5,8,11,14,15,17] (bN [0,1,3,0,8,0,32,0,128,0,512,7,2079,6271,14847,32767,65535,131071]) [(15,([[],[0],[0,1],[],[3],[],[5],[],[7],[],[9],[0,1,2],[0,1,2,3,4,11],[0,1,2,3,4,5,6,11,12],[0,1,2,3,4,5,6,7,8,11,12,13]],[(4,2),(4,11),(6,2),(6,11),(6,12),(8,2),(8,11),(8,12),(8,13),(10,2),(10,11),(10,12),(10,13),(10,14)])),(1,([],[])),(1,([],[])),(1,([],[]))])) (.leaf [0,1,3,4,6,7,9,10,12,13,16,2,5,8,11,14,15,17] (bN [0,1,0,4,0,16,0,64,0,256,0,1027,3087,7231,15615,32767,65535,131071]) [(15,([[],[0],[],[2],[],[4],[],[6],[],[8],[],[0,1,10],[0,1,2,3,10,11],[0,1,2,3,4,5,10,11,12],[0,1,2,3,4,5,6,7,10,11,12,13]],[(1,10),(3,10),(3,11),(5,10),(5,11),(5,12),(7,10),(7,11),(7,12),(7,13),(9,10),(9,11),(9,12),(9,13),(9,14)])),(1,([],[])),(1,([],[])),(1,([],[]))])) (by kernel_rfl) (by kernel_rfl) ?_
 simp only [PT.run]
 repeat' (with_reducible apply And.intro)
 all_goals (simp only [zB0,zWb,List.map_nil,zWV,zWk];refine af ?_;(repeat intro K hK);apply wr)
 all_goals ((refine cc (ht) ?_))
 all_goals ((refine af ?_);(repeat intro K hK);(apply wr))
 all_goals ((refine cc (hk) ?_))
 all_goals ((refine af ?_);(repeat intro K hK);(apply wr))
 all_goals ((refine cc (hd) ?_))
 all_goals ((refine af ?_);(repeat intro K hK);(apply wr))
 all_goals ((refine cc (hn) ?_))
 all_goals ((refine af ?_);(repeat intro K hK);(apply wr))
 all_goals ((refine cc (hb) ?_))
 all_goals ((refine af ?_);(repeat intro K hK);(apply wr))
 all_goals first
  | (refine hJ () _ (fun x=>if x=1 then 1 else x) trivial ⟨rfl,?_,?_,?_,?_⟩<;>(first|(simp [leT,ltV,lt1,ren,ren1];done)|(simp [leO,lt1,ren1];done)|fail))
  | (refine hJ () _ (fun x=>if x=1 then 2 else x) trivial ⟨rfl,?_,?_,?_,?_⟩<;>(first|(simp [leT,ltV,lt1,ren,ren1];done)|(simp [leO,lt1,ren1];done)|fail))
  | (refine hJ () _ (fun x=>if x=1 then 3 else x) trivial ⟨rfl,?_,?_,?_,?_⟩<;>(first|(simp [leT,ltV,lt1,ren,ren1];done)|(simp [leO,lt1,ren1];done)|fail))
  | (refine hJ () _ (fun x=>if x=1 then 4 else x) trivial ⟨rfl,?_,?_,?_,?_⟩<;>(first|(simp [leT,ltV,lt1,ren,ren1];done)|(simp [leO,lt1,ren1];done)|fail))
  | (refine hJ () _ (fun x=>if x=1 then 5 else x) trivial ⟨rfl,?_,?_,?_,?_⟩<;>(first|(simp [leT,ltV,lt1,ren,ren1];done)|(simp [leO,lt1,ren1];done)|fail))
  | (refine hJ () _ (fun x=>if x=1 then 6 else x) trivial ⟨rfl,?_,?_,?_,?_⟩<;>(first|(simp [leT,ltV,lt1,ren,ren1];done)|(simp [leO,lt1,ren1];done)|fail))
  | (refine hJ () _ (fun x=>if x=1 then 7 else x) trivial ⟨rfl,?_,?_,?_,?_⟩<;>(first|(simp [leT,ltV,lt1,ren,ren1];done)|(simp [leO,lt1,ren1];done)|fail))
theorem zI4 (b:Bool):zAD prog 272 [.bool b] (uv (b2w b)):=by
 refine sZ func272 ntmps272 ?_;exact wx1 trivial trivial @b2w.eq_1
theorem zQD (a:Int):zAD prog 273 [iv a] (.bool (decide (1<=a)&&decide (a<=3))):=by
 refine sZ func273 ntmps273 ?_;exact wx trivial trivial
theorem zP2 (a:Int):zAD prog 275 [iv a] (iv (if a=1 then 4 else if a=3 then 6 else 5)):=by
 refine sZ func275 ntmps275 ?_;exact wx trivial trivial
theorem iand5 {x:Int} (h:0<=x/\x<=31):decide (iand .u32 x 5=4)=(decide (x % 2=0)&&decide (x / 4 % 2=1)):=by
 have e:∀ k:Fin 32,decide (iand .u32 (k.val:Int) 5=4)=(decide ((k.val:Int) % 2=0)&&decide ((k.val:Int) / 4 % 2=1)):=by decide
 have:=e ⟨x.toNat,by omega⟩
 rwa [show ((⟨x.toNat,by omega⟩:Fin 32).val:Int)=x by simp;omega] at this
theorem zQJ (c:CpuD) (h:OkC c):zAD prog 274 [.st c.row] (.bool (zDX c)):=by
 have e:=iand5 ⟨(h.csr 0).1,h.s⟩;refine sZ func274 ntmps274 ?_;exact wx1 trivial trivial (kX2 @e @zDX.eq_1)
theorem zQM (op a b:Int):zAD prog 280 [iv op,uv a,uv b] (.bool (zE7 op a b)):=by
 refine sZ func280 ntmps280 ?_;exact wx1 trivial trivial @zE7.eq_1
theorem zSj (op:Int):zAD prog 214 [iv op] (.bool (zLU op)):=by
 refine sZ func214 ntmps214 ?_;exact wx1 trivial trivial @zLU.eq_1
def zIG (op:Int):Int:=if op=16 then 1 else if op=17 then 3 else if op=18 then 4 else if op=19 then 5 else if op=20 then 6 else if op=21 then 7 else if op=22 then 8 else if op=23 then 12 else op
theorem zE2 (op:Int):zAD prog 282 [iv op] (iv (zIG op)):=by
 refine sZ func282 ntmps282 ?_;exact wx1 trivial trivial @zIG.eq_1
theorem zFe (c:CpuD) (r v:Int) (h0:0<=r) (h1:r<=15):zAD prog 171 [.st c.row,iv r,uv v] (.st (c.setR r v).row):=by
 have e:=zP6 c v h0 h1;by_cases hr:r=0
 ·subst hr;refine sZ func171 ntmps171 ?_;exact wx1 trivial trivial @CpuD.setR.eq_1
 refine sZ func171 ntmps171 ?_;exact wx1 trivial trivial (kX3 @e @CpuD.setR.eq_1 @hr)
theorem zQT (c:CpuD) (k v:Int) (h0:0<=k) (h1:k<=7):zAD prog 279 [.st c.row,iv k,uv v] (.st (zBG c k v).row):=by
 have hk:k=0\/k=1\/k=2\/k=3\/k=4\/k=5\/k=6\/k=7:=by omega
 rcases hk with rfl|rfl|rfl|rfl|rfl|rfl|rfl|rfl
 ·refine sZ func279 ntmps279 ?_;exact wx1 trivial trivial (kX2 @zBG.eq_1 @CpuD.setS.eq_1)
 ·refine sZ func279 ntmps279 ?_;exact wx1 trivial trivial (kX2 @zBG.eq_1 @CpuD.setS.eq_1)
 ·refine sZ func279 ntmps279 ?_;exact wx1 trivial trivial (kX2 @zBG.eq_1 @CpuD.setS.eq_1)
 ·refine sZ func279 ntmps279 ?_;exact wx1 trivial trivial (kX2 @zBG.eq_1 @CpuD.setS.eq_1)
 ·refine sZ func279 ntmps279 ?_;exact wx1 trivial trivial (kX2 @zBG.eq_1 @CpuD.setS.eq_1)
 ·refine sZ func279 ntmps279 ?_;exact wx1 trivial trivial (kX2 @zBG.eq_1 @CpuD.setS.eq_1)
 ·refine sZ func279 ntmps279 ?_;exact wx1 trivial trivial (kX2 @zBG.eq_1 @CpuD.setS.eq_1)
 refine sZ func279 ntmps279 ?_;exact wx1 trivial trivial (kX2 @zBG.eq_1 @CpuD.setS.eq_1)
theorem zVg {s:Int} (h0:0<=s) (h1:s<=31):ior .u32 (zCn .u32 (ior .u32 (ior .u32 (zCn .u32 s 24) (IntKind.u32.wrap (8*b2w (!decide (iand .u32 s 1=0))))) (IntKind.u32.wrap (16*b2w (!decide (iand .u32 s 2=0))))) 2) 1=zKe s:=by
 have e:∀ k:Fin 32,ior .u32 (zCn .u32 (ior .u32 (ior .u32 (zCn .u32 (k.val:Int) 24) (IntKind.u32.wrap (8*b2w (!decide (iand .u32 (k.val:Int) 1=0))))) (IntKind.u32.wrap (16*b2w (!decide (iand .u32 (k.val:Int) 2=0))))) 2) 1=zKe (k.val:Int):=by decide
 have:=e ⟨s.toNat,by omega⟩
 rwa [show ((⟨s.toNat,by omega⟩:Fin 32).val:Int)=s by simp;omega] at this
theorem rret_s {s:Int} (h0:0<=s) (h1:s<=31):ior .u32 (ior .u32 (zCn .u32 s 3) (IntKind.u32.wrap (1*b2w (!decide (iand .u32 s 8=0))))) (IntKind.u32.wrap (2*b2w (!decide (iand .u32 s 16=0))))=retS s:=by
 have e:∀ k:Fin 32,ior .u32 (ior .u32 (zCn .u32 (k.val:Int) 3) (IntKind.u32.wrap (1*b2w (!decide (iand .u32 (k.val:Int) 8=0))))) (IntKind.u32.wrap (2*b2w (!decide (iand .u32 (k.val:Int) 16=0))))=retS (k.val:Int):=by decide
 have:=e ⟨s.toNat,by omega⟩
 rwa [show ((⟨s.toNat,by omega⟩:Fin 32).val:Int)=s by simp;omega] at this
theorem zCU (c:CpuD) (cause bad:Int) (h:OkC c):zAD prog 211 [.st c.row,iv cause,uv bad] (.st (zBE c cause bad).row):=by
 have e:=zVg (h.csr 0).1 h.s;refine sZ func211 ntmps211 ?_;exact wx1 (qX2 (zI4 (!decide (iand .u32 (c.csr 0) 1=0))) (zI4 (!decide (iand .u32 (c.csr 0) 2=0)))) trivial (kX2 @e @zBE.eq_1)
theorem zN6 (c:CpuD) (h:OkC c):zAD prog 278 [.st c.row] (.st (retD c).row):=by
 have e:=rret_s (h.csr 0).1 h.s;refine sZ func278 ntmps278 ?_;exact wx1 (qX2 (zI4 (!decide (iand .u32 (c.csr 0) 8=0))) (zI4 (!decide (iand .u32 (c.csr 0) 16=0)))) trivial (kX2 @e @retD.eq_1)
end Go.Proofs.YthjpcmecgjfilaaGreat
end
