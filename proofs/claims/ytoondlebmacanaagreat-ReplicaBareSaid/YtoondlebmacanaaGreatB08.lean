/- A part of the proof of ReplicaBare+ReplicaWindow. -/
import Derived.Test.YtoondlebmacanaaGreatB06
set_option linter.unusedSimpArgs false
set_option linter.unusedVariables false
set_option maxHeartbeats 16000000
set_option maxRecDepth 100000
section
namespace Go.Proofs.YtoondlebmacanaaGreat.Fx
open Go.Ab Go.RowKit
theorem zCL (m:MchD) (h1:m.mem.length≤100000):zAD Tryz.prog 33 [.st m.row] (.st m.row):=by
 refine sZ Tryz.func33 Tryz.ntmps33 ?_;exact wx (qX1 (zBi (ints .u32 m.mem) false 1 (.inl rfl) (by rw [zAN];exact h1))) trivial
theorem zGF (a b:Int):zAD Tryz.prog 68 [.st [lv a,lv b,.sl 4 false []]] (.st [lv a,lv b,.sl 4 false []]):=by
 refine sZ Tryz.func68 Tryz.ntmps68 ?_;exact wx (qX1 (zDC [] false 4 (.inl rfl) (by simp))) trivial
theorem zQb (a b:Int):zAD Tryz.prog 125 [.st [lv a,lv b,.sl 4 false []]] (.st [lv a,lv b,.sl 4 false []]):=by
 refine sZ Tryz.func125 Tryz.ntmps125 ?_;exact wx (qX1 (zDC [] false 4 (.inl rfl) (by simp))) trivial
abbrev repQ (host role gen:Int) (m:MchD) (c:Int) (n:MchD) (k d ga gb mark sa sb sc ra rb wa wb wc beats cmd cmdAt:Int) (q:List SegD):RepD :=
 ⟨host,role,gen,⟨m,c,[],[]⟩,⟨n,[],k,d⟩,⟨[],ga,gb⟩,mark,⟨sa,sb,sc,q⟩,⟨ra,rb,[]⟩,⟨wa,wb,wc⟩,beats,cmd,cmdAt,[]⟩
theorem zJF (host role gen:Int) (m:MchD) (c:Int) (n:MchD) (k d ga gb mark sa sb sc ra rb wa wb wc beats cmd cmdAt:Int) (hm:m.mem.length≤100000) (hn:n.mem.length≤100000) :
  zAD Tryz.prog 27 [.st (repQ host role gen m c n k d ga gb mark sa sb sc ra rb wa wb wc beats cmd cmdAt []).row] (.st (repQ host role gen m c n k d ga gb mark sa sb sc ra rb wa wb wc beats cmd cmdAt []).row):=by
 refine sX Tryz.func27 Tryz.ntmps27 ?_;(repeat intro K hK);apply wr
 (refine af ?_;(repeat intro K hK);apply wr)
 repeat' ((first|(refine zAC rfl (fun h=>?_) (fun h=>?_)<;>(first|(simp at h;done)|(simp at h)|skip)<;>(first|(exfalso;omega)|skip))|refine cc (zCL m hm) ?_|refine cc (zCL n hn) ?_|refine cc (zDC [] false 4 (.inl rfl) (by simp)) ?_|refine cc (zHb [] false 3 (.inl rfl) (by simp)) ?_|refine cc (zFs [] false 4 (.inl rfl) (by simp)) ?_|refine cc (zOR [] false 3 (.inl rfl) (by simp)) ?_|refine cc (zOS [] false 4 (.inl rfl) (by simp)) ?_|refine zAL 2 ?_|refine zAH fun K hK=>?_|(refine zAG (rid:=11) 8 [0,1,3,0,0,16,63,127] [(6,([[],[0],[0,1],[],[],[4]],[(2,5)])),(1,([],[])),(1,([],[]))] ?_)|(refine zAG (rid:=17) 10 [0,1,3,0,0,16,48,127,255,511] [(7,([[],[0],[0,1],[],[],[4],[4,5]],[(2,6)])),(1,([],[])),(1,([],[])),(1,([],[]))] ?_)|exact rt|fail)<;>(refine af ?_;(repeat intro K hK);apply wr))
theorem zMy {C D E G:Prop} (c:C) (d:D) (e:E) (t:C→D→E→G:=by intro c d e;(refine af1 e ?_;intros;apply wr);repeat' ((first|(refine zAC rfl (fun h=>?_) (fun h=>?_)<;>(first|(simp [e] at h;done)|(simp [e] at h)|skip)<;>(first|(exfalso;omega)|skip))|((first|refine .inl ⟨1,_,d.1,?_⟩|refine ⟨1,_,d.1,?_⟩);simp [aftC,aftE,noX,noXc,noX1,e];first|refine And.intro zAP ?_|skip)|((first|refine .inl ⟨1,_,d.2.1,?_⟩|refine ⟨1,_,d.2.1,?_⟩);simp [aftC,aftE,noX,noXc,noX1,e];first|refine And.intro zAP ?_|skip)|refine cc1 c.1 e ?_|refine cc1 c.2.1 e ?_|refine cc1 c.2.2.1 e ?_|refine cc1 c.2.2.2.1 e ?_|refine cc1 c.2.2.2.2.1 e ?_|refine cc1 c.2.2.2.2.2.1 e ?_|(refine zAG (rid:=9) 7 [0,1,0,4,3,19,63] [(6,([[],[0],[],[2],[0,1],[0,1,4]],[(3,1)])),(1,([],[]))] ?_)|(refine zAG (rid:=10) 10 [0,1,0,0,8,0,60,127,255,511] [(7,([[],[0],[],[],[3],[],[2,3,4,5]],[(1,6)])),(1,([],[])),(1,([],[])),(1,([],[]))] ?_)|exact rt1 e|fail)<;>(refine af1 e ?_;intros;apply wr))):G:=t c d e
theorem zMw {C D E G:Prop} (c:C) (d:D) (e:E) (t:C→D→E→G:=by intro c d e;(refine af1 e ?_;intros;apply wr);repeat' ((first|(refine zAC rfl (fun h=>?_) (fun h=>?_)<;>(first|(simp [e] at h;done)|(simp [e] at h)|skip)<;>(first|(exfalso;omega)|skip))|((first|refine .inl ⟨1,_,d.1,?_⟩|refine ⟨1,_,d.1,?_⟩);simp [aftC,aftE,noX,noXc,noX1,e];first|refine And.intro zAP ?_|skip)|((first|refine .inl ⟨1,_,d.2.1,?_⟩|refine ⟨1,_,d.2.1,?_⟩);simp [aftC,aftE,noX,noXc,noX1,e];first|refine And.intro zAP ?_|skip)|refine cc1 c.1 e ?_|refine cc1 c.2.1 e ?_|refine cc1 c.2.2.1 e ?_|refine cc1 c.2.2.2.1 e ?_|refine cc1 c.2.2.2.2.1 e ?_|refine cc1 c.2.2.2.2.2.1 e ?_|(refine zAG 6 [0,0,0,1,11,31] [(5,([[],[],[],[0],[0,1,3]],[(2,3)])),(1,([],[]))] ?_)|exact rt1 e|fail)<;>(refine af1 e ?_;intros;apply wr))):G:=t c d e
def cpA (s c:Int):CpuD:=⟨fun _=>0,0,fun i=>if i=0 then s else if i=3 then c else 0⟩
theorem mk_mem (s c n:Int):(mk s c n).mem=mem0:=rfl
theorem mem0_g:(ints .u32 mem0)[0]?.getD []=[uv 0]:=by kernel_rfl
theorem zVM (h:0<(ints .u32 mem0).length):(ints .u32 mem0)[0]'h=[uv 0]:=by kernel_rfl
theorem pg0:pagesD mem0=8:=by kernel_rfl
theorem zAR:IntKind.u32.bits=32:=rfl
theorem zC3:zAD Tryz.prog 325 [iv 8] (uv 255):=by
 refine sX Tryz.func325 Tryz.ntmps325 ?_;intros;apply wr
 (refine au1 (kX4 @iand.eq_1 @ior.eq_1 @zAV.eq_1 @zAR) ?_;intros;apply wr)
 repeat' ((first|(refine zAC rfl (fun h=>?_) (fun h=>?_)<;>(first|(simp [iand,ior,zAV,zAR] at h;done)|(simp [iand,ior,zAV,zAR] at h)|skip)<;>(first|(exfalso;omega)|skip))|(refine zAA ?_;simp [iand,ior,zAV,zAR];(first|done|decide);done)|(refine zAI ?_;refine zAA ?_;simp [iand,ior,zAV,zAR];(first|done|decide);done)|fail)<;>(refine au1 (kX4 @iand.eq_1 @ior.eq_1 @zAV.eq_1 @zAR) ?_;intros;apply wr))
theorem zEx:zAD Tryz.prog 325 [iv 4] (uv 15):=by
 refine sX Tryz.func325 Tryz.ntmps325 ?_;intros;apply wr
 (refine au1 (kX4 @iand.eq_1 @ior.eq_1 @zAV.eq_1 @zAR) ?_;intros;apply wr)
 repeat' ((first|(refine zAC rfl (fun h=>?_) (fun h=>?_)<;>(first|(simp [iand,ior,zAV,zAR] at h;done)|(simp [iand,ior,zAV,zAR] at h)|skip)<;>(first|(exfalso;omega)|skip))|(refine zAA ?_;simp [iand,ior,zAV,zAR];(first|done|decide);done)|(refine zAI ?_;refine zAA ?_;simp [iand,ior,zAV,zAR];(first|done|decide);done)|fail)<;>(refine au1 (kX4 @iand.eq_1 @ior.eq_1 @zAV.eq_1 @zAR) ?_;intros;apply wr))
theorem zOs:zAD Tryz.prog 298 [uv 0,iv 24,iv 8] (uv 0):=by
 refine sX Tryz.func298 Tryz.ntmps298 ?_;intros;apply wr
 (refine au1 (kX4 @iand.eq_1 @ior.eq_1 @zAV.eq_1 @zAR) ?_;intros;apply wr)
 repeat' ((first|(refine zAC rfl (fun h=>?_) (fun h=>?_)<;>(first|(simp [iand,ior,zAV,zAR] at h;done)|(simp [iand,ior,zAV,zAR] at h)|skip)<;>(first|(exfalso;omega)|skip))|refine cc1 (zC3) (kX4 @iand.eq_1 @ior.eq_1 @zAV.eq_1 @zAR) ?_|(refine zAA ?_;simp [iand,ior,zAV,zAR];(first|done|decide);done)|(refine zAI ?_;refine zAA ?_;simp [iand,ior,zAV,zAR];(first|done|decide);done)|fail)<;>(refine au1 (kX4 @iand.eq_1 @ior.eq_1 @zAV.eq_1 @zAR) ?_;intros;apply wr))
theorem zEq:zAD Tryz.prog 298 [uv 0,iv 20,iv 4] (uv 0):=by
 refine sX Tryz.func298 Tryz.ntmps298 ?_;intros;apply wr
 (refine au1 (kX4 @iand.eq_1 @ior.eq_1 @zAV.eq_1 @zAR) ?_;intros;apply wr)
 repeat' ((first|(refine zAC rfl (fun h=>?_) (fun h=>?_)<;>(first|(simp [iand,ior,zAV,zAR] at h;done)|(simp [iand,ior,zAV,zAR] at h)|skip)<;>(first|(exfalso;omega)|skip))|refine cc1 (zEx) (kX4 @iand.eq_1 @ior.eq_1 @zAV.eq_1 @zAR) ?_|(refine zAA ?_;simp [iand,ior,zAV,zAR];(first|done|decide);done)|(refine zAI ?_;refine zAA ?_;simp [iand,ior,zAV,zAR];(first|done|decide);done)|fail)<;>(refine au1 (kX4 @iand.eq_1 @ior.eq_1 @zAV.eq_1 @zAR) ?_;intros;apply wr))
theorem zOt:zAD Tryz.prog 298 [uv 0,iv 16,iv 4] (uv 0):=by
 refine sX Tryz.func298 Tryz.ntmps298 ?_;intros;apply wr
 (refine au1 (kX4 @iand.eq_1 @ior.eq_1 @zAV.eq_1 @zAR) ?_;intros;apply wr)
 repeat' ((first|(refine zAC rfl (fun h=>?_) (fun h=>?_)<;>(first|(simp [iand,ior,zAV,zAR] at h;done)|(simp [iand,ior,zAV,zAR] at h)|skip)<;>(first|(exfalso;omega)|skip))|refine cc1 (zEx) (kX4 @iand.eq_1 @ior.eq_1 @zAV.eq_1 @zAR) ?_|(refine zAA ?_;simp [iand,ior,zAV,zAR];(first|done|decide);done)|(refine zAI ?_;refine zAA ?_;simp [iand,ior,zAV,zAR];(first|done|decide);done)|fail)<;>(refine au1 (kX4 @iand.eq_1 @ior.eq_1 @zAV.eq_1 @zAR) ?_;intros;apply wr))
abbrev useV0:V:=.st [.bool false,.bool false,.bool false,.int .i32 0,.int .i32 0]
theorem zMt:zAD Tryz.prog 299 [iv 0] (.tup [useV0,.bool false]):=by
 refine sZ Tryz.func299 Tryz.ntmps299 ?_;exact wx trivial trivial
abbrev instV0:V:=.st [iv 0,iv 0,iv 0,iv 0,.int .i32 0]
theorem decode_ok:zAD Tryz.prog 235 [uv 0] (.tup [instV0,.bool false]):=by
 refine sZ Tryz.func235 Tryz.ntmps235 ?_;exact wx (qX4 (zOs) (zEq) (zOt) (zMt)) trivial
theorem zQu:zAD Tryz.prog 324 [memV mem0,uv 0,iv 4] (.bool true):=by
 refine sZ Tryz.func324 Tryz.ntmps324 ?_;exact wx1 (qX1 (zBz mem0)) trivial @pg0
theorem zIS:zAD Tryz.prog 297 [memV mem0,uv 0,iv 4] (.tup [uv 0,.bool true]):=by
 refine sZ Tryz.func297 Tryz.ntmps297 ?_;exact wx1 (qX1 (zQu)) trivial (kX3 @mem0_g @zVM @zC4)
theorem zLa:zAD Tryz.prog 321 [iv 1] (.tup [iv 4,.bool true]):=by
 refine sZ Tryz.func321 Tryz.ntmps321 ?_;exact wx trivial trivial
theorem zMB:zAD Tryz.prog 295 [uv 1,uv 1,uv 8] (uv 9):=by
 refine sX Tryz.func295 Tryz.ntmps295 ?_;intros;apply wr
 (refine au1 (kX4 @iand.eq_1 @ior.eq_1 @zAV.eq_1 @zAR) ?_;intros;apply wr)
 repeat' ((first|(refine zAC rfl (fun h=>?_) (fun h=>?_)<;>(first|(simp [iand,ior,zAV,zAR] at h;done)|(simp [iand,ior,zAV,zAR] at h)|skip)<;>(first|(exfalso;omega)|skip))|(refine zAA ?_;simp [iand,ior,zAV,zAR];(first|done|decide);done)|(refine zAI ?_;refine zAA ?_;simp [iand,ior,zAV,zAR];(first|done|decide);done)|fail)<;>(refine au1 (kX4 @iand.eq_1 @ior.eq_1 @zAV.eq_1 @zAR) ?_;intros;apply wr))
theorem zMC:zAD Tryz.prog 295 [uv 9,uv 2,uv 16] (uv 9):=by
 refine sX Tryz.func295 Tryz.ntmps295 ?_;intros;apply wr
 (refine au1 (kX4 @iand.eq_1 @ior.eq_1 @zAV.eq_1 @zAR) ?_;intros;apply wr)
 repeat' ((first|(refine zAC rfl (fun h=>?_) (fun h=>?_)<;>(first|(simp [iand,ior,zAV,zAR] at h;done)|(simp [iand,ior,zAV,zAR] at h)|skip)<;>(first|(exfalso;omega)|skip))|(refine zAA ?_;simp [iand,ior,zAV,zAR];(first|done|decide);done)|(refine zAI ?_;refine zAA ?_;simp [iand,ior,zAV,zAR];(first|done|decide);done)|fail)<;>(refine au1 (kX4 @iand.eq_1 @ior.eq_1 @zAV.eq_1 @zAR) ?_;intros;apply wr))
theorem zMD:zAD Tryz.prog 295 [uv 9,uv 1,uv 8] (uv 9):=by
 refine sX Tryz.func295 Tryz.ntmps295 ?_;intros;apply wr
 (refine au1 (kX4 @iand.eq_1 @ior.eq_1 @zAV.eq_1 @zAR) ?_;intros;apply wr)
 repeat' ((first|(refine zAC rfl (fun h=>?_) (fun h=>?_)<;>(first|(simp [iand,ior,zAV,zAR] at h;done)|(simp [iand,ior,zAV,zAR] at h)|skip)<;>(first|(exfalso;omega)|skip))|(refine zAA ?_;simp [iand,ior,zAV,zAR];(first|done|decide);done)|(refine zAI ?_;refine zAA ?_;simp [iand,ior,zAV,zAR];(first|done|decide);done)|fail)<;>(refine au1 (kX4 @iand.eq_1 @ior.eq_1 @zAV.eq_1 @zAR) ?_;intros;apply wr))
theorem zNR:zAD Tryz.prog 237 [.st (cpA 1 0).row] (.bool true):=by
 refine sX Tryz.func237 Tryz.ntmps237 ?_;intros;apply wr
 (refine au1 (kX5 @cpA.eq_1 @iand.eq_1 @ior.eq_1 @zAV.eq_1 @zAR) ?_;intros;apply wr)
 repeat' ((first|(refine zAC rfl (fun h=>?_) (fun h=>?_)<;>(first|(simp [cpA,iand,ior,zAV,zAR] at h;done)|(simp [cpA,iand,ior,zAV,zAR] at h)|skip)<;>(first|(exfalso;omega)|skip))|(refine zAA ?_;simp [cpA,iand,ior,zAV,zAR];(first|done|decide);done)|(refine zAI ?_;refine zAA ?_;simp [cpA,iand,ior,zAV,zAR];(first|done|decide);done)|fail)<;>(refine au1 (kX5 @cpA.eq_1 @iand.eq_1 @ior.eq_1 @zAV.eq_1 @zAR) ?_;intros;apply wr))
theorem zTR:zAD Tryz.prog 233 [.st (cpA 1 0).row,iv 1,uv 0] (.st (cpA 9 1).row):=by
 refine sX Tryz.func233 Tryz.ntmps233 ?_;intros;apply wr
 (refine au1 (kX5 @cpA.eq_1 @iand.eq_1 @ior.eq_1 @zAV.eq_1 @zAR) ?_;intros;apply wr)
 repeat' ((first|(refine zAC rfl (fun h=>?_) (fun h=>?_)<;>(first|(simp [cpA,iand,ior,zAV,zAR] at h;done)|(simp [cpA,iand,ior,zAV,zAR] at h)|skip)<;>(first|(exfalso;omega)|skip))|refine cc1 (zMB) (kX5 @cpA.eq_1 @iand.eq_1 @ior.eq_1 @zAV.eq_1 @zAR) ?_|refine cc1 (zMC) (kX5 @cpA.eq_1 @iand.eq_1 @ior.eq_1 @zAV.eq_1 @zAR) ?_|refine cc1 (zMD) (kX5 @cpA.eq_1 @iand.eq_1 @ior.eq_1 @zAV.eq_1 @zAR) ?_|(refine zAA ?_;simp [cpA,iand,ior,zAV,zAR];(first|done|decide);done)|(refine zAI ?_;refine zAA ?_;simp [cpA,iand,ior,zAV,zAR];(first|done|decide);done)|fail)<;>(refine au1 (kX5 @cpA.eq_1 @iand.eq_1 @ior.eq_1 @zAV.eq_1 @zAR) ?_;intros;apply wr))
theorem zK9:zAD Tryz.prog 296 [.st (cpA 1 0).row,memV mem0,uv 0,iv 4,iv 1] (.tup [uv 0,memV mem0,iv 0]):=by
 refine sZ Tryz.func296 Tryz.ntmps296 ?_;exact zMy (qX4 (zLa) (zNR) (zIS) (zBi (ints .u32 mem0) false 1 (.inl rfl) (by rw [zC4];decide))) trivial (kX5 @cpA.eq_1 @iand.eq_1 @ior.eq_1 @zAV.eq_1 @zAR)
theorem zOo:zAD Tryz.prog 234 [.st (cpA 1 0).row,memV mem0] (.tup [uv 0,memV mem0,iv 0]):=by
 refine sZ Tryz.func234 Tryz.ntmps234 ?_;exact wx1 (qX2 (zK9) (zIS)) trivial (kX5 @cpA.eq_1 @iand.eq_1 @ior.eq_1 @zAV.eq_1 @zAR)
theorem zLk:zAD Tryz.prog 179 [.st (cpA 1 0).row,memV mem0] (.tup [.st (cpA 9 1).row,memV mem0,.st [iv 0,iv 0,iv 0,uv 0]]):=by
 refine sZ Tryz.func179 Tryz.ntmps179 ?_;exact zMw (qX3 (zOo) (decode_ok) (zTR)) trivial (kX5 @cpA.eq_1 @iand.eq_1 @ior.eq_1 @zAV.eq_1 @zAR)
theorem zNS:zAD Tryz.prog 237 [.st (cpA 9 1).row] (.bool true):=by
 refine sX Tryz.func237 Tryz.ntmps237 ?_;intros;apply wr
 (refine au1 (kX5 @cpA.eq_1 @iand.eq_1 @ior.eq_1 @zAV.eq_1 @zAR) ?_;intros;apply wr)
 repeat' ((first|(refine zAC rfl (fun h=>?_) (fun h=>?_)<;>(first|(simp [cpA,iand,ior,zAV,zAR] at h;done)|(simp [cpA,iand,ior,zAV,zAR] at h)|skip)<;>(first|(exfalso;omega)|skip))|(refine zAA ?_;simp [cpA,iand,ior,zAV,zAR];(first|done|decide);done)|(refine zAI ?_;refine zAA ?_;simp [cpA,iand,ior,zAV,zAR];(first|done|decide);done)|fail)<;>(refine au1 (kX5 @cpA.eq_1 @iand.eq_1 @ior.eq_1 @zAV.eq_1 @zAR) ?_;intros;apply wr))
theorem zTS:zAD Tryz.prog 233 [.st (cpA 9 1).row,iv 1,uv 0] (.st (cpA 9 1).row):=by
 refine sX Tryz.func233 Tryz.ntmps233 ?_;intros;apply wr
 (refine au1 (kX5 @cpA.eq_1 @iand.eq_1 @ior.eq_1 @zAV.eq_1 @zAR) ?_;intros;apply wr)
 repeat' ((first|(refine zAC rfl (fun h=>?_) (fun h=>?_)<;>(first|(simp [cpA,iand,ior,zAV,zAR] at h;done)|(simp [cpA,iand,ior,zAV,zAR] at h)|skip)<;>(first|(exfalso;omega)|skip))|refine cc1 (zMB) (kX5 @cpA.eq_1 @iand.eq_1 @ior.eq_1 @zAV.eq_1 @zAR) ?_|refine cc1 (zMC) (kX5 @cpA.eq_1 @iand.eq_1 @ior.eq_1 @zAV.eq_1 @zAR) ?_|refine cc1 (zMD) (kX5 @cpA.eq_1 @iand.eq_1 @ior.eq_1 @zAV.eq_1 @zAR) ?_|(refine zAA ?_;simp [cpA,iand,ior,zAV,zAR];(first|done|decide);done)|(refine zAI ?_;refine zAA ?_;simp [cpA,iand,ior,zAV,zAR];(first|done|decide);done)|fail)<;>(refine au1 (kX5 @cpA.eq_1 @iand.eq_1 @ior.eq_1 @zAV.eq_1 @zAR) ?_;intros;apply wr))
theorem zLA:zAD Tryz.prog 296 [.st (cpA 9 1).row,memV mem0,uv 0,iv 4,iv 1] (.tup [uv 0,memV mem0,iv 0]):=by
 refine sZ Tryz.func296 Tryz.ntmps296 ?_;exact zMy (qX4 (zLa) (zNS) (zIS) (zBi (ints .u32 mem0) false 1 (.inl rfl) (by rw [zC4];decide))) trivial (kX5 @cpA.eq_1 @iand.eq_1 @ior.eq_1 @zAV.eq_1 @zAR)
theorem zOp:zAD Tryz.prog 234 [.st (cpA 9 1).row,memV mem0] (.tup [uv 0,memV mem0,iv 0]):=by
 refine sZ Tryz.func234 Tryz.ntmps234 ?_;exact wx1 (qX2 (zLA) (zIS)) trivial (kX5 @cpA.eq_1 @iand.eq_1 @ior.eq_1 @zAV.eq_1 @zAR)
theorem zGI:zAD Tryz.prog 179 [.st (cpA 9 1).row,memV mem0] (.tup [.st (cpA 9 1).row,memV mem0,.st [iv 0,iv 0,iv 0,uv 0]]):=by
 refine sZ Tryz.func179 Tryz.ntmps179 ?_;exact zMw (qX3 (zOp) (decode_ok) (zTS)) trivial (kX5 @cpA.eq_1 @iand.eq_1 @ior.eq_1 @zAV.eq_1 @zAR)
end Go.Proofs.YtoondlebmacanaaGreat.Fx
end
