/- A part of the proof of ReplicaBare+ReplicaWindow. -/
import Derived.Test.YtoondlebmacanaaGreatB03
import Derived.Test.YtoondlebmacanaaGreatB10
set_option linter.unusedSimpArgs false
set_option linter.unusedVariables false
set_option maxHeartbeats 16000000
set_option maxRecDepth 100000
section
namespace Go.Proofs.YtoondlebmacanaaGreat.Fx
open Go.Ab Go.RowKit
abbrev rdO (s:Str):Ob:=⟨347,2,true,false,[[.str s,.bool false]]⟩
theorem zMu (r:Str) (hr:r.length≤100000):zAD Tryz.prog 158 [.str (0::r)] (.tup [lv 0,iv 1,.bool true]):=by
 by_cases hc:10<r.length+1
 ·have hc':(10:Int)<(r.length:Int)+1:=by omega
  refine sY Tryz.func158 Tryz.ntmps158 @hc' ?_;(repeat intro K hK);apply wr
  (refine au1 @hc' ?_;(repeat intro K hK);apply wr)
  repeat' ((first|(refine zAC rfl (fun h=>?_) (fun h=>?_)<;>(first|(simp [hc'] at h;done)|(simp [hc'] at h)|skip)<;>(first|(exfalso;omega)|skip))|refine zAL 1 ?_|refine zAH fun K hK=>?_|(refine zAA ?_;simp [hc'];(first|done|rfl|decide);done)|(refine zAI ?_;refine zAA ?_;simp [hc'];(first|done|rfl|decide);done)|fail)<;>(refine au1 @hc' ?_;(repeat intro K hK);apply wr))
 have hc':¬ (10:Int)<(r.length:Int)+1:=by omega
 refine sY Tryz.func158 Tryz.ntmps158 @hc' ?_;(repeat intro K hK);apply wr
 (refine au1 @hc' ?_;(repeat intro K hK);apply wr)
 repeat' ((first|(refine zAC rfl (fun h=>?_) (fun h=>?_)<;>(first|(simp [hc'] at h;done)|(simp [hc'] at h)|skip)<;>(first|(exfalso;omega)|skip))|refine zAL 1 ?_|refine zAH fun K hK=>?_|(refine zAA ?_;simp [hc'];(first|done|rfl|decide);done)|(refine zAI ?_;refine zAA ?_;simp [hc'];(first|done|rfl|decide);done)|fail)<;>(refine au1 @hc' ?_;(repeat intro K hK);apply wr))
theorem zPe {nx:Nat} {ob:List (Nat × Option Ob)} (id:Nat) (r:Str) (hr:r.length≤100000) (hob:lookO ob id=some (rdO (0::r))) :
  InlC Tryz.prog 215 [.ptr id 2 0 0] nx ob fun v nx' ob'=>v=lv 0∧nx'=nx+3∧ob'=(id,some (rdO r))::ob:=by
 refine InlC.of Tryz.func215 rfl (by kernel_rfl) rfl ?_
 simp only [Tryz.ntmps215,St.startI,argT];refine au1 @hob ?_;intros;apply wr;exact wx1 (qX1 (zMu r hr)) trivial @hob
theorem zTT (r:Str) (hr:r.length≤100000):zAD Tryz.prog 158 [.str (1::r)] (.tup [lv 1,iv 1,.bool true]):=by
 by_cases hc:10<r.length+1
 ·have hc':(10:Int)<(r.length:Int)+1:=by omega
  refine sY Tryz.func158 Tryz.ntmps158 @hc' ?_;(repeat intro K hK);apply wr
  (refine au1 @hc' ?_;(repeat intro K hK);apply wr)
  repeat' ((first|(refine zAC rfl (fun h=>?_) (fun h=>?_)<;>(first|(simp [hc'] at h;done)|(simp [hc'] at h)|skip)<;>(first|(exfalso;omega)|skip))|refine zAL 1 ?_|refine zAH fun K hK=>?_|(refine zAA ?_;simp [hc'];(first|done|rfl|decide);done)|(refine zAI ?_;refine zAA ?_;simp [hc'];(first|done|rfl|decide);done)|fail)<;>(refine au1 @hc' ?_;(repeat intro K hK);apply wr))
 have hc':¬ (10:Int)<(r.length:Int)+1:=by omega
 refine sY Tryz.func158 Tryz.ntmps158 @hc' ?_;(repeat intro K hK);apply wr
 (refine au1 @hc' ?_;(repeat intro K hK);apply wr)
 repeat' ((first|(refine zAC rfl (fun h=>?_) (fun h=>?_)<;>(first|(simp [hc'] at h;done)|(simp [hc'] at h)|skip)<;>(first|(exfalso;omega)|skip))|refine zAL 1 ?_|refine zAH fun K hK=>?_|(refine zAA ?_;simp [hc'];(first|done|rfl|decide);done)|(refine zAI ?_;refine zAA ?_;simp [hc'];(first|done|rfl|decide);done)|fail)<;>(refine au1 @hc' ?_;(repeat intro K hK);apply wr))
theorem zPf {nx:Nat} {ob:List (Nat × Option Ob)} (id:Nat) (r:Str) (hr:r.length≤100000) (hob:lookO ob id=some (rdO (1::r))) :
  InlC Tryz.prog 215 [.ptr id 2 0 0] nx ob fun v nx' ob'=>v=lv 1∧nx'=nx+3∧ob'=(id,some (rdO r))::ob:=by
 refine InlC.of Tryz.func215 rfl (by kernel_rfl) rfl ?_
 simp only [Tryz.ntmps215,St.startI,argT];refine au1 @hob ?_;intros;apply wr;exact wx1 (qX1 (zTT r hr)) trivial @hob
theorem zTU (r:Str) (hr:r.length≤100000):zAD Tryz.prog 158 [.str (3::r)] (.tup [lv 3,iv 1,.bool true]):=by
 by_cases hc:10<r.length+1
 ·have hc':(10:Int)<(r.length:Int)+1:=by omega
  refine sY Tryz.func158 Tryz.ntmps158 @hc' ?_;(repeat intro K hK);apply wr
  (refine au1 @hc' ?_;(repeat intro K hK);apply wr)
  repeat' ((first|(refine zAC rfl (fun h=>?_) (fun h=>?_)<;>(first|(simp [hc'] at h;done)|(simp [hc'] at h)|skip)<;>(first|(exfalso;omega)|skip))|refine zAL 1 ?_|refine zAH fun K hK=>?_|(refine zAA ?_;simp [hc'];(first|done|rfl|decide);done)|(refine zAI ?_;refine zAA ?_;simp [hc'];(first|done|rfl|decide);done)|fail)<;>(refine au1 @hc' ?_;(repeat intro K hK);apply wr))
 have hc':¬ (10:Int)<(r.length:Int)+1:=by omega
 refine sY Tryz.func158 Tryz.ntmps158 @hc' ?_;(repeat intro K hK);apply wr
 (refine au1 @hc' ?_;(repeat intro K hK);apply wr)
 repeat' ((first|(refine zAC rfl (fun h=>?_) (fun h=>?_)<;>(first|(simp [hc'] at h;done)|(simp [hc'] at h)|skip)<;>(first|(exfalso;omega)|skip))|refine zAL 1 ?_|refine zAH fun K hK=>?_|(refine zAA ?_;simp [hc'];(first|done|rfl|decide);done)|(refine zAI ?_;refine zAA ?_;simp [hc'];(first|done|rfl|decide);done)|fail)<;>(refine au1 @hc' ?_;(repeat intro K hK);apply wr))
theorem zTV (r:Str) (hr:r.length≤100000):zAD Tryz.prog 158 [.str (5::r)] (.tup [lv 5,iv 1,.bool true]):=by
 by_cases hc:10<r.length+1
 ·have hc':(10:Int)<(r.length:Int)+1:=by omega
  refine sY Tryz.func158 Tryz.ntmps158 @hc' ?_;(repeat intro K hK);apply wr
  (refine au1 @hc' ?_;(repeat intro K hK);apply wr)
  repeat' ((first|(refine zAC rfl (fun h=>?_) (fun h=>?_)<;>(first|(simp [hc'] at h;done)|(simp [hc'] at h)|skip)<;>(first|(exfalso;omega)|skip))|refine zAL 1 ?_|refine zAH fun K hK=>?_|(refine zAA ?_;simp [hc'];(first|done|rfl|decide);done)|(refine zAI ?_;refine zAA ?_;simp [hc'];(first|done|rfl|decide);done)|fail)<;>(refine au1 @hc' ?_;(repeat intro K hK);apply wr))
 have hc':¬ (10:Int)<(r.length:Int)+1:=by omega
 refine sY Tryz.func158 Tryz.ntmps158 @hc' ?_;(repeat intro K hK);apply wr
 (refine au1 @hc' ?_;(repeat intro K hK);apply wr)
 repeat' ((first|(refine zAC rfl (fun h=>?_) (fun h=>?_)<;>(first|(simp [hc'] at h;done)|(simp [hc'] at h)|skip)<;>(first|(exfalso;omega)|skip))|refine zAL 1 ?_|refine zAH fun K hK=>?_|(refine zAA ?_;simp [hc'];(first|done|rfl|decide);done)|(refine zAI ?_;refine zAA ?_;simp [hc'];(first|done|rfl|decide);done)|fail)<;>(refine au1 @hc' ?_;(repeat intro K hK);apply wr))
theorem zPg {nx:Nat} {ob:List (Nat × Option Ob)} (id:Nat) (r:Str) (hr:r.length≤100000) (hob:lookO ob id=some (rdO (5::r))) :
  InlC Tryz.prog 215 [.ptr id 2 0 0] nx ob fun v nx' ob'=>v=lv 5∧nx'=nx+3∧ob'=(id,some (rdO r))::ob:=by
 refine InlC.of Tryz.func215 rfl (by kernel_rfl) rfl ?_
 simp only [Tryz.ntmps215,St.startI,argT];refine au1 @hob ?_;intros;apply wr;exact wx1 (qX1 (zTV r hr)) trivial @hob
theorem zLe {nx:Nat} {ob:List (Nat × Option Ob)} (id:Nat) (r:Str) (hr:r.length≤10000) (hob:lookO ob id=some (rdO (5::68::0::3::0::0::r))) :
  InlC Tryz.prog 216 [.ptr id 2 0 0] nx ob fun v nx' ob'=>v=.str [68,0,3,0,0]∧nx'=nx+3∧ob'=(id,some (rdO r))::(id,some (rdO (68::0::3::0::0::r)))::ob:=by
 have hw:IntKind.u64.wrap ((r.length:Int)+1+1+1+1+1)=(r.length:Int)+5:=by rw [IntKind.wrap_u64];omega
 have ht:((r.length:Int)+1+1+1+1+1).toNat=r.length+1+1+1+1+1:=by omega
 refine InlC.of Tryz.func216 rfl (by kernel_rfl) rfl ?_
 simp only [Tryz.ntmps216,St.startI,argT];refine au1 @hob ?_;intros;apply wr
 (refine au1 (kX3 @hob @hw @ht) ?_;intros;apply wr)
 repeat' ((first|(refine zAC rfl (fun h=>?_) (fun h=>?_)<;>(first|(simp [hob,hw,ht] at h;done)|(simp [hob,hw,ht] at h)|skip)<;>(first|(exfalso;omega)|skip))|((first|refine .inr ((zPg id (68::0::3::0::0::r) (by simp;omega) hob).mono fun r nx' ob' hp=>?_)|refine (zPg id (68::0::3::0::0::r) (by simp;omega) hob).mono fun r nx' ob' hp=>?_);obtain ⟨rfl,rfl,rfl⟩:=hp;simp [aftI,hob,hw,ht])|exact rt1 (kX3 @hob @hw @ht)|fail)<;>(refine au1 (kX3 @hob @hw @ht) ?_;intros;apply wr))
theorem zSV:zAD Tryz.prog 160 [.str pkA] (.tup [lv 1,.str [68,0,3,0,0],iv 0]):=by
 obtain ⟨z,hz⟩:∃ z,z=zGj 14695981039346656037 (zDa 1 [68,0,3,0,0]):=⟨_,rfl⟩;have hs:=zT9 (zDa 1 [68,0,3,0,0]) (by decide)
 have hl:=zC1 z;rw [show pkA=1::5::68::0::3::0::0::sumD z by rw [hz];rfl]
 rw [← hz,show zDa 1 [68,0,3,0,0]=[1,5,68,0,3,0,0] by rfl] at hs
 clear hz;generalize sumD z=q at *
 refine sX Tryz.func160 Tryz.ntmps160 ?_;intros;apply wr
 (refine af1 @hl ?_;intros;apply wr)
 repeat' ((first|(refine zAC rfl (fun h=>?_) (fun h=>?_)<;>(first|(simp [hl] at h;done)|(simp [hl] at h)|skip)<;>(first|(exfalso;omega)|skip))|((first|refine .inr ((zPf 0 (5::68::0::3::0::0::q) (by simp;omega) (by simp [lookO])).mono fun r nx' ob' hp=>?_)|refine (zPf 0 (5::68::0::3::0::0::q) (by simp;omega) (by simp [lookO])).mono fun r nx' ob' hp=>?_);obtain ⟨rfl,rfl,rfl⟩:=hp;simp [aftI,hl])|((first|refine .inr ((zLe 0 q (by omega) (by simp [lookO])).mono fun r nx' ob' hp=>?_)|refine (zLe 0 q (by omega) (by simp [lookO])).mono fun r nx' ob' hp=>?_);obtain ⟨rfl,rfl,rfl⟩:=hp;simp [aftI,hl])|refine cc1 (hs) @hl ?_|(refine zAG 11 [0,0,2,6,15,31,0,64,192,448,1023] [(10,([[],[],[1],[1,2],[0,1,2,3],[0,1,2,3,4],[],[6],[6,7],[6,7,8]],[(9,5)])),(1,([],[]))] ?_)|exact rt1 @hl|fail)<;>(refine af1 @hl ?_;intros;apply wr))
theorem zPk:zAD Tryz.prog 157 [.str pkA,.int .u8 68] (.tup [lv 1,.str [0,3,0,0],.bool true]):=by
 refine sZ Tryz.func157 Tryz.ntmps157 ?_
 (refine af ?_;intros;apply wr)
 repeat' ((first|(refine zAC rfl (fun h=>?_) (fun h=>?_)<;>(first|(simp at h;done)|(simp at h)|skip)<;>(first|(exfalso;omega)|skip))|refine cc (zSV) ?_|(refine zAG 6 [0,0,2,1,15,31] [(4,([[],[],[1],[0]],[])),(1,([],[])),(1,([],[]))] ?_)|exact rt|fail)<;>(refine af ?_;intros;apply wr))
abbrev earO (xs:List (List V)):Ob:=⟨153,4,false,false,xs⟩
theorem zN4:zAD Tryz.prog 217 [.str [0,0],iv 65536] (.tup [.str [0],iv 0]):=by
 refine sX Tryz.func217 Tryz.ntmps217 ?_;(repeat intro K hK);apply wr
 refine zAW 6 5 1 (by decide) rfl ?_
 (refine af1 (kX2 @maxLen.eq_1 @zAU.eq_1) ?_;(repeat intro K hK);apply wr)
 repeat' ((first|(refine zAC rfl (fun h=>?_) (fun h=>?_)<;>(first|(simp [maxLen,zAU] at h;done)|(simp [maxLen,zAU] at h)|skip)<;>(first|(exfalso;omega)|skip))|refine zAL 2 ?_|refine zAH fun K hK=>?_|(refine zAG 8 [0,1,0,0,12,28,3,127] [(7,([[],[0],[],[],[2,3],[2,3,4],[0,1]],[])),(1,([],[]))] ?_)|exact rt1 (kX2 @maxLen.eq_1 @zAU.eq_1)|fail)<;>(refine af1 (kX2 @maxLen.eq_1 @zAU.eq_1) ?_;(repeat intro K hK);apply wr))
theorem zRc (k:Int):zAD Tryz.prog 218 [.str [0],lv k] (.tup [.sl 4 false [],iv 0]):=by
 refine sX Tryz.func218 Tryz.ntmps218 ?_;(repeat intro K hK);apply wr
 (refine au ?_;(repeat intro K hK);apply wr)
 repeat' ((first|(refine zAC rfl (fun h=>?_) (fun h=>?_)<;>(first|(simp at h;done)|(simp at h)|skip)<;>(first|(exfalso;omega)|skip))|((first|refine .inr ((zPe 0 [] (by simp) (by simp [lookO])).mono fun r nx' ob' hp=>?_)|refine (zPe 0 [] (by simp) (by simp [lookO])).mono fun r nx' ob' hp=>?_);obtain ⟨rfl,rfl,rfl⟩:=hp;simp [aftI])|refine cc (zLi k) ?_|refine zAL 1 ?_|refine zAH fun K hK=>?_|exact rt|fail)<;>(refine au ?_;(repeat intro K hK);apply wr))
theorem zUb:zAD Tryz.prog 163 [.str [0,3,0,0]] (.tup [.st [lv 0,lv 3,.sl 4 false []],iv 0]):=by
 refine sZ Tryz.func163 Tryz.ntmps163 ?_;exact wx (qX5 (zMu [3,0,0] (by decide)) (zTU [0,0] (by decide)) (zN4) (zRc 0) (zHR 3)) trivial
theorem zKa (a b:Int):zAD Tryz.prog 162 [.st [lv a,lv b,.sl 4 false []]] (.st [lv a,lv b,.new 153 4 []]):=by
 refine sZ Tryz.func162 Tryz.ntmps162 ?_;refine aum1 @maxLen.eq_1 ?_;(repeat intro K hK);apply wr
 (refine af1 @maxLen.eq_1 ?_;(repeat intro K hK);apply wr)
 repeat' ((first|(refine zAC rfl (fun h=>?_) (fun h=>?_)<;>(first|(simp [maxLen] at h;done)|(simp [maxLen] at h)|skip)<;>(first|(exfalso;omega)|skip))|refine zAL 1 ?_|refine zAH fun K hK=>?_|(refine zAG 10 [0,0,2,0,8,24,62,126,255,511] [(8,([[],[],[1],[],[3],[3,4],[1,2,3,4,5],[1,2,3,4,5,6]],[(2,5)])),(1,([],[])),(1,([],[]))] ?_)|exact rt1 @maxLen.eq_1|fail)<;>(refine af1 @maxLen.eq_1 ?_;(repeat intro K hK);apply wr))
theorem zNk:zAD Tryz.prog 105 [.st [lv 1,lv 0,.sl 4 false []]] (.bool true):=by
 refine sX Tryz.func105 Tryz.ntmps105 ?_;(repeat intro K hK);apply wr
 (refine au ?_;(repeat intro K hK);apply wr)
 repeat' ((first|(refine zAC rfl (fun h=>?_) (fun h=>?_)<;>(first|(simp at h;done)|(simp at h)|skip)<;>(first|(exfalso;omega)|skip))|refine zAL 1 ?_|refine zAH fun K hK=>?_|exact rt|fail)<;>(refine au ?_;(repeat intro K hK);apply wr))
theorem zLn (k:Int) (f:V) (hf:okGs [f]):zAD Tryz.prog 164 [.sl 4 false [],lv k,f] (.tup [iv 0,.bool false]):=by
 refine sX Tryz.func164 Tryz.ntmps164 ?_;(repeat intro K hK);apply wr
 (refine au ?_;(repeat intro K hK);apply wr)
 repeat' ((first|(refine zAC rfl (fun h=>?_) (fun h=>?_)<;>(first|(simp at h;done)|(simp at h)|skip)<;>(first|(exfalso;omega)|skip))|refine zAL 1 ?_|refine zAH fun K hK=>?_|exact rt|fail)<;>(refine au ?_;(repeat intro K hK);apply wr))
theorem zPI {nx:Nat} {ob:List (Nat × Option Ob)} (i k:Nat) (y:List V) (hi:lookO ob i=some (earO [])) (hk:lookO ob k=some (earO [y])) (hne:k≠i) :
  InlC Tryz.prog 167 [.own i,iv 0,.own k] nx ob fun r nx' ob'=>r=.own nx∧nx'=nx+1∧ob'=(nx,some (earO [y]))::(i,none)::ob:=by
 refine InlC.of Tryz.func167 rfl (by kernel_rfl) rfl ?_
 simp only [Tryz.ntmps167,St.startI,argT];refine au1 (kX2 @hi @hk) ?_;intros;apply wr
 (refine af1 (kX6 @hi @hk @hne @maxLen.eq_1 @prtV.eq_1 @prtP.eq_1) ?_;intros;apply wr)
 repeat' ((first|(refine zAC rfl (fun h=>?_) (fun h=>?_)<;>(first|(simp [hi,hk,hne,maxLen,prtV,prtP] at h;done)|(simp [hi,hk,hne,maxLen,prtV,prtP] at h)|skip)<;>(first|(exfalso;omega)|skip))|(refine zAG (rid:=11) 9 [0,0,0,6,15,0,0,96,255] [(8,([[],[],[],[1,2],[0,1,2,3],[],[],[5,6]],[])),(1,([],[]))] ?_)|(refine zAG (rid:=15) 9 [0,0,0,6,15,0,0,96,255] [(8,([[],[],[],[1,2],[0,1,2,3],[],[],[5,6]],[])),(1,([],[]))] ?_)|exact rt1 (kX6 @hi @hk @hne @maxLen.eq_1 @prtV.eq_1 @prtP.eq_1)|fail)<;>(refine af1 (kX6 @hi @hk @hne @maxLen.eq_1 @prtV.eq_1 @prtP.eq_1) ?_;intros;apply wr))
theorem zOb {nx:Nat} {ob:List (Nat × Option Ob)} (i:Nat) (y:List V) (hi:lookO ob i=some (earO [y])) (hy:y.length=4) :
  InlC Tryz.prog 168 [.own i,iv 0,iv 1] nx ob fun r nx' ob'=>r=.own nx∧nx'=nx+1∧ob'=(nx,some (earO []))::(i,none)::(i,some (earO [[lv 0,lv 0,lv 0,.sl 0 true []]]))::(i,some (earO [y]))::ob:=by
 refine InlC.of Tryz.func168 rfl (by kernel_rfl) rfl ?_
 simp only [Tryz.ntmps168,St.startI,argT];refine au1 @hi ?_;intros;apply wr
 (refine af1 (kX3 @hi @hy @maxLen.eq_1) ?_;intros;apply wr)
 repeat' ((first|(refine zAC rfl (fun h=>?_) (fun h=>?_)<;>(first|(simp [hi,hy,maxLen] at h;done)|(simp [hi,hy,maxLen] at h)|skip)<;>(first|(exfalso;omega)|skip))|(refine zAG 8 [0,0,3,0,0,24,63,127] [(6,([[],[],[0,1],[],[],[3,4]],[])),(1,([],[])),(1,([],[]))] ?_)|exact rt1 (kX3 @hi @hy @maxLen.eq_1)|fail)<;>(refine af1 (kX3 @hi @hy @maxLen.eq_1) ?_;intros;apply wr))
 refine zOE (sz:=4) (k:=0) 6 i (by simp [lkT]) (by simp [lookO];rfl) rfl rfl (Nat.zero_le _) ?_
 refine zAA ?_;simp
theorem zTL:zAD Tryz.prog 110 [.st [lv 1,lv 0,.sl 4 false []],.str pkA] (.tup [.st [lv 2,lv 3,.sl 4 false []],.sl 3 false [[lv 0,lv 3,.sl 4 false []]],.bool true]):=by
 refine sX Tryz.func110 Tryz.ntmps110 ?_;(repeat intro K hK);apply wr
 (refine af1 @maxLen.eq_1 ?_;(repeat intro K hK);apply wr)
 repeat' ((first|(refine zAC rfl (fun h=>?_) (fun h=>?_)<;>(first|(simp [maxLen] at h;done)|(simp [maxLen] at h)|skip)<;>(first|(exfalso;omega)|skip))|((first|refine .inl ⟨1,_,zLn 1 (.fn 165) (by simp [okGs,okG]),?_⟩|refine ⟨1,_,zLn 1 (.fn 165) (by simp [okGs,okG]),?_⟩);simp [aftC,aftE,noX,noXc,noX1,maxLen];first|refine And.intro zAP ?_|skip)|((first|refine .inr ((zPI 4 17 [lv 1,lv 0,lv 3,.sl 4 false []] (by simp [lookO]) (by simp [lookO]) (by decide)).mono fun r nx' ob' hp=>?_)|refine (zPI 4 17 [lv 1,lv 0,lv 3,.sl 4 false []] (by simp [lookO]) (by simp [lookO]) (by decide)).mono fun r nx' ob' hp=>?_);obtain ⟨rfl,rfl,rfl⟩:=hp;simp [aftI,maxLen])|((first|refine .inr ((zOb 18 [lv 1,lv 0,lv 3,.sl 4 false []] (by simp [lookO]) rfl).mono fun r nx' ob' hp=>?_)|refine (zOb 18 [lv 1,lv 0,lv 3,.sl 4 false []] (by simp [lookO]) rfl).mono fun r nx' ob' hp=>?_);obtain ⟨rfl,rfl,rfl⟩:=hp;simp [aftI,maxLen])|refine cc1 (zKa 1 0) @maxLen.eq_1 ?_|refine cc1 (zPk) @maxLen.eq_1 ?_|refine cc1 (zNk) @maxLen.eq_1 ?_|refine cc1 (zUb) @maxLen.eq_1 ?_|refine zAL 2 ?_|refine zAH fun K hK=>?_|(refine zAG 14 [0,1,3,7,15,31,63,127,255,511,31,1055,4095,8191] [(1,([],[])),(1,([],[])),(1,([],[])),(1,([],[])),(1,([],[])),(7,([[],[0],[0,1],[0,1,2],[0,1,2,3],[],[5]],[])),(1,([],[])),(1,([],[]))] ?_)|exact rt1 @maxLen.eq_1|fail)<;>(refine af1 @maxLen.eq_1 ?_;(repeat intro K hK);apply wr))
abbrev wB (s c n k a b:Int):RepD:=repQ 1 2 1 zMch 0 (mk s c n) k 0 0 0 0 0 0 0 a b 2 0 0 0 0 0 []
abbrev rplR (s c n k:Int):RplD:=⟨mk s c n,[],k,0⟩
theorem zRm:zAD Tryz.prog 169 [.st (rplR 1 0 0 0).row,.sl 4 false [],lv 3] (.tup [.st (rplR 1 0 0 3).row,.bool true]):=by
 refine sX Tryz.func169 Tryz.ntmps169 ?_;(repeat intro K hK);apply wr
 (refine au ?_;(repeat intro K hK);apply wr)
 repeat' ((first|(refine zAC rfl (fun h=>?_) (fun h=>?_)<;>(first|(simp at h;done)|(simp at h)|skip)<;>(first|(exfalso;omega)|skip))|refine cc (zGz (rplR 1 0 0 0) (lenM _ _ _) (by simp)) ?_|refine cc (zFT) ?_|refine cc (zPl) ?_|refine zAL 1 ?_|refine zAH fun K hK=>?_|exact rt|fail)<;>(refine au ?_;(repeat intro K hK);apply wr))
theorem zKc:zAD Tryz.prog 111 [.st (wB 1 0 0 0 1 0).row,.st [lv 2,lv 3,.sl 4 false []],.sl 3 false [[lv 0,lv 3,.sl 4 false []]]] (.tup [.st (wB 1 0 0 3 2 3).row,.bool true]):=by
 refine sX Tryz.func111 Tryz.ntmps111 ?_;(repeat intro K hK);apply wr
 (refine af ?_;(repeat intro K hK);apply wr)
 repeat' ((first|(refine zAC rfl (fun h=>?_) (fun h=>?_)<;>(first|(simp at h;done)|(simp at h)|skip)<;>(first|(exfalso;omega)|skip))|refine cc (zRm) ?_|refine cc (zFT) ?_|refine zAL 2 ?_|refine zAH fun K hK=>?_|(refine zAG (rid:=1) 7 [0,1,0,4,0,19,63] [(6,([[],[0],[],[2],[],[0,1,4]],[(1,4),(3,4),(3,5)])),(1,([],[]))] ?_)|(refine zAG (rid:=11) 9 [0,0,0,1,9,27,59,127,255] [(7,([[],[],[],[0],[0,3],[0,1,3,4],[0,1,3,4,5]],[(1,4)])),(1,([],[])),(1,([],[]))] ?_)|exact rt|fail)<;>(refine af ?_;(repeat intro K hK);apply wr))
theorem zM4:zAD Tryz.prog 58 [.st (wB 1 0 0 0 1 0).row,.str pkA] (.tup [.st (wB 1 0 0 3 2 3).row,.bool true]):=by
 refine sZ Tryz.func58 Tryz.ntmps58 ?_;exact wx (qX2 (zTL) (zKc)) trivial
theorem zJG (s c n k a b:Int):zAD Tryz.prog 27 [.st (wB s c n k a b).row] (.st (wB s c n k a b).row) :=
 zJF 1 2 1 zMch 0 (mk s c n) k 0 0 0 0 0 0 0 a b 2 0 0 0 0 0 (by decide) (lenM _ _ _)
theorem zS1:zAD Tryz.prog 21 [.st (wB 1 0 0 0 1 0).row,.str pkA] (.tup [.st (wB 1 0 0 3 2 3).row,.bool true]):=by
 refine sZ Tryz.func21 Tryz.ntmps21 ?_;exact wx (qX2 (zJG 1 0 0 0 1 0) (zM4)) trivial
theorem zQA {nx:Nat} {ob:List (Nat × Option Ob)} (id sz off:Nat) (k:Int) :
  InlC Tryz.prog 126 [.ptr id sz 0 off,lv k] nx ob fun r nx' ob'=>r=.cap 184 [] [some (nx,1),some (nx+1,1)]∧nx'=nx+2∧ob'=(nx+1,some ⟨24,1,true,false,[[lv k]]⟩)::(nx,some ⟨229,1,true,false,[[.ptr id sz 0 off]]⟩)::ob:=by
 refine InlC.of Tryz.func126 rfl (by kernel_rfl) rfl ?_
 simp only [Tryz.ntmps126,St.startI,argT];refine au ?_;intros;apply wr;exact wx trivial trivial
theorem zUg {nx:Nat} {ob:List (Nat × Option Ob)} (a b id sz off:Nat) (k:Int) (cs:List V) (ha:lookO ob a=some ⟨229,1,true,false,[[.ptr id sz 0 off]]⟩) (hb:lookO ob b=some ⟨24,1,true,false,[[lv k]]⟩)
  (hi:lookO ob id=some ⟨48,sz,true,false,[cs]⟩) (hc:cs[off]? =some (.sl 4 false [])) (ho:off<sz) :
  InlC Tryz.prog 184 [.poi,.ptr a 1 0 0,.ptr b 1 0 0] nx ob fun r nx' ob'=>r=.tup []∧nx'=nx∧ob'=ob:=by
 refine InlC.of Tryz.func184 rfl (by kernel_rfl) rfl ?_
 simp only [Tryz.ntmps184,St.startI,argT];refine au1 (kX5 @ha @hb @hi @hc @ho) ?_;(repeat intro K hK);apply wr
 (first|(refine af1 (kX5 @ha @hb @hi @hc @ho) ?_;(repeat intro K hK);apply wr)|exact afd1 (kX5 @ha @hb @hi @hc @ho))
 repeat' ((first|(refine zAC rfl (fun h=>?_) (fun h=>?_)<;>(first|(simp [ha,hb,hi,hc,ho] at h;done)|(simp [ha,hb,hi,hc,ho] at h)|skip)<;>(first|(exfalso;omega)|skip))|refine zAL 1 ?_|refine zAH fun K hK=>?_|(refine zAG (rid:=0) 25 [0,1,3,7,15,31,63,127,255,511,1023,2047,63,8191,16383,32767,65535,131071,262143,524287,1048575,2097151,4194303,8388607,16777215] [(1,([],[])),(1,([],[])),(1,([],[])),(1,([],[])),(1,([],[])),(1,([],[])),(7,([[],[0],[0,1],[0,1,2],[0,1,2,3],[0,1,2,3,4],[]],[])),(1,([],[])),(1,([],[])),(1,([],[])),(1,([],[])),(1,([],[])),(1,([],[])),(1,([],[])),(1,([],[])),(1,([],[])),(1,([],[])),(1,([],[])),(1,([],[]))] ?_)|(refine zAG (rid:=2) 7 [0,0,2,6,14,31,63] [(5,([[],[],[1],[1,2],[1,2,3]],[])),(1,([],[])),(1,([],[]))] ?_)|exact rt1 (kX5 @ha @hb @hi @hc @ho)|fail)<;>(first|(refine af1 (kX5 @ha @hb @hi @hc @ho) ?_;(repeat intro K hK);apply wr)|exact afd1 (kX5 @ha @hb @hi @hc @ho)))
end Go.Proofs.YtoondlebmacanaaGreat.Fx
end
