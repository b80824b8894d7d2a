/- A part of the proof of ReplicaBare+ReplicaWindow. -/
import Derived.Test.YtoondlebmacanaaGreatB03
import Derived.Test.YtoondlebmacanaaGreatB04
import Derived.Test.YtoondlebmacanaaGreatB09
set_option linter.unusedSimpArgs false
set_option linter.unusedVariables false
set_option maxHeartbeats 16000000
set_option maxRecDepth 100000
section
namespace Go.Proofs.YtoondlebmacanaaGreat.Fx
open Go.Ab Go.RowKit
theorem zLr (a b:Int):zAD Tryz.prog 99 [.st [.sl 4 false [],lv a,lv b]] (.bool true):=by
 refine sX Tryz.func99 Tryz.ntmps99 ?_;(repeat intro K hK);apply wr
 (refine au ?_;(repeat intro K hK);apply wr)
 repeat' ((first|(refine zAC rfl (fun h=>?_) (fun h=>?_)<;>(first|(simp at h;done)|(simp at h)|skip)<;>(first|(exfalso;omega)|skip))|refine zAL 1 ?_|refine zAH fun K hK=>?_|exact rt|fail)<;>(refine au ?_;(repeat intro K hK);apply wr))
theorem zLv (a b:Int):zAD Tryz.prog 74 [.st [.sl 4 false [],lv a,lv b],.sl 4 false []] (.tup [.st [.sl 4 false [],lv a,lv b],.bool true]):=by
 refine sX Tryz.func74 Tryz.ntmps74 ?_;(repeat intro K hK);apply wr
 (refine au ?_;(repeat intro K hK);apply wr)
 repeat' ((first|(refine zAC rfl (fun h=>?_) (fun h=>?_)<;>(first|(simp at h;done)|(simp at h)|skip)<;>(first|(exfalso;omega)|skip))|refine cc (zFs [] false 4 (.inl rfl) (by simp)) ?_|refine cc (zLr a b) ?_|refine zAL 1 ?_|refine zAH fun K hK=>?_|exact rt|fail)<;>(refine au ?_;(repeat intro K hK);apply wr))
theorem zVi (a b k:Int) (hka:k≤a):zAD Tryz.prog 52 [.st [.sl 4 false [],lv a,lv b],lv k] (.tup [.st [.sl 4 false [],lv a,lv b],.sl 5 false []]):=by
 refine sX Tryz.func52 Tryz.ntmps52 ?_;(repeat intro K hK);apply wr
 (refine au1 @hka ?_;(repeat intro K hK);apply wr)
 repeat' ((first|(refine zAC rfl (fun h=>?_) (fun h=>?_)<;>(first|(simp [hka] at h;done)|(simp [hka] at h)|skip)<;>(first|(exfalso;omega)|skip))|refine cc1 (zFs [] false 4 (.inl rfl) (by simp)) @hka ?_|refine cc1 (zLr a b) @hka ?_|refine zAL 1 ?_|refine zAH fun K hK=>?_|exact rt1 @hka|fail)<;>(refine au1 @hka ?_;(repeat intro K hK);apply wr))
theorem zEe (r:RepD):zAD Tryz.prog 19 [.st r.row] (.bool (decide (r.role=1)||decide (r.role=3))):=by
 refine sZ Tryz.func19 Tryz.ntmps19 ?_;exact wx trivial trivial
theorem zH5 (r:RepD):zAD Tryz.prog 47 [.st r.row] (.bool ((decide (r.role=1)||decide (r.role=3))&&decide (r.rec_.m.dk.state=1))):=by
 refine sZ Tryz.func47 Tryz.ntmps47 ?_;exact wx (qX1 (zEe r)) trivial
theorem zUZ (s c n k:Int):zAD Tryz.prog 75 [.st (recR s c n k).row] (.tup [.st (recR s c n k).row,.sl 4 false [],lv n]):=by
 refine sZ Tryz.func75 Tryz.ntmps75 ?_
 (refine af1 @mk.eq_1 ?_;intros;apply wr)
 repeat' ((first|(refine zAC rfl (fun h=>?_) (fun h=>?_)<;>(first|(simp [mk] at h;done)|(simp [mk] at h)|skip)<;>(first|(exfalso;omega)|skip))|refine cc1 (zE8 (recR s c n k) (lenM _ _ _) (by simp) (by simp)) @mk.eq_1 ?_|(refine zAG 8 [0,0,0,4,12,1,35,127] [(7,([[],[],[],[2],[2,3],[0],[0,1,5]],[(4,5)])),(1,([],[]))] ?_)|exact rt1 @mk.eq_1|fail)<;>(refine af1 @mk.eq_1 ?_;intros;apply wr))
theorem zRs:zAD Tryz.prog 122 [.sl 0 true [],iv 0] (.sl 0 true []):=by
 refine sZ Tryz.func122 Tryz.ntmps122 ?_;exact wx trivial trivial
theorem zFT:zAD Tryz.prog 76 [.sl 1 false [[.sl 4 false []],[.sl 4 false []]]] (.sl 4 false []):=by
 refine sX Tryz.func76 Tryz.ntmps76 ?_;(repeat intro K hK);apply wr
 (refine au ?_;(repeat intro K hK);apply wr)
 repeat' ((first|(refine zAC rfl (fun h=>?_) (fun h=>?_)<;>(first|(simp at h;done)|(simp at h)|skip)<;>(first|(exfalso;omega)|skip))|refine cc (zRs) ?_|refine zAL 3 ?_|refine zAH fun K hK=>?_|exact rt|fail)<;>(refine au ?_;(repeat intro K hK);apply wr))
theorem zPG (g:Nat) (cs:List V):zAD Tryz.prog 313 [.sl 4 false [],.clo g cs] (iv (-1)):=by
 refine sX Tryz.func313 Tryz.ntmps313 ?_;(repeat intro K hK);apply wr
 (refine au ?_;(repeat intro K hK);apply wr)
 repeat' ((first|(refine zAC rfl (fun h=>?_) (fun h=>?_)<;>(first|(simp at h;done)|(simp at h)|skip)<;>(first|(exfalso;omega)|skip))|refine zAL 1 ?_|refine zAH fun K hK=>?_|exact rt|fail)<;>(refine au ?_;(repeat intro K hK);apply wr))
theorem zRb (g:Nat) (cs:List V):zAD Tryz.prog 250 [.sl 4 false [],.clo g cs] (.bool false):=by
 refine sZ Tryz.func250 Tryz.ntmps250 ?_;exact wx (qX1 (zPG g cs)) trivial
theorem zHR (k:Int):zAD Tryz.prog 182 [.sl 4 false [],lv k] (.bool false):=by
 refine sZ Tryz.func182 Tryz.ntmps182 ?_;exact wx (qX1 (zRb _ _)) trivial
theorem zPl:zAD Tryz.prog 222 [.sl 4 false []] (.bool true):=by
 refine sX Tryz.func222 Tryz.ntmps222 ?_;(repeat intro K hK);apply wr
 (refine af ?_;(repeat intro K hK);apply wr)
 repeat' ((first|(refine zAC rfl (fun h=>?_) (fun h=>?_)<;>(first|(simp at h;done)|(simp at h)|skip)<;>(first|(exfalso;omega)|skip))|refine zAL 1 ?_|refine zAH fun K hK=>?_|(refine zAv (.node 9 10 (.leaf [0,1,2,3,4,5,6,7,8,9,10,11,12] (bN [0,0,2,7,15,0,0,96,224,0,512,1567,4095]) [(12,([[],[],[1],[0,1,2],[0,1,2,3],[],[],[5,6],[5,6,7],[],[9],[0,1,2,3,4,9,10]],[(3,9),(3,10),(4,9),(4,10),(7,9),(7,10),(7,11),(8,9),(8,10),(8,11)])),(1,([],[]))]) (.leaf [0,1,2,3,4,5,6,7,8,10,9,11,12] (bN [0,0,2,7,15,0,0,96,224,0,512,1567,4095]) [(12,([[],[],[1],[0,1,2],[0,1,2,3],[],[],[5,6],[5,6,7],[],[9],[0,1,2,3,4,9,10]],[(3,9),(3,10),(4,9),(4,10),(7,9),(7,10),(7,11),(8,9),(8,10),(8,11)])),(1,([],[]))])) (by kernel_rfl) (by kernel_rfl) ?_;simp only [PT.run];repeat' (with_reducible apply And.intro);all_goals (simp only [zBZ,zWq,List.map_nil,zWi,zWn]))|exact rt|fail)<;>(refine af ?_;(repeat intro K hK);apply wr))
theorem zFd (n:Int) (h0:0≤n) (h1:n<128):zAD Tryz.prog 106 [lv n] (.str [UInt8.ofNat n.toNat]):=by
 have hw:IntKind.u8.wrap n=n:=by rw [IntKind.wrap_u8];omega
 have hb:zB0 [.int .u8 n]:=⟨UInt8.ofNat n.toNat,by simp;omega⟩
 refine sX Tryz.func106 Tryz.ntmps106 ?_;(repeat intro K hK);apply wr
 (refine au1 (kX5 @h0 @h1 @hw @hb @maxLen.eq_1) ?_;(repeat intro K hK);apply wr)
 repeat' ((first|(refine zAC rfl (fun h=>?_) (fun h=>?_)<;>(first|(simp [h0,h1,hw,hb,maxLen] at h;done)|(simp [h0,h1,hw,hb,maxLen] at h)|skip)<;>(first|(exfalso;omega)|skip))|refine zAL 1 ?_|refine zAH fun K hK=>?_|exact rt1 (kX5 @h0 @h1 @hw @hb @maxLen.eq_1)|fail)<;>(refine au1 (kX5 @h0 @h1 @hw @hb @maxLen.eq_1) ?_;(repeat intro K hK);apply wr))
theorem zLi (k:Int):zAD Tryz.prog 183 [.sl 4 false [],lv k] (.tup [.str [0],iv 0]):=by
 refine sX Tryz.func183 Tryz.ntmps183 ?_;(repeat intro K hK);apply wr
 (refine au ?_;(repeat intro K hK);apply wr)
 repeat' ((first|(refine zAC rfl (fun h=>?_) (fun h=>?_)<;>(first|(simp at h;done)|(simp at h)|skip)<;>(first|(exfalso;omega)|skip))|refine cc (zPl) ?_|refine cc (zFd 0 (by decide) (by decide)) ?_|refine zAL 1 ?_|refine zAH fun K hK=>?_|exact rt|fail)<;>(refine au ?_;(repeat intro K hK);apply wr))
 first|refine .inr ((zEV 1 [0] (by simp [lookO]) (by decide) (by decide)).mono fun r nx' ob' hp=>?_)|refine (zEV 1 [0] (by simp [lookO]) (by decide) (by decide)).mono fun r nx' ob' hp=>?_|refine ((zEV 1 [0] (by simp [lookO]) (by decide) (by decide)).mono fun r nx' ob' hp=>?_).2
 simp only [aftI];obtain ⟨rfl,k1,hk,hkn,hkb,hki,hko⟩:=hp;simp
 (refine au ?_;(repeat intro K hK);apply wr)
 repeat' ((first|(refine zAC rfl (fun h=>?_) (fun h=>?_)<;>(first|(simp at h;done)|(simp at h)|skip)<;>(first|(exfalso;omega)|skip))|refine zAL 1 ?_|refine zAH fun K hK=>?_|exact rt|fail)<;>(refine au ?_;(repeat intro K hK);apply wr))
 first|refine .inr ((zFO 1 k1 _ [0] hki hkb).mono fun r nx' ob' hp=>?_)|refine (zFO 1 k1 _ [0] hki hkb).mono fun r nx' ob' hp=>?_|refine ((zFO 1 k1 _ [0] hki hkb).mono fun r nx' ob' hp=>?_).2
 simp only [aftI];obtain ⟨rfl,rfl,rfl⟩:=hp;simp
 (refine au ?_;(repeat intro K hK);apply wr)
 repeat' ((first|(refine zAC rfl (fun h=>?_) (fun h=>?_)<;>(first|(simp at h;done)|(simp at h)|skip)<;>(first|(exfalso;omega)|skip))|refine zAL 1 ?_|refine zAH fun K hK=>?_|exact rt|fail)<;>(refine au ?_;(repeat intro K hK);apply wr))
 first|refine .inr ((zFP 1 k1 _ [0] hki hkb).mono fun r nx' ob' hp=>?_)|refine (zFP 1 k1 _ [0] hki hkb).mono fun r nx' ob' hp=>?_|refine ((zFP 1 k1 _ [0] hki hkb).mono fun r nx' ob' hp=>?_).2
 simp only [aftI];obtain rfl:=hp;simp
 (refine au ?_;(repeat intro K hK);apply wr)
 repeat' ((first|(refine zAC rfl (fun h=>?_) (fun h=>?_)<;>(first|(simp at h;done)|(simp at h)|skip)<;>(first|(exfalso;omega)|skip))|refine zAL 1 ?_|refine zAH fun K hK=>?_|exact rt|fail)<;>(refine au ?_;(repeat intro K hK);apply wr))
theorem zFV (a b:Int) (hab:a≤b):zAD Tryz.prog 124 [.st [lv a,lv b,.sl 4 false []]] (.tup [.str [0],iv 0]):=by
 refine sZ Tryz.func124 Tryz.ntmps124 ?_;exact wx1 (qX2 (zHR b) (zLi a)) trivial @hab
theorem zRh (a b:Int) (hab:a≤b):zAD Tryz.prog 154 [.st [lv a,lv b,.sl 4 false []]] (.bool true):=by
 refine sZ Tryz.func154 Tryz.ntmps154 ?_;exact wx (qX1 (zFV a b hab)) trivial
theorem zKb (a b c:Int):zAD Tryz.prog 123 [.st [lv a,lv b,lv c,.sl 3 false []]] (.st [lv a,lv b,lv c,.new 149 3 []]):=by
 refine sZ Tryz.func123 Tryz.ntmps123 ?_;refine aum1 @maxLen.eq_1 ?_;(repeat intro K hK);apply wr
 (refine au1 @maxLen.eq_1 ?_;(repeat intro K hK);apply wr)
 repeat' ((first|(refine zAC rfl (fun h=>?_) (fun h=>?_)<;>(first|(simp [maxLen] at h;done)|(simp [maxLen] at h)|skip)<;>(first|(exfalso;omega)|skip))|refine zAL 1 ?_|refine zAH fun K hK=>?_|exact rt1 @maxLen.eq_1|fail)<;>(refine au1 @maxLen.eq_1 ?_;(repeat intro K hK);apply wr))
theorem zLI:zAD Tryz.prog 102 [.st [lv 1,lv 0,lv 0,.sl 3 false []]] (.bool true):=by
 refine sX Tryz.func102 Tryz.ntmps102 ?_;(repeat intro K hK);apply wr
 (refine af ?_;(repeat intro K hK);apply wr)
 repeat' ((first|(refine zAC rfl (fun h=>?_) (fun h=>?_)<;>(first|(simp at h;done)|(simp at h)|skip)<;>(first|(exfalso;omega)|skip))|refine zAL 1 ?_|refine zAH fun K hK=>?_|(refine zAG 8 [0,1,3,7,15,0,32,127] [(7,([[],[0],[0,1],[0,1,2],[0,1,2,3],[],[5]],[])),(1,([],[]))] ?_)|exact rt|fail)<;>(refine af ?_;(repeat intro K hK);apply wr))
theorem zLJ:zAD Tryz.prog 102 [.st [lv 1,lv 3,lv 0,.sl 3 false [[lv 0,lv 3,.sl 4 false []]]]] (.bool true):=by
 refine sX Tryz.func102 Tryz.ntmps102 ?_;(repeat intro K hK);apply wr
 (refine af ?_;(repeat intro K hK);apply wr)
 repeat' ((first|(refine zAC rfl (fun h=>?_) (fun h=>?_)<;>(first|(simp at h;done)|(simp at h)|skip)<;>(first|(exfalso;omega)|skip))|refine cc (zRh 0 3 (by decide)) ?_|refine zAL 2 ?_|refine zAH fun K hK=>?_|(refine zAG 8 [0,1,3,7,15,0,32,127] [(7,([[],[0],[0,1],[0,1,2],[0,1,2,3],[],[5]],[])),(1,([],[]))] ?_)|exact rt|fail)<;>(refine af ?_;(repeat intro K hK);apply wr))
theorem zSi:zAD Tryz.prog 77 [.st [lv 1,lv 0,lv 0,.sl 3 false []],.st [lv 0,lv 3,.sl 4 false []]] (.tup [.st [lv 1,lv 3,lv 0,.sl 3 false [[lv 0,lv 3,.sl 4 false []]]],iv 0]):=by
 refine sZ Tryz.func77 Tryz.ntmps77 ?_
 (refine af1 @maxLen.eq_1 ?_;intros;apply wr)
 repeat' ((first|(refine zAC rfl (fun h=>?_) (fun h=>?_)<;>(first|(simp [maxLen] at h;done)|(simp [maxLen] at h)|skip)<;>(first|(exfalso;omega)|skip))|refine cc1 (zKb 1 0 0) @maxLen.eq_1 ?_|refine cc1 (zLI) @maxLen.eq_1 ?_|refine cc1 (zFV 0 3 (by decide)) @maxLen.eq_1 ?_|refine cc1 (zQb 0 3) @maxLen.eq_1 ?_|(refine zAG 8 [0,1,0,4,12,31,63,127] [(5,([[],[0],[],[2],[2,3]],[(1,3),(1,4)])),(1,([],[])),(1,([],[])),(1,([],[]))] ?_)|exact rt1 @maxLen.eq_1|fail)<;>(refine af1 @maxLen.eq_1 ?_;intros;apply wr))
abbrev wA (s c n k:Int):RepD:=repQ 0 1 1 (mk s c n) k zMch 0 0 0 0 0 1 0 0 0 0 2 0 0 0 0 0 []
abbrev rA (b:Int):RepD:=repQ 0 1 1 (mk 9 1 3) 3 zMch 0 0 0 0 0 1 3 0 0 0 2 0 0 b 0 0 [⟨0,3,[]⟩]
theorem zRQ:zAD Tryz.prog 47 [.st (wA 9 1 3 3).row] (.bool false):=by
 have h:=zH5 (wA 9 1 3 3);rwa [show ((decide ((wA 9 1 3 3).role=1)||decide ((wA 9 1 3 3).role=3))&&decide ((wA 9 1 3 3).rec_.m.dk.state=1))=false by decide] at h
theorem zLF:zAD Tryz.prog 31 [.st (wA 1 0 0 0).row,iv 3,uv 0] (.st (rA 0).row):=by
 refine sX Tryz.func31 Tryz.ntmps31 ?_;(repeat intro K hK);apply wr
 (refine af1 @segs.eq_1 ?_;(repeat intro K hK);apply wr)
 repeat' ((first|(refine zAC rfl (fun h=>?_) (fun h=>?_)<;>(first|(simp [segs] at h;done)|(simp [segs] at h)|skip)<;>(first|(exfalso;omega)|skip))|refine cc1 (zOA) @segs.eq_1 ?_|refine cc1 (zLv 0 0) @segs.eq_1 ?_|refine cc1 (zRQ) @segs.eq_1 ?_|refine cc1 (zUZ 9 1 3 3) @segs.eq_1 ?_|refine cc1 (zFT) @segs.eq_1 ?_|refine cc1 (zSi) @segs.eq_1 ?_|refine zAL 1 ?_|refine zAH fun K hK=>?_|(refine zAG 6 [0,1,0,4,15,31] [(4,([[],[0],[],[2]],[(1,3)])),(1,([],[])),(1,([],[]))] ?_)|exact rt1 @segs.eq_1|fail)<;>(refine af1 @segs.eq_1 ?_;(repeat intro K hK);apply wr))
theorem zOQ:zAD Tryz.prog 27 [.st (wA 1 0 0 0).row] (.st (wA 1 0 0 0).row) :=
 zJF 0 1 1 (mk 1 0 0) 0 zMch 0 0 0 0 0 1 0 0 0 0 2 0 0 0 0 0 (lenM _ _ _) (by decide)
theorem zVp:zAD Tryz.prog 9 [.st (wA 1 0 0 0).row,iv 3,uv 0] (.st (rA 0).row):=by
 refine sZ Tryz.func9 Tryz.ntmps9 ?_;exact wx1 (qX2 (zOQ) (zLF)) trivial @segs.eq_1
@[simp] theorem byteV_iff (n:Int):zB0 [.int .u8 n]↔(0≤n∧n<256):=by
 constructor
 ·rintro ⟨b,hb⟩
  simp at hb;have:=b.toNat_lt;omega
 intro h
 exact ⟨UInt8.ofNat n.toNat,by simp;omega⟩
abbrev winO (c:V):Ob:=⟨338,3,true,false,[[.str [0],c,.int .i64 0]]⟩
theorem zJd {nx:Nat} {ob:List (Nat × Option Ob)} (id:Nat) (c:V) (hob:lookO ob id=some (winO c)) :
  InlC Tryz.prog 283 [.ptr id 3 0 0,iv 0] nx ob fun r nx' ob'=>r=.tup [.str [],.bool false]∧nx'=nx∧ob'=ob:=by
 refine InlC.of Tryz.func283 rfl (by kernel_rfl) rfl ?_
 simp only [Tryz.ntmps283,St.startI,argT];refine au1 @hob ?_;intros;apply wr;exact wx1 trivial trivial @hob
theorem zJo {nx:Nat} {ob:List (Nat × Option Ob)} (id:Nat) (c:V) (hob:lookO ob id=some (winO c)) :
  InlC Tryz.prog 212 [.ptr id 3 0 0,iv 0] nx ob fun r nx' ob'=>r=.tup [iv 0,iv 0]∧nx'=nx∧ob'=ob:=by
 refine InlC.of Tryz.func212 rfl (by kernel_rfl) rfl ?_
 simp only [Tryz.ntmps212,St.startI,argT];refine au1 @hob ?_;intros;apply wr
 (refine af1 @hob ?_;intros;apply wr)
 repeat' ((first|(refine zAC rfl (fun h=>?_) (fun h=>?_)<;>(first|(simp [hob] at h;done)|(simp [hob] at h)|skip)<;>(first|(exfalso;omega)|skip))|((first|refine .inr ((zJd id c hob).mono fun r nx' ob' hp=>?_)|refine (zJd id c hob).mono fun r nx' ob' hp=>?_);obtain ⟨rfl,rfl,rfl⟩:=hp;simp [aftI,hob])|(refine zAG 25 [0,0,3,7,15,31,63,127,15,15,783,2047,15,4111,12303,28687,15,15,196623,458767,15,2031631,4190223,8388607,16777215] [(2,([[],[]],[])),(1,([],[])),(1,([],[])),(19,([[],[0],[0,1],[0,1,2],[],[],[4,5],[0,1,2,3,4,5,6],[],[8],[8,9],[8,9,10],[],[],[12,13],[12,13,14],[],[12,13,14,15,16],[8,9,10,11,12,13,14,15,16,17]],[])),(1,([],[])),(1,([],[]))] ?_)|exact rt1 @hob|fail)<;>(refine af1 @hob ?_;intros;apply wr))
theorem zMA {nx:Nat} {ob:List (Nat × Option Ob)} (id:Nat) (c:V) (hob:lookO ob id=some (winO c)) :
  InlC Tryz.prog 211 [.ptr id 3 0 0,iv 0] nx ob fun r nx' ob'=>r=.tup []∧nx'=nx∧ob'=ob:=by
 refine InlC.of Tryz.func211 rfl (by kernel_rfl) rfl ?_
 simp only [Tryz.ntmps211,St.startI,argT]
 (first|(refine af1 @hob ?_;(repeat intro K hK);apply wr)|exact afd1 @hob)
 repeat' ((first|(refine zAC rfl (fun h=>?_) (fun h=>?_)<;>(first|(simp [hob] at h;done)|(simp [hob] at h)|skip)<;>(first|(exfalso;omega)|skip))|refine zAL 1 ?_|refine zAH fun K hK=>?_|(refine zAG 25 [0,0,3,7,15,31,63,127,15,15,783,2047,15,4111,12303,28687,15,15,196623,458767,15,2031631,4190223,8388607,16777215] [(2,([[],[]],[])),(1,([],[])),(1,([],[])),(19,([[],[0],[0,1],[0,1,2],[],[],[4,5],[0,1,2,3,4,5,6],[],[8],[8,9],[8,9,10],[],[],[12,13],[12,13,14],[],[12,13,14,15,16],[8,9,10,11,12,13,14,15,16,17]],[])),(1,([],[])),(1,([],[]))] ?_)|exact rt1 @hob|fail)<;>(first|(refine af1 @hob ?_;(repeat intro K hK);apply wr)|exact afd1 @hob))
theorem zSE:zAD Tryz.prog 213 [.sl 0 true [],.str [0]] (.new 5 1 [[.int .u8 0],[.int .u8 0]]):=by
 refine sX Tryz.func213 Tryz.ntmps213 ?_;(repeat intro K hK);apply wr
 (refine au1 (kX2 @maxLen.eq_1 @zAU.eq_1) ?_;(repeat intro K hK);apply wr)
 repeat' ((first|(refine zAC rfl (fun h=>?_) (fun h=>?_)<;>(first|(simp [maxLen,zAU] at h;done)|(simp [maxLen,zAU] at h)|skip)<;>(first|(exfalso;omega)|skip))|refine zAL 2 ?_|refine zAH fun K hK=>?_|exact rt1 (kX2 @maxLen.eq_1 @zAU.eq_1)|fail)<;>(refine au1 (kX2 @maxLen.eq_1 @zAU.eq_1) ?_;(repeat intro K hK);apply wr))
theorem zSX:zAD Tryz.prog 155 [.str [0]] (.str [0,0]):=by
 refine sX Tryz.func155 Tryz.ntmps155 ?_;(repeat intro K hK);apply wr
 (refine au ?_;(repeat intro K hK);apply wr)
 repeat' ((first|(refine zAC rfl (fun h=>?_) (fun h=>?_)<;>(first|(simp at h;done)|(simp at h)|skip)<;>(first|(exfalso;omega)|skip))|((first|refine .inr ((zMA 1 (.omap 0) (by simp [lookO])).mono fun r nx' ob' hp=>?_)|refine (zMA 1 (.omap 0) (by simp [lookO])).mono fun r nx' ob' hp=>?_);obtain ⟨rfl,rfl,rfl⟩:=hp;simp [aftI])|((first|refine .inr ((zJo 1 (.omap 0) (by simp [lookO])).mono fun r nx' ob' hp=>?_)|refine (zJo 1 (.omap 0) (by simp [lookO])).mono fun r nx' ob' hp=>?_);obtain ⟨rfl,rfl,rfl⟩:=hp;simp [aftI])|refine cc (zSE) ?_|refine zAL 2 ?_|refine zAH fun K hK=>?_|exact rt|fail)<;>(refine au ?_;(repeat intro K hK);apply wr))
def hstep (h:Int) (b:UInt8):Int:=IntKind.u64.wrap (ixor .u64 h (IntKind.u64.wrap (b.toNat:Int))*1099511628211)
def zGj (h:Int) (s:Str):Int:=s.foldl hstep h
theorem zO7 (h:Int) (s:Str) (i:Nat) (hi:i<s.length):zGj h (s.take (i+1))=hstep (zGj h (s.take i)) s[i]:=by
 unfold zGj;rw [List.take_succ_eq_append_getElem hi,List.foldl_append];rfl
theorem zU7 (h:Int) (s:Str) (hl:s.length≤1000000):zAD Tryz.prog 214 [lv h,.str s] (lv (zGj h s)):=by
 refine sX Tryz.func214 Tryz.ntmps214 ?_;intros;apply wr;obtain ⟨I,hI⟩:∃ I:Nat→St→Prop,I=(fun kk ss=>∃ (i:Nat) (g:Int),i≤s.length∧kk=s.length-i∧(g=zGj h (s.take i))∧ss=⟨20,[(8,.int .i64 i),(7,.int .i64 s.length),(1,.str s),(0,.int .u64 g)],0,[],0⟩):=⟨_,rfl⟩
 refine lX I (id) (by rw [hI];exact ⟨0,h,by simp,rfl,rfl,rfl⟩) ?_
 intro kk ss hIk _
 rw [hI] at hIk;obtain ⟨i,g,hi,rfl,hx,rfl⟩:=hIk;refine au ?_;intros;apply wr;refine zAC rfl (fun hh=>?_) (fun hh=>?_)
 ·simp at hh;obtain ⟨c,hc⟩:∃ c,c=s[i]:=⟨_,rfl⟩;have hget:s[i]? =some c:=by rw [hc];exact zWa hh
  have ht:=zO7 h s i hh;rw [← hc] at ht;refine au1 @hget ?_;intros;apply wr;exact aX (id) (by rw [hI];exact ⟨i+1,(zGj h (s.take (i+1))),by omega,rfl,rfl,rfl⟩) (kX4 (zAB (n:=(i:Int)+1) (by omega) (by omega)) @ht @hx @hstep.eq_1)
 simp at hh;have hii:s.take i=s:=List.take_of_length_le (by omega)
 refine au ?_;intros;apply wr;refine zAA ?_;simp [hx,hii]
def sumD (h:Int):Str:=[56,48,40,32,24,16,8,0].map fun k:Nat=>UInt8.ofNat (IntKind.u8.wrap (h.fdiv (2 ^ k))).toNat
theorem zEB (n:Int):0≤IntKind.u8.wrap n:=by rw [IntKind.wrap_u8];omega
theorem zEA (n:Int):IntKind.u8.wrap n<256:=by rw [IntKind.wrap_u8];omega
theorem b64:IntKind.u64.bits=64:=rfl
theorem zT9 (s:Str) (hl:s.length≤1000000):zAD Tryz.prog 156 [.str s] (.str (sumD (zGj 14695981039346656037 s))):=by
 obtain ⟨z,hz⟩:∃ z,z=zGj 14695981039346656037 s:=⟨_,rfl⟩;have hh:=zU7 14695981039346656037 s hl;rw [← hz] at hh ⊢;refine sX Tryz.func156 Tryz.ntmps156 ?_;(repeat intro K hK);apply wr
 refine cX (hh) ?_;(repeat intro K hK);apply wr
 (refine au1 (kX5 @zEB @zEA @sumD.eq_1 @maxLen.eq_1 @b64) ?_;(repeat intro K hK);apply wr)
 repeat' ((first|(refine zAC rfl (fun h=>?_) (fun h=>?_)<;>(first|(simp [zEB,zEA,sumD,maxLen,b64] at h;done)|(simp [zEB,zEA,sumD,maxLen,b64] at h)|skip)<;>(first|(exfalso;omega)|skip))|refine zAL 9 ?_|refine zAH fun K hK=>?_|exact rt1 (kX5 @zEB @zEA @sumD.eq_1 @maxLen.eq_1 @b64)|fail)<;>(refine au1 (kX5 @zEB @zEA @sumD.eq_1 @maxLen.eq_1 @b64) ?_;(repeat intro K hK);apply wr))
theorem zC1 (h:Int):(sumD h).length=8:=by simp [sumD]
def zDa (n:Int) (b:Str):Str:=UInt8.ofNat n.toNat::UInt8.ofNat b.length::b
def zQc (n:Int) (b:Str):Str:=zDa n b++sumD (zGj 14695981039346656037 (zDa n b))
theorem zQd (n:Int) (b:Str) (h0:0≤n) (h1:n<128) (hb:b.length<128):zAD Tryz.prog 104 [lv n,.str b] (.str (zQc n b)):=by
 have hw:IntKind.u64.wrap (b.length:Int)=(b.length:Int):=by rw [IntKind.wrap_u64];omega
 have hs:=zT9 (zDa n b) (by simp [zDa];omega)
 have hl:=zC1 (zGj 14695981039346656037 (zDa n b));refine sX Tryz.func104 Tryz.ntmps104 ?_;intros;apply wr
 (refine au1 (kX3 @hw @zDa.eq_1 @zC1) ?_;intros;apply wr)
 repeat' ((first|(refine zAC rfl (fun h=>?_) (fun h=>?_)<;>(first|(simp [hw,zDa,zC1] at h;done)|(simp [hw,zDa,zC1] at h)|skip)<;>(first|(exfalso;omega)|skip))|refine cc1 (zFd n h0 h1) (kX3 @hw @zDa.eq_1 @zC1) ?_|refine cc1 (zFd (b.length:Int) (by omega) (by omega)) (kX3 @hw @zDa.eq_1 @zC1) ?_|refine cc1 (hs) (kX3 @hw @zDa.eq_1 @zC1) ?_|(refine zAA ?_;simp [hw,zDa,zC1];(simp [zQc,zDa]);done)|(refine zAI ?_;refine zAA ?_;simp [hw,zDa,zC1];(simp [zQc,zDa]);done)|fail)<;>(refine au1 (kX3 @hw @zDa.eq_1 @zC1) ?_;intros;apply wr))
def pkA:Str:=zQc 1 [68,0,3,0,0]
def pkH:Str:=zQc 1 [72,0]
theorem zUj:zAD Tryz.prog 103 [.st [lv 0,lv 3,.sl 4 false []]] (.tup [.str [0,3,0,0],iv 0]):=by
 refine sZ Tryz.func103 Tryz.ntmps103 ?_
 (refine af ?_;intros;apply wr)
 repeat' ((first|(refine zAC rfl (fun h=>?_) (fun h=>?_)<;>(first|(simp at h;done)|(simp at h)|skip)<;>(first|(exfalso;omega)|skip))|refine cc (zFV 0 3 (by decide)) ?_|refine cc (zFd 0 (by decide) (by decide)) ?_|refine cc (zFd 3 (by decide) (by decide)) ?_|refine cc (zSX) ?_|(refine zAG 12 [0,1,3,0,8,31,63,0,191,511,1023,2047] [(9,([[],[0],[0,1],[],[3],[0,1,2,3,4],[0,1,2,3,4,5],[],[0,1,2,3,4,5,7]],[(4,2)])),(1,([],[])),(1,([],[])),(1,([],[]))] ?_)|exact rt|fail)<;>(refine af ?_;intros;apply wr))
theorem zV7:zAD Tryz.prog 54 [.st [lv 1,lv 3,lv 0,.sl 3 false [[lv 0,lv 3,.sl 4 false []]]]] (.new 9 1 [[.str pkA]]):=by
 refine sX Tryz.func54 Tryz.ntmps54 ?_;(repeat intro K hK);apply wr
 (refine au1 (kX2 @pkA.eq_1 @maxLen.eq_1) ?_;(repeat intro K hK);apply wr)
 repeat' ((first|(refine zAC rfl (fun h=>?_) (fun h=>?_)<;>(first|(simp [pkA,maxLen] at h;done)|(simp [pkA,maxLen] at h)|skip)<;>(first|(exfalso;omega)|skip))|refine cc1 (zLJ) (kX2 @pkA.eq_1 @maxLen.eq_1) ?_|refine cc1 (zUj) (kX2 @pkA.eq_1 @maxLen.eq_1) ?_|refine cc1 (zQd 1 [68,0,3,0,0] (by decide) (by decide) (by decide)) (kX2 @pkA.eq_1 @maxLen.eq_1) ?_|refine zAL 2 ?_|refine zAH fun K hK=>?_|exact rt1 (kX2 @pkA.eq_1 @maxLen.eq_1)|fail)<;>(refine au1 (kX2 @pkA.eq_1 @maxLen.eq_1) ?_;(repeat intro K hK);apply wr))
theorem hb0_ok:zAD Tryz.prog 56 [lv 1,lv 0] (.str pkH):=by
 refine sZ Tryz.func56 Tryz.ntmps56 ?_;exact wx1 (qX2 (zFd 0 (by decide) (by decide)) (zQd 1 [72,0] (by decide) (by decide) (by decide))) trivial @pkH.eq_1
theorem zNC (b:Int):zAD Tryz.prog 27 [.st (rA b).row] (.st (rA b).row):=by
 refine sY Tryz.func27 Tryz.ntmps27 @segs.eq_1 ?_;(repeat intro K hK);apply wr
 (refine af1 @segs.eq_1 ?_;(repeat intro K hK);apply wr)
 repeat' ((first|(refine zAC rfl (fun h=>?_) (fun h=>?_)<;>(first|(simp [segs] at h;done)|(simp [segs] at h)|skip)<;>(first|(exfalso;omega)|skip))|refine cc1 (zCL (mk 9 1 3) (lenM _ _ _)) @segs.eq_1 ?_|refine cc1 (zCL zMch (by decide)) @segs.eq_1 ?_|refine cc1 (zDC [] false 4 (.inl rfl) (by simp)) @segs.eq_1 ?_|refine cc1 (zHb [] false 3 (.inl rfl) (by simp)) @segs.eq_1 ?_|refine cc1 (zFs [] false 4 (.inl rfl) (by simp)) @segs.eq_1 ?_|refine cc1 (zOR [[lv 0,lv 3,.sl 4 false []]] false 3 (.inl rfl) (by simp)) @segs.eq_1 ?_|refine cc1 (zOS [] false 4 (.inl rfl) (by simp)) @segs.eq_1 ?_|refine cc1 (zGF 0 3) @segs.eq_1 ?_|refine zAL 2 ?_|refine zAH fun K hK=>?_|(refine zAG (rid:=11) 8 [0,1,3,0,0,16,63,127] [(6,([[],[0],[0,1],[],[],[4]],[(2,5)])),(1,([],[])),(1,([],[]))] ?_)|(refine zAG (rid:=17) 10 [0,1,3,0,0,16,48,127,255,511] [(7,([[],[0],[0,1],[],[],[4],[4,5]],[(2,6)])),(1,([],[])),(1,([],[])),(1,([],[]))] ?_)|exact rt1 @segs.eq_1|fail)<;>(refine af1 @segs.eq_1 ?_;(repeat intro K hK);apply wr))
theorem pks_ok:zAD Tryz.prog 20 [.st (rA 0).row] (.tup [.st (rA 1).row,.sl 1 false [[.str pkA],[.str pkH]]]):=by
 refine sZ Tryz.func20 Tryz.ntmps20 ?_
 (refine af1 (kX2 @segs.eq_1 @maxLen.eq_1) ?_;intros;apply wr)
 repeat' ((first|(refine zAC rfl (fun h=>?_) (fun h=>?_)<;>(first|(simp [segs,maxLen] at h;done)|(simp [segs,maxLen] at h)|skip)<;>(first|(exfalso;omega)|skip))|refine cc1 (zNC 0) (kX2 @segs.eq_1 @maxLen.eq_1) ?_|refine cc1 (zV7) (kX2 @segs.eq_1 @maxLen.eq_1) ?_|refine cc1 (hb0_ok) (kX2 @segs.eq_1 @maxLen.eq_1) ?_|(refine zAG 10 [0,0,0,4,0,28,60,126,255,511] [(8,([[],[],[],[2],[],[2,3,4],[2,3,4,5],[1,2,3,4,5,6]],[(0,5),(0,6),(0,7)])),(1,([],[])),(1,([],[]))] ?_)|exact rt1 (kX2 @segs.eq_1 @maxLen.eq_1)|fail)<;>(refine af1 (kX2 @segs.eq_1 @maxLen.eq_1) ?_;intros;apply wr))
end Go.Proofs.YtoondlebmacanaaGreat.Fx
end
