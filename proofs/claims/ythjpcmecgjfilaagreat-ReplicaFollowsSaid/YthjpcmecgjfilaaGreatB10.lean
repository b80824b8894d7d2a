/- A part of the proof of ReplicaFollows. -/
import Derived.Test.YthjpcmecgjfilaaGreatB04
import Derived.Test.YthjpcmecgjfilaaGreatB06
import Derived.Test.YthjpcmecgjfilaaGreatB07
import Derived.Test.YthjpcmecgjfilaaGreatB08
import Derived.Test.YthjpcmecgjfilaaGreatB09
set_option linter.unusedSimpArgs false
set_option linter.unusedVariables false
set_option maxHeartbeats 16000000
set_option maxRecDepth 100000
section
namespace Go.Ab
open Go.RowKit
theorem ad {G:Prop} (t:G:=by (repeat (first|(with_reducible first|refine zAw fun Kx hKx=>?_|refine zAk ?_)|((with_reducible first|refine zAf (by kernel_rfl) ?_|refine zA1 ?_|refine zAy ?_|refine zA0 ?_|refine zAz ?_|refine zAx ?_|refine zAv ?_);simp)|((repeat ((fail_if_success (with_reducible refine hKx _ ?_));clear hKx;try clear Kx));(with_reducible refine hKx _ ?_);clear hKx;try clear Kx)|(with_reducible refine useK ‹_› ?_)|refine And.intro (by first|omega|assumption|grind) ?_));done):G:=t
def zNi:List Nat->List (Nat × Option Ob)->List (Nat × Option Ob)
 | [],_=>[]
 | i::r,ob=>(i,lookO ob i)::zNi r ob
theorem zGw (ob:List (Nat × Option Ob)):∀ (ids:List Nat) (id:Nat) (o:Ob),lookO (zNi ids ob) id=some o->lookO ob id=some o
 | [],id,o,h=>by simp [zNi,lookO] at h
 | i::r,id,o,h=>by
  simp only [zNi,lookO] at h;split at h
  ·rename_i e;subst e;exact h
  exact zGw ob r id o h
theorem zNM [Glo] {P:Program} {c:Code} {Q:Exit->St->Prop} {n nx pn:Nat} {tmp:List (Nat × V)} {ob O:List (Nat × Option Ob)} (ids:List Nat) (hO:zNi ids ob=O) (h:awp P c Q ⟨n,tmp,nx,O,pn⟩):awp P c Q ⟨n,tmp,nx,ob,pn⟩ :=
 fun base Xa w0 a w ⟨M,hM⟩=>h base Xa w0 a w ⟨M,by
  have:=hM.sub (ob1:=O) fun id o ho=>⟨o.fz,zGw ob ids id o (by rw [hO];exact ho),fun h=>h⟩
  exact this⟩
theorem auB {G N:Prop} (h:N) (t:Bx N->G:=by intro h;(repeat (first|(with_reducible first|refine zAw fun Kx hKx=>?_|refine zAk ?_)|((with_reducible first|refine zAf (by kernel_rfl) ?_|refine zA1 ?_|refine zAy ?_|refine zA0 ?_|refine zAz ?_|refine zAx ?_|refine zAv ?_);simp (maxSteps:=2000000))|((repeat ((fail_if_success (with_reducible refine hKx _ ?_));clear hKx;try clear Kx));(with_reducible refine hKx _ ?_);clear hKx;try clear Kx)|(with_reducible refine useK ‹_› ?_)|refine And.intro (by first|omega|assumption|grind) ?_));refine unwr ?_;(repeat revert Kx);exact h.out):G:=t  ⟨h⟩
theorem afB {G N:Prop} (h:N) (t:Bx N->G:=by intro h;(repeat (first|(with_reducible first|refine zAw fun Kx hKx=>?_|refine zAk ?_)|((with_reducible first|refine zAf (by kernel_rfl) ?_|refine zA1 ?_|refine zAy ?_|refine zA0 ?_|refine zAz ?_|refine zCm ?_|refine zCj ?_|refine zCl ?_|refine zCk ?_|refine zAx ?_|refine zAv ?_);simp (maxSteps:=2000000))|((repeat ((fail_if_success (with_reducible first|refine hKx _ ?_|refine hKx _ _ _ _ ?_));clear hKx;try clear Kx));(with_reducible first|refine hKx _ ?_|refine hKx _ _ _ _ ?_);clear hKx;try clear Kx)|(with_reducible first|refine useK ‹_› ?_|refine zQp ‹_› ?_)|(with_reducible refine zDR fun Kx hKx=>?_;simp (maxSteps:=2000000))|(with_reducible refine zDQ ?_;try simp only [thn,blk])|(with_reducible refine zDS fun Kx hKx=>?_;simp only [List.take_succ_cons,List.take_zero])|(with_reducible refine zCh fun Kx hKx=>?_;simp (maxSteps:=2000000))|(with_reducible refine zDH ?_)|(with_reducible refine zCs ?_;simp only [List.drop_succ_cons,List.drop_zero];simp only [stS,eT,eO,zWd,zWj,cond_true,cond_false,Bool.and_true,Bool.and_false,Bool.true_and,Bool.false_and])|(with_reducible refine zB7 ?_ ?_;(· (simp (maxSteps:=2000000)<;>first|omega|grind)))|refine And.intro (by first|omega|assumption|grind) ?_));refine unwr ?_;(repeat revert Kx);exact h.out):G:=t  ⟨h⟩
theorem ccB {C G N:Prop} (c:C) (h:N) (t:C->Bx N->G:=by intro c h;first|((first|refine .inl ⟨0,_,c,?_⟩|refine ⟨0,_,c,?_⟩|(refine .inl ⟨0,_,zAD.wk c ?_,?_⟩;focus (simp (maxSteps:=2000000);done))|(refine ⟨0,_,zAD.wk c ?_,?_⟩;focus (simp (maxSteps:=2000000);done)));simp (maxSteps:=2000000) [aftC,aftE];exact h.out)|((first|refine zBA c rfl (fun hgd=>?_) (by simp (maxSteps:=2000000) [obsL]) ?_|refine zAr c rfl (by simp (maxSteps:=2000000)) (fun hgd=>?_) (by simp (maxSteps:=2000000) [obsL]) ?_)<;>simp (maxSteps:=2000000)<;>(try (first|exact hgd|(simp at hgd;first|done|assumption|grind)));exact h.out)|fail):G:=t c  ⟨h⟩
theorem rtB {G:Prop} (t:G:=by first|(refine zAB ?_;simp (maxSteps:=2000000);done)|(refine zAI ?_;refine zAB ?_;simp (maxSteps:=2000000);done)|(refine zAB ?_;simp (maxSteps:=2000000);first|(simp_all;done)|(simp_all;omega)|grind)|(refine zAI ?_;refine zAB ?_;simp (maxSteps:=2000000);first|(simp_all;done)|(simp_all;omega)|grind)|fail):G:=t
theorem auB1 {G N E0:Prop} (e0:E0) (h:N) (t:E0->Bx N->G:=by intro e0 h;(repeat (first|(with_reducible first|refine zAw fun Kx hKx=>?_|refine zAk ?_)|((with_reducible first|refine zAf (by kernel_rfl) ?_|refine zA1 ?_|refine zAy ?_|refine zA0 ?_|refine zAz ?_|refine zAx ?_|refine zAv ?_);simp (maxSteps:=2000000) [e0])|((repeat ((fail_if_success (with_reducible refine hKx _ ?_));clear hKx;try clear Kx));(with_reducible refine hKx _ ?_);clear hKx;try clear Kx)|(with_reducible refine useK ‹_› ?_)|refine And.intro (by first|omega|assumption|grind) ?_));refine unwr ?_;(repeat revert Kx);exact h.out):G:=t e0 ⟨h⟩
theorem afB1 {G N E0:Prop} (e0:E0) (h:N) (t:E0->Bx N->G:=by intro e0 h;(repeat (first|(with_reducible first|refine zAw fun Kx hKx=>?_|refine zAk ?_)|((with_reducible first|refine zAf (by kernel_rfl) ?_|refine zA1 ?_|refine zAy ?_|refine zA0 ?_|refine zAz ?_|refine zCm ?_|refine zCj ?_|refine zCl ?_|refine zCk ?_|refine zAx ?_|refine zAv ?_);simp (maxSteps:=2000000) [e0])|((repeat ((fail_if_success (with_reducible first|refine hKx _ ?_|refine hKx _ _ _ _ ?_));clear hKx;try clear Kx));(with_reducible first|refine hKx _ ?_|refine hKx _ _ _ _ ?_);clear hKx;try clear Kx)|(with_reducible first|refine useK ‹_› ?_|refine zQp ‹_› ?_)|(with_reducible refine zDR fun Kx hKx=>?_;simp (maxSteps:=2000000) [e0])|(with_reducible refine zDQ ?_;try simp only [thn,blk])|(with_reducible refine zDS fun Kx hKx=>?_;simp only [List.take_succ_cons,List.take_zero])|(with_reducible refine zCh fun Kx hKx=>?_;simp (maxSteps:=2000000) [e0])|(with_reducible refine zDH ?_)|(with_reducible refine zCs ?_;simp only [List.drop_succ_cons,List.drop_zero];simp only [stS,eT,eO,zWd,zWj,cond_true,cond_false,Bool.and_true,Bool.and_false,Bool.true_and,Bool.false_and])|(with_reducible refine zB7 ?_ ?_;(· (simp (maxSteps:=2000000) [e0]<;>first|omega|grind)))|refine And.intro (by first|omega|assumption|grind) ?_));refine unwr ?_;(repeat revert Kx);exact h.out):G:=t e0 ⟨h⟩
theorem ccB1 {C G N E0:Prop} (c:C) (e0:E0) (h:N) (t:C->E0->Bx N->G:=by intro c e0 h;first|((first|refine .inl ⟨0,_,c,?_⟩|refine ⟨0,_,c,?_⟩|(refine .inl ⟨0,_,zAD.wk c ?_,?_⟩;focus (simp (maxSteps:=2000000);done))|(refine ⟨0,_,zAD.wk c ?_,?_⟩;focus (simp (maxSteps:=2000000);done)));simp (maxSteps:=2000000) [aftC,aftE,e0];exact h.out)|((first|refine zBA c rfl (fun hgd=>?_) (by simp (maxSteps:=2000000) [obsL]) ?_|refine zAr c rfl (by simp (maxSteps:=2000000)) (fun hgd=>?_) (by simp (maxSteps:=2000000) [obsL]) ?_)<;>simp (maxSteps:=2000000) [e0]<;>(try (first|exact hgd|(simp at hgd;first|done|assumption|grind)));exact h.out)|fail):G:=t c e0 ⟨h⟩
end Go.Ab
end
section
namespace Go.Proofs.YthjpcmecgjfilaaGreat
open Go.Ab Go.RowKit Tryz
noncomputable abbrev wldR (a b:RepD):List V:=a.row++(b.row++[.sl 0 true [],.sl 0 true [],.sl 1 false (strs zA3),lv 1,iv 0])
theorem zIN (kind lim:Int) (l:List Int) (M:MchD) (hd:zHa lim=true) (hmay:mayD M=true) (hs:M.dk.state=0) (hg:0<=M.given/\M.given<=4294967295) (hl:M.mem.length<=100000)
  (hm:zAD prog 24 [iv kind,.sl 1 false (ints .i64 l)] (.st M.row)) :
  zAD prog 6 [iv kind,.sl 1 false (ints .i64 l),iv lim] (.tup [.st (wldR (zC1 0 M 1 lim) (zEL 1 M 1 lim)),.bool true]):=by
 have hf0:zBL 0 M 1 lim=true:=by simp [zBL,hmay,hs,hd]
 have hf1:zBL 1 M 1 lim=true:=by simp [zBL,hmay,hs,hd]
 have e1:=zPw 0 M 1 lim hg.1 hg.2 hl;have e3:=zUG 1 M 1 lim hg.1 hg.2 hl;simp only [zVN,backV,hf0,hf1,if_true] at e1 e3;generalize zC1 0 M 1 lim=a at *
 generalize zEL 1 M 1 lim=b at *
 refine sX func6 ntmps6 ?_;intros;apply wr;refine cX (hm) ?_;intros;apply wr;refine cX (zOZ) ?_;intros;apply wr;refine cX (zSs) ?_;intros;apply wr;refine cX (zRQ) ?_;intros;apply wr;refine cX (e1) ?_;intros;apply wr;refine cX (e3) ?_;intros;apply wr;refine zOO [9,6,11,12,13,14,15] (by simp;rfl) ?_
 refine zNM [0,51,188,315] (by simp only [zNi,lookO,Nat.reduceEqDiff,reduceIte];rfl) ?_
 (refine afB ?_;intros;apply wr)
 repeat' ((first|(refine zAC rfl (fun h=>?_) (fun h=>?_)<;>(first|(simp at h;done)|(simp at h)|skip)<;>(first|(exfalso;omega)|skip))|(refine zAG 6 [0,0,1,5,15,31] [(4,([[],[],[0],[0,2]],[(1,3)])),(1,([],[])),(1,([],[]))] ?_)|exact rtB|fail)<;>(refine afB ?_;intros;apply wr))
abbrev byO (s:Str):Ob:=⟨5,1,false,false,zAN s⟩
theorem zIV (s:Str):(zAN s).length=s.length:=by simp [zAN]
theorem zKy (s t:Str):zAN s++zAN t=zAN (s++t):=by simp [zAN]
theorem zOc (b:UInt8):[[V.int .u8 (b.toNat:Int)]]=zAN [b]:=by simp [zAN]
theorem zGt:∀ (k:Nat) (run:Str),run.length<=k->zEn k run=litC run
 | 0,run,h=>by
  have:run=[]:=zWP (by omega)
  subst this;rfl
 | k+1,run,h=>by
  by_cases hr:run=[]
  ·subst hr;rfl
  have hp:0<run.length:=List.length_pos_iff.2 hr;obtain ⟨m,hm⟩:∃ m,run.length=m+1:=⟨run.length-1,by omega⟩
  have hd:(run.drop (min 128 run.length)).length<=m:=by rw [zWT];omega
  rw [litC,hm,zEn,zEn,if_neg hr,if_neg hr,zGt k _ (by omega),zGt m _ hd]
theorem zR0 (run:Str) (hr:run≠[]):litC run=UInt8.ofNat (min 128 run.length-1)::(run.take (min 128 run.length)++litC (run.drop (min 128 run.length))):=by
 have hp:0<run.length:=List.length_pos_iff.2 hr;obtain ⟨m,hm⟩:∃ m,run.length=m+1:=⟨run.length-1,by omega⟩
 have hd:(run.drop (min 128 run.length)).length<=m:=by rw [zWT];omega
 have:litC run=zEn (m+1) run:=by rw [litC,hm]
 rw [this,zEn,if_neg hr,zGt m _ hd]
theorem zIp:∀ (k:Nat) (run:Str),(zEn k run).length<=2*run.length
 | 0,run=>by simp [zEn]
 | k+1,run=>by
  unfold zEn;split
  ·simp
  rename_i hr;have hp:0<run.length:=List.length_pos_iff.2 hr;have:=zIp k (run.drop (min 128 run.length));rw [zWT] at this;simp only [zWU,zWL,zWS];omega
theorem zEG {nx:Nat} {ob:List (Nat × Option Ob)} (id:Nat) (o run:Str) (hid:lookO ob id=some (byO o)) (hn:id<nx) (ho:o.length<=400000) (hr:run.length<=100000) :
  InlC prog 188 [.own id,.str run] nx ob fun r nx' ob'=>∃ id',r=.own id'/\lookO ob' id'=some (byO (o++litC run))/\nx<=nx'/\id'<nx'/\(id'=id\/nx<=id')/\∀ q,q<nx->q≠id->lookO ob' q=lookO ob q:=by
 refine InlC.of func188 rfl (by kernel_rfl) rfl ?_
 simp only [ntmps188,St.startI,argT];refine au1 @hid ?_;intros;apply wr;refine zAW (run.length+1) ?_;refine zA2 (fun k st=>∃ (rest P:Str) (id' nx':Nat) (T:List (Nat × V)) (o':List (Nat × Option Ob)),rest.length<=k/\st=⟨27,T,nx',o',nx⟩/\(lkT T 0=.own id'/\lkT T 1=.str rest)/\lookO o' id'=some (byO P)/\P++litC rest=o++litC run/\(nx<=nx'/\id'<nx'/\(id'=id\/nx<=id'))/\P.length+2*rest.length<=600000/\rest.length<=100000/\∀ q,q<nx->q≠id->lookO o' q=lookO ob q) ?_ _ _ ⟨run,o,id,nx,_,_,zWN _,rfl,by simp [lkT],hid,rfl,⟨zWN _,hn,.inl rfl⟩,by omega,hr,fun q _ _=>rfl⟩
 rintro k st ⟨rest,P,id',nx',T,o',hk,rfl,⟨t0,t1⟩,hP,hE,⟨h1,h2,h3⟩,h4,h5,h6⟩ Kl hKl
 refine zBS [(0,.own id'),(1,.str rest)] (by simp [t0,t1]) ?_
 simp;refine au ?_;intros;apply wr;by_cases hz:rest=[]
 ·subst hz;refine gF00 rfl ?_;intros;apply wr;refine zAB ?_;simp;refine ⟨by rw [<- hE];simpa [litC,zEn] using hP,h1,h2,h3,h6⟩
 have hp:0<rest.length:=List.length_pos_iff.2 hz;have c1:(0:Int)<rest.length:=by omega
 obtain ⟨n,hn'⟩:∃ n,n=min 128 rest.length:=⟨_,rfl⟩;have hmn:(if (rest.length:Int)<128 then (rest.length:Int) else 128)=n:=by split<;>omega
 obtain ⟨b,hb'⟩:∃ b,b=UInt8.ofNat (n-1):=⟨_,rfl⟩;have hb:b.toNat=n-1:=by rw [hb'];exact zE9 (by omega)
 have w1:IntKind.i64.wrap ((n:Int)-1)=(n:Int)-1:=zAA (by omega) (by omega)
 have w2:IntKind.u8.wrap ((n:Int)-1)=(b.toNat:Int):=by rw [hb,IntKind.wrap_u8];omega
 have d1:¬ nx'=id':=by omega
 have d2:¬ id'=nx':=by omega
 have hbl:=zIV P;have c2:(0:Int)<=n:=by omega
 have c3:(n:Int)<=rest.length:=by omega
 have hlc:=zR0 rest hz;rw [<- hn',<- hb'] at hlc;have hol:(zAN (P++[b])).length=P.length+1:=by simp [zAN]
 have htl:(rest.take n).length=n:=by rw [zWS];omega
 refine gT11 (kX2 @c1 @hz) rfl (kX14 @hP @hbl @maxLen.eq_1 @hmn @w1 @w2 @d1 @d2 @zOc @zKy @c2 @c3 @hol @htl) ?_;intros;apply wr;refine hKl (k-1) _ (by omega) ⟨rest.drop n,P++([b]++rest.take n),nx'+1+1,nx'+1+1+1,_,_,by rw [zWT];omega,rfl,by simp [lkT],by simp [lookO,zAN],?_,⟨by omega,by omega,.inr (by omega)⟩,?_,by rw [zWT];omega,fun q q1 q2=>?_⟩
 ·rw [<- hE,hlc];simp
 ·simp only [zWL,zWU,List.length_nil,zWT,htl];omega
 simp [lookO,show ¬ q=nx' by omega,show ¬ q=nx'+1 by omega,show ¬ q=nx'+1+1 by omega,show ¬ q=id' by omega,h6 q q1 q2]
theorem zIo (r:Str):(litC r).length<=2*r.length:=zIp _ _
theorem zEv (s:Str):∀ (f i st:Nat) (out:Str),st<=i->i<=s.length->(zF3 s f i st out).length<=out.length+2*(s.length-st)
 | 0,i,st,out,h1,h2=>by
  unfold zF3;have:=zIo (s.drop st);rw [zWT] at this;simp only [zWL];omega
 | f+1,i,st,out,h1,h2=>by
  unfold zF3;have h0:=zIo (s.drop st);have h3:=zIo ((s.take i).drop st);rw [zWT] at h0 h3;rw [zWS] at h3;rcases zIx s i with hm|hm
  ·simp only [hm];split
   ·rename_i hi;have:=zEv s f (i+1) st out (by omega) (by omega)
    first
     | (simp;omega)
     | (split<;>first|omega|(simp;omega))
     | omega
   simp only [zWL];omega
  have hl:=hm.l4;have hil:=hm.il;split
  ·rename_i hi;split
   ·have:=zEv s f (i+1) st out (by omega) (by omega)
    omega
   refine zWg (zEv s f _ _ _ (zWN _) hil) ?_;simp only [zWL,zWU,List.length_nil];omega
  simp only [zWL];omega
theorem zDp (s:Str):(zET s).length<=2*s.length:=by
 have:=zEv s s.length 0 0 [] (zWN _) (Nat.zero_le _);simpa [zET] using this
end Go.Proofs.YthjpcmecgjfilaaGreat
end
