/- A part of the proof of ReplicaHalts. -/
import Derived.Test.YthjpcmecgjfilaaGreatH26
import Derived.Test.YthjpcmecgjfilaaGreatH31
set_option linter.unusedSimpArgs false
set_option linter.unusedVariables false
set_option maxHeartbeats 16000000
set_option maxRecDepth 100000
section
namespace Go.Proofs.YthjpcmecgjfilaaGreat
open Go.Ab Go.RowKit Tryz
theorem zDR {C D E G:Prop} (c:C) (d:D) (e:E) (t:C->D->E->G:=by intro c d e;(refine af1 e ?_;intros;apply wr);repeat' ((first|(refine zAC rfl (fun h=>?_) (fun h=>?_)<;>(first|(simp [e] at h;done)|(simp [e] at h)|skip)<;>(first|(exfalso;omega)|skip))|((first|refine .inl ⟨1,_,d.1,?_⟩|refine ⟨1,_,d.1,?_⟩);simp [aftC,aftE,noX,noXc,noX1,e];first|refine And.intro zAM ?_|skip)|((first|refine .inl ⟨1,_,d.2.1,?_⟩|refine ⟨1,_,d.2.1,?_⟩);simp [aftC,aftE,noX,noXc,noX1,e];first|refine And.intro zAM ?_|skip)|refine cc1 c.1 e ?_|refine cc1 c.2.1 e ?_|refine cc1 c.2.2.1 e ?_|refine cc1 c.2.2.2.1 e ?_|refine cc1 c.2.2.2.2.1 e ?_|refine cc1 c.2.2.2.2.2.1 e ?_|(refine zAE 15 [0,1,3,0,8,24,56,24,152,408,1016,2040,31,4127,16383] [(14,([[],[0],[0,1],[],[3],[3,4],[3,4,5],[3,4],[3,4,7],[3,4,7,8],[3,4,5,6,7,8,9],[3,4,5,6,7,8,9,10],[0,1,2,3,4],[0,1,2,3,4,12]],[])),(1,([],[]))] ?_)|exact rt1 e|fail)<;>(refine af1 e ?_;intros;apply wr))):G:=t c d e
theorem zSJ (p:RplD) (hM:OkM p.m):zAD prog 137 [.st p.row] (.tup [uv (if readsD p.m=true then (hdE p.log).ev.n else 0),.bool (readsD p.m),.bool (zHa p)]):=by
 have hrd:=zMZ p.m hM;obtain ⟨m,l,k,c⟩:=p;simp only at hM hrd;unfold zHa;simp only;generalize readsD m=b at *
 cases l with
 | nil =>
  have hd0:hdE []=⟨0,⟨0,0,[]⟩⟩:=rfl;cases b with
  | false =>
   refine sZ func137 ntmps137 ?_;exact zDR (qX1 (hrd)) trivial @hd0
  | true =>
   refine sZ func137 ntmps137 ?_;exact zDR (qX1 (hrd)) trivial @hd0
 | cons e r =>
  have hcons:ents (e::r)=e.row::ents r:=rfl;have hd1:hdE (e::r)=e:=rfl;have hpos:(0:Int)<(ents r).length+1:=by omega
  by_cases k1:e.ev.kind=1
  ·cases b with
   | false =>
    refine sZ func137 ntmps137 ?_;exact zDR (qX1 (hrd)) trivial (kX4 @hcons @hpos @k1 @hd1)
   | true =>
    by_cases k2:e.at_=m.count
    ·refine sZ func137 ntmps137 ?_;exact zDR (qX1 (hrd)) trivial (kX5 @hcons @hpos @k1 @k2 @hd1)
    refine sZ func137 ntmps137 ?_;exact zDR (qX1 (hrd)) trivial (kX5 @hcons @hpos @k1 @k2 @hd1)
  cases b with
  | false =>
   refine sZ func137 ntmps137 ?_;exact zDR (qX1 (hrd)) trivial (kX4 @hcons @hpos @k1 @hd1)
  | true =>
   refine sZ func137 ntmps137 ?_;exact zDR (qX1 (hrd)) trivial (kX4 @hcons @hpos @k1 @hd1)
theorem zIw {nx:Nat} {ob:List (Nat × Option Ob)} (id sz off:Nat) (k:Int) :
  InlC prog 136 [.ptr id sz 0 off,lv k] nx ob fun r nx' ob'=>r=.cap 185 [] [some (nx,1),some (nx+1,1)]/\nx'=nx+2/\ob'=(nx+1,some ⟨24,1,true,false,[[lv k]]⟩)::(nx,some ⟨241,1,true,false,[[.ptr id sz 0 off]]⟩)::ob:=by
 refine InlC.of func136 rfl (by kernel_rfl) rfl ?_
 simp only [ntmps136,St.startI,argT];refine au ?_;intros;apply wr;exact wx trivial trivial
theorem zSH (p:RplD) (steps:Int) (hJ:OkJ p) (hl:p.log.length<=50000) (hd:∀ e∈p.log,e.ev.data.length<=100000):zAD prog 80 [.st p.row,iv steps] (.tup [.st (zCF p steps).1.row,.sl 4 false (outs (zCF p steps).2)]):=by
 have hmem:=hJ.m.n;have hcop:=zG9 p (by omega) (by omega)
 have hmay:=zH7 p.m hJ.m.gv.1 (by have:=hJ.m.gv.2;omega)
 cases hM:mayD p.m with
 | false =>
  have hE:zCF p steps=(p,[]):=by unfold zCF;rw [hM];rfl
  rw [hM] at hmay;rw [hE];refine sX func80 ntmps80 ?_;(repeat intro K hK);apply wr
  refine cX (hcop) ?_;(repeat intro K hK);apply wr
  refine cX (hmay) ?_;(repeat intro K hK);apply wr
  refine gT00 rfl ?_;(repeat intro K hK);apply wr
  refine zAI ?_;refine zAB ?_;simp
 | true =>
  rw [hM] at hmay;refine sX func80 ntmps80 ?_;(repeat intro K hK);apply wr
  refine cX (hcop) ?_;(repeat intro K hK);apply wr
  refine cX (hmay) ?_;(repeat intro K hK);apply wr
  refine gF00 rfl ?_;(repeat intro K hK);apply wr
  refine zAT 6 90 4 (by decide) rfl ?_
  have hlim:(if 4000<if steps<0 then 0 else steps then 4000 else if steps<0 then 0 else steps)=(limS steps:Int):=by unfold limS;(repeat' split)<;>omega
  have hl4:=zK6 steps;obtain ⟨I,hI⟩:∃ I:Nat->St->Prop,I=(fun kk ss=>∃ (i:Nat) (z:RplD) (o:List OutD),i<=limS steps/\kk=limS steps-i/\(zEq (limS steps) p []=zEq (limS steps-i) z o/\OkJ z/\(∀ e∈z.log,e.ev.data.length<=100000)/\o.length<=i)/\ss=⟨88,[(22,.int .i64 i),(21,.int .i64 (limS steps)),(6,.own 55),(2,.ptr 0 52 0 0),(4,.ptr 1 52 0 0)],56,[(55,some ⟨90,4,false,false,outs o⟩),(0,some (rplO z)),(1,some ⟨48,52,true,false,[zMR++[.sl 0 true [],lv 0,uv 0]]⟩)],0⟩):=⟨_,rfl⟩
  refine lX1 I (id) (by rw [hI];exact ⟨0,p,[],by simp,rfl,⟨rfl,hJ,hd,by simp⟩,rfl⟩) @hlim ?_
  intro kk ss hIk _
  rw [hI] at hIk;obtain ⟨i,z,o,hi,rfl,hx,rfl⟩:=hIk;obtain ⟨hx1,hx2,hx3,hx4⟩:=hx;refine au ?_;(repeat intro K hK);apply wr
  refine zAC rfl (fun hh=>?_) (fun hh=>?_)
  ·simp at hh;rw [show limS steps-i=(limS steps-(i+1))+1 by omega,zG6] at hx1
   refine au ?_;(repeat intro K hK);apply wr
   by_cases hkn:z.known<=z.m.count
   ·rw [if_pos hkn] at hx1;have hE:zCF p steps=(z,o):=by unfold zCF;rw [if_pos hM];exact hx1
    refine gT10 @hkn rfl ?_;(repeat intro K hK);apply wr
    refine zAI ?_;refine zAB ?_;simp [hE]
   rw [if_neg hkn] at hx1;refine gF10 @hkn rfl ?_;(repeat intro K hK);apply wr
   first|refine .inr ((zIw 0 52 49 z.m.count).mono fun r nx' ob' hp=>?_)|refine (zIw 0 52 49 z.m.count).mono fun r nx' ob' hp=>?_|refine ((zIw 0 52 49 z.m.count).mono fun r nx' ob' hp=>?_).2
   simp only [aftI];obtain ⟨rfl,rfl,rfl⟩:=hp;simp;refine au ?_;(repeat intro K hK);apply wr
   refine zM6 rfl fun fn l dl M0=>?_
   refine @InlC.mono (gly glo0 l _) _ _ _ _ _ _ _ (zUF 0 56 57 z z.m.count hx2.m (fun e he=>⟨(hx2.e e he).n,hx3 e he⟩) rfl (by simp [lookO]) (by simp [lookO]) (by simp [lookO]) (by decide) (by decide) (show 0<58 by decide) (show 56<58 by decide) (show 57<58 by decide) (l:=l) (Y:=⟨fn,_,_,_,_,_,_,M0,dl⟩) (pp:=35) (i1:=9) (i2:=10) (bid:=3) ⟨rfl,rfl,rfl,show 35<88 by decide,by kernel_rfl,by kernel_rfl,by kernel_rfl,by kernel_rfl⟩ ?hround) fun r nx' ob' hp=>?_
   case hround =>
    intro q e nx ob hqM hqn hqd hob hlt K hK
    have d1:¬ 0=nx:=by omega
    have d2:¬ nx=0:=by omega
    unfold rndV;simp [hob,d1,d2];refine .inl ⟨0,_,zLh q.m e hqM hqn hqd,?_⟩;simp [aftC,aftE,hob,d1,d2];refine hK _ _ (by simp [lookO]) (by omega) fun j j1 j2=>?_
    have d3:¬ j=nx:=by omega
    simp [lookO,j2,d3]
   obtain ⟨g1,g2,g3⟩:=hp;have f1:=g3 1 (by decide) (by decide)
   have f55:=g3 55 (by decide) (by decide)
   simp [lookO] at f1 f55;have hw:=hx2.ev;have hwd:∀ e∈(evP z).log,e.ev.data.length<=100000:=fun e he=>hx3 e ((List.dropWhile_sublist _).subset he)
   have g2:58<=nx':=g2;generalize evP z=w at *
   simp only [blk,thn];have f55z:lookO (List.map (fun p=>(p.fst,Option.map fzO p.snd)) ob') 55=some ⟨90,4,false,true,outs o⟩:=by
    have:=zEO ob' 55;rw [f55] at this;simpa [zOx,fzO] using this
   have ne1:¬ nx'=0:=by omega
   have ne2:¬ nx'=1:=by omega
   have ne3:¬ nx'=55:=by omega
   refine au1 (kX3 @g1 @f1 @f55) ?_;(repeat intro K hK);apply wr
   refine cZ (zK0 w.m hw.m) (kX3 @g1 @f1 @f55) (kX3 @g1 @f1 @f55) ?_;(repeat intro K hK);apply wr
   refine zAC rfl (fun hs=>?_) (fun hs=>?_)
   ·have hS:zDQ w.m=true:=by unfold zDQ;simpa [or_assoc,and_assoc] using hs
    rw [if_pos (.inl hS)] at hx1;have hE:zCF p steps=(w,o):=by unfold zCF;rw [if_pos hM];exact hx1
    refine au1 (kX6 @g1 @f1 @f55 @ne1 @ne2 @ne3) ?_;(repeat intro K hK);apply wr
    refine zAI ?_;refine zAB ?_;simp [hE,f55z]
   have hS:¬ zDQ w.m=true:=by unfold zDQ;simpa [or_assoc,and_assoc] using hs
   refine au1 (kX3 @g1 @f1 @f55) ?_;(repeat intro K hK);apply wr
   refine cZ (zSJ w hw.m) (kX3 @g1 @f1 @f55) (kX3 @g1 @f1 @f55) ?_;(repeat intro K hK);apply wr
   cases hp:zHa w with
   | false =>
    rw [if_pos (.inr hp)] at hx1;have hE:zCF p steps=(w,o):=by unfold zCF;rw [if_pos hM];exact hx1
    refine gT11 @hp rfl (kX6 @g1 @f1 @f55 @ne1 @ne2 @ne3) ?_;(repeat intro K hK);apply wr
    refine zAI ?_;refine zAB ?_;simp [hE,f55z]
   | true =>
    rw [if_neg (by rintro (q|q);exact hS q;rw [hp] at q;cases q)] at hx1
    refine gF11 @hp rfl (kX3 @g1 @f1 @f55) ?_;(repeat intro K hK);apply wr
    have hlo:=zBD o;cases hr:readsD w.m with
    | true =>
     obtain ⟨wm,wl,wk,wc⟩:=w;simp only at hr hw hwd hS;cases wl with
     | nil=>exfalso;simp [zHa,hr,hdE] at hp
     | cons e r =>
      have hcons:ents (e::r)=e.row::ents r:=rfl;have hlr:=zAt r;have hpos:(0:Int)<=(ents r).length:=by omega
      have hd1:hdE (e::r)=e:=rfl;have htk:List.take r.length (ents r)=ents r:=by rw [<- hlr];exact List.take_length
      have hso:=zDs wm e.ev.n;have hen:=(hw.e e (zV8 ..)).n;have hst:stpP ⟨wm,e::r,wk,wc⟩=(⟨(stepD wm e.ev.n).1,r,wk,uw (e.ev.n+1)⟩,(stepD wm e.ev.n).2):=by unfold stpP;rw [if_pos hr];rfl
      have hJ2:OkJ ⟨(stepD wm e.ev.n).1,r,wk,uw (e.ev.n+1)⟩:=⟨zQK hw.m hen,fun x hx=>hw.e x (zV4 _ hx),hw.k⟩
      have hd2:∀ x∈r,x.ev.data.length<=100000:=fun x hx=>hwd x (zV4 _ hx)
      rw [hst] at hx1;simp only at hx1;refine gT11 @hr rfl (kX8 @g1 @f1 @f55 @hcons @hpos @hd1 @hlr @htk) ?_;(repeat intro K hK);apply wr
      refine cc1 (step_ok wm e.ev.n hw.m) (kX4 @g1 @f1 @f55 @hd1) ?_;generalize stepD wm e.ev.n=S at *
      have hlS:=zBD S.2;refine au1 (kX10 @g1 @f1 @f55 @ne1 @ne2 @ne3 @hlo @hlS @maxLen.eq_1 @hd1) ?_;(repeat intro K hK);apply wr
      exact aX (fun x=>if x=55 then nx'+54 else x) (by rw [hI];exact ⟨i+1,(RplD.mk S.1 r wk (uw (e.ev.n+1))),(o++S.2),by omega,rfl,⟨hx1,hJ2,hd2,by rw [zV7];omega⟩,rfl⟩) (kX8 (zAA (n:=(i:Int)+1) (by omega) (by omega)) @g1 @f1 @f55 @ne1 @ne2 @ne3 @zGG)
    | false =>
     have hso:=zDs w.m 0;have hst:stpP w=({w with m:=(stepD w.m 0).1},(stepD w.m 0).2):=by unfold stpP;rw [if_neg (by simp [hr])]
     have hJ2:OkJ {w with m:=(stepD w.m 0).1}:=⟨zQK hw.m zAs,hw.e,hw.k⟩
     rw [hst] at hx1;simp only at hx1;refine gF11 @hr rfl (kX3 @g1 @f1 @f55) ?_;(repeat intro K hK);apply wr
     refine cc1 (step_ok w.m 0 hw.m) (kX4 @g1 @f1 @f55 @hr) ?_;generalize stepD w.m 0=S at *
     have hlS:=zBD S.2;refine au1 (kX9 @g1 @f1 @f55 @ne1 @ne2 @ne3 @hlo @hlS @maxLen.eq_1) ?_;(repeat intro K hK);apply wr
     exact aX (fun x=>if x=55 then nx'+54 else x) (by rw [hI];exact ⟨i+1,(RplD.mk S.1 w.log w.known w.clock),(o++S.2),by omega,rfl,⟨hx1,hJ2,hwd,by rw [zV7];omega⟩,rfl⟩) (kX8 (zAA (n:=(i:Int)+1) (by omega) (by omega)) @g1 @f1 @f55 @ne1 @ne2 @ne3 @zGG)
  simp at hh;have hE:zCF p steps=(z,o):=by unfold zCF;rw [if_pos hM,hx1,show limS steps-i=0 by omega];rfl
  refine au ?_;(repeat intro K hK);apply wr
  refine zAI ?_;refine zAB ?_;simp [hE]
end Go.Proofs.YthjpcmecgjfilaaGreat
end
