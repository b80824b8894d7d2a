/- A part of the proof of ReplicaHalts. -/
import Derived.Test.YthjpcmecgjfilaaGreatH04
import Derived.Test.YthjpcmecgjfilaaGreatH25
import Derived.Test.YthjpcmecgjfilaaGreatH29
set_option linter.unusedSimpArgs false
set_option linter.unusedVariables false
set_option maxHeartbeats 16000000
set_option maxRecDepth 100000
section
namespace Go.Proofs.YthjpcmecgjfilaaGreat
open Go.Ab Go.RowKit Tryz
theorem zTT (l:List EntD):zAD prog 197 [zBZ l] (.bool (ordD l)):=by
 have hl:=zAt l;refine zAD.lens (by kernel_rfl) fun hlens=>?_
 simp [zK4,zK5,zEd,maxLen] at hlens;refine sX func197 ntmps197 ?_;intros;apply wr;simp only [hl] at hlens;obtain ⟨I,hI⟩:∃ I:Nat->St->Prop,I=(fun kk ss=>∃ (i:Nat) ,i<=l.length/\kk=l.length-i/\(ordD l=ordD (l.drop i))/\ss=⟨39,[(3,.int .i64 (i+1)),(0,zBZ l)],0,[],0⟩):=⟨_,rfl⟩
 refine lX I (id) (by rw [hI];exact ⟨0,by simp,rfl,rfl,rfl⟩) ?_
 intro kk ss hIk _
 rw [hI] at hIk;obtain ⟨i,hi,rfl,hx,rfl⟩:=hIk;refine au1 @hl ?_;intros;apply wr;refine zAC rfl (fun hh=>?_) (fun hh=>?_)
 ·simp at hh;obtain ⟨a,ha,hd,-,-⟩:=get_at (show i<l.length by omega)
  obtain ⟨b,hb,hd2,-,-⟩:=get_at (show i+1<l.length by omega)
  have hga:=zCs ha;have hgb:=zCs hb;have hw:IntKind.i64.wrap ((i:Int)+1+1)=(i:Int)+1+1:=zAA (by omega) (by omega)
  rw [hd,hd2,ordD,<- hd2] at hx;have hwi:IntKind.i64.wrap (i:Int)=i:=zAA (by omega) (by omega)
  refine au1 (kX4 @hga @hgb @hl @hwi) ?_;intros;apply wr
  (refine af1 (kX5 @hga @hgb @hl @hwi @hx) ?_;intros;apply wr)
  repeat' ((first|(refine zAC rfl (fun h=>?_) (fun h=>?_)<;>(first|(simp [hga,hgb,hl,hwi,hx] at h;done)|(simp [hga,hgb,hl,hwi,hx] at h)|skip)<;>(first|(exfalso;omega)|skip))|(refine zCJ (.node 9 10 (.leaf [0,1,2,3,4,5,6,7,8,9,10,11,12] (bN [0,0,2,7,15,0,0,96,224,0,512,1567,4095]) [(12,([[],[],[1],[0,1,2],[0,1,2,3],[],[],[5,6],[5,6,7],[],[9],[0,1,2,3,4,9,10]],[(3,9),(3,10),(4,9),(4,10),(7,9),(7,10),(7,11),(8,9),(8,10),(8,11)])),(1,([],[]))]) (.leaf [0,1,2,3,4,5,6,7,8,10,9,11,12] (bN [0,0,2,7,15,0,0,96,224,0,512,1567,4095]) [(12,([[],[],[1],[0,1,2],[0,1,2,3],[],[],[5,6],[5,6,7],[],[9],[0,1,2,3,4,9,10]],[(3,9),(3,10),(4,9),(4,10),(7,9),(7,10),(7,11),(8,9),(8,10),(8,11)])),(1,([],[]))])) (by kernel_rfl) (by kernel_rfl) ?_;simp only [PT.run];repeat' (with_reducible apply And.intro);all_goals (simp only [zCO,zWP,List.map_nil,zWN,List.getD_cons_succ]))|exact rt1 (kX5 @hga @hgb @hl @hwi @hx)|fail)<;>(refine af1 (kX5 @hga @hgb @hl @hwi @hx) ?_;intros;apply wr))
  all_goals ((exact aX (id) (by rw [hI];exact ⟨i+1,by omega,rfl,(by rw [hx];grind),rfl⟩) (kX2 (zAA (n:=(i:Int)+1) (by omega) (by omega)) @hw)))
 simp at hh;have hx2:ordD l=true:=by
  rw [hx];rcases Nat.lt_or_ge i l.length with q|q
  ·obtain ⟨a,ha,hd,-,-⟩:=get_at q;rw [hd,zBc (by omega)];rfl
  rw [zBc q];rfl
 refine au ?_;intros;apply wr;refine zAB ?_;simp [hx2]
theorem zHk (o:EntD) (k:Int):zAD prog 251 [.st o.row,.iptr [lv k]] (.bool (decide (k<o.at_))):=by
 refine sZ func251 ntmps251 ?_;exact wx trivial trivial
theorem zPB (l:List EntD) (k:Int):∃ n:Int,(0<=n↔zCD l k=true)/\zAD prog 312 [zBZ l,.clo 251 [.iptr [lv k]]] (iv n):=by
 refine ⟨match l.findIdx? (fun e=>decide (k<e.at_)) with|some j=>j|none=>-1,?_,?_⟩
 ·cases q:l.findIdx? (fun e=>decide (k<e.at_)) with
  | none=>simp [zCD];intro x hx;have:=List.findIdx?_eq_none_iff.1 q x hx;simpa using this
  | some j =>
   simp [zCD];obtain ⟨h1,h2⟩:=List.findIdx?_eq_some_iff_getElem.1 q;exact ⟨l[j],zWU h1,by simpa using h2.1⟩
 have hl:=zAt l;refine zAD.lens (by kernel_rfl) fun hlens=>?_
 simp [zK4,zK5,zEd,maxLen] at hlens;refine sY func312 ntmps312 @hl ?_;intros;apply wr;simp only [hl] at hlens;obtain ⟨I,hI⟩:∃ I:Nat->St->Prop,I=(fun kk ss=>∃ (i:Nat) ,i<=l.length/\kk=l.length-i/\(l.findIdx? (fun e=>decide (k<e.at_))=((l.drop i).findIdx? (fun e=>decide (k<e.at_))).map (·+i))/\ss=⟨19,[(8,.int .i64 i),(7,.int .i64 l.length),(1,.clo 251 [.iptr [lv k]]),(0,zBZ l)],0,[],0⟩):=⟨_,rfl⟩
 refine lX I (id) (by rw [hI];exact ⟨0,by simp,rfl,by simp,rfl⟩) ?_
 intro kk ss hIk _
 rw [hI] at hIk;obtain ⟨i,hi,rfl,hx,rfl⟩:=hIk;refine au1 @hl ?_;intros;apply wr;refine zAC rfl (fun hh=>?_) (fun hh=>?_)
 ·simp at hh;obtain ⟨o,ho,hd,-,-⟩:=get_at hh;have hget:=zCs ho;rw [hd,List.findIdx?_cons] at hx;by_cases hk:k<o.at_
  ·simp [hk] at hx;refine au1 (kX2 @hget @hl) ?_;intros;apply wr;exact wx1 (qX1 (zHk o k)) trivial (kX5 @hk @hget @hl @hx @hh)
  simp [hk] at hx;refine au1 (kX2 @hget @hl) ?_;intros;apply wr
  (refine au1 (kX3 @hk @hget @hl) ?_;intros;apply wr)
  repeat' ((first|(refine zAC rfl (fun h=>?_) (fun h=>?_)<;>(first|(simp [hk,hget,hl] at h;done)|(simp [hk,hget,hl] at h)|skip)<;>(first|(exfalso;omega)|skip))|refine cc1 (zHk o k) (kX3 @hk @hget @hl) ?_|exact rt1 (kX3 @hk @hget @hl)|fail)<;>(refine au1 (kX3 @hk @hget @hl) ?_;intros;apply wr))
  exact aX (id) (by rw [hI];exact ⟨i+1,by omega,rfl,(by rw [hx];cases (l.drop (i+1)).findIdx? (fun e=>decide (k<e.at_))<;>simp<;>omega),rfl⟩) (zAA (n:=(i:Int)+1) (by omega) (by omega))
 simp at hh;rw [zBc hh] at hx;have hx2:=hx.trans (show _=none by simp)
 refine au ?_;intros;apply wr;refine zAB ?_;rw [hx2];simp
theorem zJP (l:List EntD) (k:Int):zAD prog 183 [zBZ l,lv k] (.bool (zCD l k)):=by
 obtain ⟨n,hn,hi⟩:=zPB l k;have hc:zAD prog 250 [zBZ l,.clo 251 [.iptr [lv k]]] (.bool (zCD l k)):=by
  have hb:decide (0<=n)=zCD l k:=by cases q:zCD l k<;>simp [q] at hn ⊢<;>omega
  refine sZ func250 ntmps250 ?_;exact wx1 (qX1 (hi)) trivial @hb
 refine sZ func183 ntmps183 ?_;exact wx (qX1 (hc)) trivial
theorem zSs {e:EvD} (h:evVal e=true):1<=e.kind/\e.kind<=6:=by
 unfold evVal at h
 (repeat' split at h)<;>first|omega|(simp at h)
theorem zMx {e:EvD} (h:evVal e=true):e.data.length<=128:=by
 unfold evVal at h
 (repeat' split at h)<;>simp at h<;>first|omega|(rcases h with h|h<;>simp [h])|(simp [h])|(simp [h.2])
theorem zJk {e:EvD} (h:evVal e=true):(zCd e).length<=200:=by
 have p1:=zAS e.kind;have p2:=zAS e.n;have p3:=zAS (e.data.length:Int);have p4:=zMx h;unfold zCd
 (repeat' split)<;>simp<;>omega
theorem zF9 {l:List EntD} {from_ k:Int} (h:zCl l from_=k) (hk:k≠0):logD l from_=([],k):=by unfold logD;rw [h,if_neg hk]
theorem zNT {l:List EntD} {from_:Int} (h:¬ 400<l.length) (ha:l.all (fun e=>evVal e.ev)=false):zCl l from_=1900:=by unfold zCl;rw [if_neg h,if_pos ha]
theorem zNU {l:List EntD} {from_:Int} (h:¬ 400<l.length) (ha:l.all (fun e=>evVal e.ev)=true) (ho:ordD l=false\/firstOk from_ l=false):zCl l from_=1901:=by unfold zCl;rw [if_neg h,if_neg (by simp [ha]),if_pos ho]
theorem zH6 {l:List EntD} {from_:Int} (h:¬ 400<l.length) (ha:l.all (fun e=>evVal e.ev)=true) (ho:¬ (ordD l=false\/firstOk from_ l=false)):zCl l from_=if 65536<(putD l.length++zBj from_ l).length then 1902 else 0:=by unfold zCl;rw [if_neg h,if_neg (by simp [ha]),if_neg ho]
theorem zMM {a:EntD} {r:List EntD} (h:ordD (a::r)=true):firstOk a.at_ r=true/\ordD r=true:=by
 cases r with
 | nil=>exact ⟨rfl,rfl⟩
 | cons b r =>
  rw [ordD] at h;simp at h;exact ⟨by simp [firstOk];omega,h.2⟩
theorem zOb (l:List EntD) (from_:Int) (hf:L64 from_) (hE:∀ e∈l,OkT e) (hb:l.length<=100000):zAD prog 184 [zBZ l,lv from_] (.tup [.str (logD l from_).1,iv (logD l from_).2]):=by
 have hl:=zAt l;by_cases h400:400<l.length
 ·have hR:logD l from_=([],1902):=zF9 (by unfold zCl;rw [if_pos h400]) (by decide)
  rw [hR];have h4:(400:Int)<l.length:=by omega
  refine sZ func184 ntmps184 ?_;exact wx1 trivial trivial (kX2 @hl @h4)
 have h4:¬ (400:Int)<l.length:=by omega
 refine sY func184 ntmps184 (kX2 @hl @h4) ?_;(repeat intro K hK);apply wr
 refine gF11 @h4 rfl @hl ?_;(repeat intro K hK);apply wr
 obtain ⟨I,hI⟩:∃ I:Nat->St->Prop,I=(fun kk ss=>∃ (i:Nat) ,i<=l.length/\kk=l.length-i/\(l.all (fun e=>evVal e.ev)=(l.drop i).all (fun e=>evVal e.ev))/\ss=⟨68,[(16,.int .i64 i),(15,.int .i64 l.length),(14,zBZ l),(0,zBZ l),(1,lv from_)],0,[],0⟩):=⟨_,rfl⟩
 refine lX I (id) (by rw [hI];exact ⟨0,by simp,rfl,rfl,rfl⟩) ?_
 intro kk ss hIk _
 rw [hI] at hIk;obtain ⟨i,hi,rfl,hx,rfl⟩:=hIk;refine au1 @hl ?_;(repeat intro K hK);apply wr
 refine zAC rfl (fun hh=>?_) (fun hh=>?_)
 ·simp at hh;obtain ⟨o,ho,hd,-,-⟩:=get_at hh;have hget:=zCs ho;rw [hd,List.all_cons] at hx;refine au1 @hget ?_;(repeat intro K hK);apply wr
  cases hv:evVal o.ev with
  | false =>
   have hR:logD l from_=([],1900):=zF9 (zNT h400 (by rw [hx,hv];rfl)) (by decide)
   rw [hR];exact wx1 (qX1 (zIV o.ev)) trivial @hv
  | true =>
   rw [hv,Bool.true_and] at hx
   (refine au1 @hv ?_;(repeat intro K hK);apply wr)
   repeat' ((first|(refine zAC rfl (fun h=>?_) (fun h=>?_)<;>(first|(simp [hv] at h;done)|(simp [hv] at h)|skip)<;>(first|(exfalso;omega)|skip))|refine cc1 (zIV o.ev) @hv ?_|exact rt1 @hv|fail)<;>(refine au1 @hv ?_;(repeat intro K hK);apply wr))
   exact aX (id) (by rw [hI];exact ⟨i+1,by omega,rfl,hx,rfl⟩) (zAA (n:=(i:Int)+1) (by omega) (by omega))
 simp at hh;rw [zBc hh] at hx;have hall:l.all (fun e=>evVal e.ev)=true:=hx.trans rfl
 have ho:=zTT l;refine au ?_;(repeat intro K hK);apply wr
 by_cases hor:ordD l=false\/firstOk from_ l=false
 ·have hR:logD l from_=([],1901):=zF9 (zNU h400 hall hor) (by decide)
  rw [hR];have hne:l≠[]:=by rintro rfl;rcases hor with q|q<;>cases q
  obtain ⟨a,r,rfl⟩:∃ a r,l=a::r:=by cases l with|nil=>exact absurd rfl hne|cons a r=>exact ⟨a,r,rfl⟩
  have hg0:(ents (a::r))[0]? =some a.row:=rfl;have hpos:0<(ents (a::r)).length:=by rw [hl];simp
  simp only [firstOk] at hor;refine cc1 (ho) (kX3 @hpos @hg0 (getE hg0)) ?_;refine au ?_;(repeat intro K hK);apply wr
  have hct:(!ordD (a::r)||decide (a.at_<from_))=true:=by rcases hor with q|q<;>(try simp at q)<;>simp [q]
  refine gT10 @hct rfl ?_;(repeat intro K hK);apply wr
  refine zAB ?_;simp [hR]
 have hR:=zH6 h400 hall hor;have hor1:ordD l=true:=by simpa using (fun z=>hor (.inl z))
 have hfo:firstOk from_ l=true:=by simpa using (fun z=>hor (.inr z))
 rw [hor1] at ho;refine zB1 (α:=Unit) (fun _=>(⟨68,[(40,.bool false),(0,zBZ l),(1,lv from_)],1,[],0⟩:St)) (fun _=>True) hK (fun _ hxhJ=>?_) (fun hJ=>?_)
 all_goals clear hK
 ·refine cF0 rfl ?_;have w1:IntKind.u64.wrap (l.length:Int)=l.length:=u64_in (by omega) (by omega)
  refine au1 (kX2 @hl @w1) ?_;(repeat intro K hK);apply wr
  refine cc (zDo l.length ⟨by omega,by omega⟩) ?_
  first|refine .inr ((zJG 1 (putD l.length) (by simp [lookO]) (by decide) (by have:=zAS (l.length:Int);omega)).mono fun r nx' ob' hp=>?_)|refine (zJG 1 (putD l.length) (by simp [lookO]) (by decide) (by have:=zAS (l.length:Int);omega)).mono fun r nx' ob' hp=>?_|refine ((zJG 1 (putD l.length) (by simp [lookO]) (by decide) (by have:=zAS (l.length:Int);omega)).mono fun r nx' ob' hp=>?_).2
  simp only [aftI];obtain ⟨rfl,k1,hk,hkn,hkb,hki,hko⟩:=hp;simp;refine au1 @hl ?_;(repeat intro K hK);apply wr
  clear hko;obtain ⟨I,hI⟩:∃ I:Nat->St->Prop,I=(fun kk ss=>∃ (i:Nat) (fr:Int) (s:Str),i<=l.length/\kk=l.length-i/\(putD l.length++zBj from_ l=s++zBj fr (l.drop i)/\L64 fr/\s.length<=11+250*i/\firstOk fr (l.drop i)=true/\ordD (l.drop i)=true)/\ss=⟨68,[(48,.int .i64 i),(47,.int .i64 l.length),(46,zBZ l),(8,.ptr 1 2 0 0),(1,lv fr)],3,[(1,some (bldO (.ptr 1 2 0 0) (.own 2))),(2,some (bufO s))],0⟩):=⟨_,rfl⟩
  refine lX1 I (fun x=>if x=2 then k1 else x) (by rw [hI];exact ⟨0,from_,(putD l.length),by simp,rfl,⟨rfl,hf,zAS _,hfo,hor1⟩,rfl⟩) (kX2 @hki @hkb) ?_
  intro kk ss hIk _
  rw [hI] at hIk;obtain ⟨i,fr,s,hi,rfl,hx,rfl⟩:=hIk;obtain ⟨hx1,hx2,hx3,hx4,hx5⟩:=hx;refine au ?_;(repeat intro K hK);apply wr
  refine zAC rfl (fun hh2=>?_) (fun hh2=>?_)
  ·simp at hh2;obtain ⟨o,ho,hd,-,hmem⟩:=get_at hh2;have hget:=zCs ho;obtain ⟨hoa,hon⟩:=hE o hmem;rw [hd] at hx1 hx4 hx5;obtain ⟨hf2,ho2⟩:=zMM hx5;have hle:fr<=o.at_:=by simpa [firstOk] using hx4
   have hv:evVal o.ev=true:=List.all_eq_true.1 hall o hmem;have hk:=zSs hv;have hdt:=zMx hv;have hw:IntKind.u64.wrap (o.at_-fr)=o.at_-fr:=u64_in (by omega) (by have:=hoa.2;have:=hx2.1;omega)
   have hp1:=zAS (o.at_-fr);have hp2:=zJk hv;refine au1 (kX2 @hget @hw) ?_;(repeat intro K hK);apply wr
   refine cc (zDo (o.at_-fr) ⟨by omega,by have:=hoa.2;have:=hx2.1;omega⟩) ?_
   first|refine .inr ((zFc 1 2 (.ptr 1 2 0 0) s (putD (o.at_-fr)) (by simp [lookO]) (by simp [lookO]) (.inr rfl) (by decide) (by decide) (by decide) (by omega)).mono fun r nx' ob' hp=>?_)|refine (zFc 1 2 (.ptr 1 2 0 0) s (putD (o.at_-fr)) (by simp [lookO]) (by simp [lookO]) (.inr rfl) (by decide) (by decide) (by decide) (by omega)).mono fun r nx' ob' hp=>?_|refine ((zFc 1 2 (.ptr 1 2 0 0) s (putD (o.at_-fr)) (by simp [lookO]) (by simp [lookO]) (.inr rfl) (by decide) (by decide) (by decide) (by omega)).mono fun r nx' ob' hp=>?_).2
   simp only [aftI];obtain ⟨rfl,k2,g0,g1,g2,g3,g4⟩:=hp;have g5:=g4 3 (by decide) (by decide) (by decide)
   simp [lookO] at g5;simp;refine au1 @g5 ?_;(repeat intro K hK);apply wr
   refine cc (zRJ o.ev ⟨by omega,by omega⟩ hon (by omega)) ?_
   first|refine .inr ((zFc 1 k2 (.ptr 1 2 0 0) (s++putD (o.at_-fr)) (zCd o.ev) g3 g2 (.inr rfl) (by omega) (by omega) (by omega) (by simp;omega)).mono fun r nx' ob' hp=>?_)|refine (zFc 1 k2 (.ptr 1 2 0 0) (s++putD (o.at_-fr)) (zCd o.ev) g3 g2 (.inr rfl) (by omega) (by omega) (by omega) (by simp;omega)).mono fun r nx' ob' hp=>?_|refine ((zFc 1 k2 (.ptr 1 2 0 0) (s++putD (o.at_-fr)) (zCd o.ev) g3 g2 (.inr rfl) (by omega) (by omega) (by omega) (by simp;omega)).mono fun r nx' ob' hp=>?_).2
   simp only [aftI];obtain ⟨rfl,k3,j0,j1,j2,j3,j4⟩:=hp;simp;refine au ?_;(repeat intro K hK);apply wr
   exact aX (fun x=>if x=2 then k3 else x) (by rw [hI];exact ⟨i+1,o.at_,(s++putD (o.at_-fr)++zCd o.ev),by omega,rfl,⟨by rw [hx1,zBj];simp,hoa,by simp;omega,hf2,ho2⟩,rfl⟩) (kX3 (zAA (n:=(i:Int)+1) (by omega) (by omega)) @j3 @j2)
  simp at hh2;rw [zBc hh2,zBj,zWT] at hx1;rw [hx1] at hR;refine au ?_;(repeat intro K hK);apply wr
  first|refine .inr ((zKl 1 2 (.ptr 1 2 0 0) s (by simp [lookO]) (by simp [lookO])).mono fun r nx' ob' hp=>?_)|refine (zKl 1 2 (.ptr 1 2 0 0) s (by simp [lookO]) (by simp [lookO])).mono fun r nx' ob' hp=>?_|refine ((zKl 1 2 (.ptr 1 2 0 0) s (by simp [lookO]) (by simp [lookO])).mono fun r nx' ob' hp=>?_).2
  simp only [aftI];obtain ⟨rfl,rfl,rfl⟩:=hp;simp;refine au ?_;(repeat intro K hK);apply wr
  by_cases hs:65536<s.length
  ·rw [if_pos hs] at hR;rw [zF9 hR (by decide)]
   exact wx1 trivial trivial @hs
  rw [if_neg hs] at hR;have hE2:logD l from_=(s,0):=by unfold logD;rw [if_pos hR,hx1]
  rw [hE2];have hs2:¬ (65536:Int)<s.length:=by omega
  refine gF10 @hs2 rfl ?_;(repeat intro K hK);apply wr
  first|refine .inr ((zKn 1 2 (.ptr 1 2 0 0) s (by simp [lookO]) (by simp [lookO])).mono fun r nx' ob' hp=>?_)|refine (zKn 1 2 (.ptr 1 2 0 0) s (by simp [lookO]) (by simp [lookO])).mono fun r nx' ob' hp=>?_|refine ((zKn 1 2 (.ptr 1 2 0 0) s (by simp [lookO]) (by simp [lookO])).mono fun r nx' ob' hp=>?_).2
  simp only [aftI];obtain rfl:=hp;simp;refine au ?_;(repeat intro K hK);apply wr
  refine zAB ?_;simp [hE2]
 rcases Nat.eq_zero_or_pos (ents l).length with hz|hpos
 ·refine cc1 (ho) @hz ?_;refine hJ () _ (id) (trivial) ⟨rfl,?_,?_,?_,by simp⟩
  ·simp [leT,ltV,lt1,ren,ren1]
  ·simp [leO,lt1,ren1]
  (simp;try omega)
 obtain ⟨a,ha0,-,-,-⟩:=get_at (show 0<l.length by omega)
 have hg0:=zCs ha0;have hfa:¬ a.at_<from_:=by cases l with|nil=>cases ha0|cons b r=>cases ha0;simpa [firstOk] using hfo
 refine cc1 (ho) (kX4 @hpos @hg0 (getE hg0) @hfa) ?_;refine hJ () _ (id) (trivial) ⟨rfl,?_,?_,?_,by simp⟩
 ·simp [leT,ltV,lt1,ren,ren1]
 ·simp [leO,lt1,ren1]
 (simp;try omega)
structure OkG (g:SegD):Prop where
 f:L64 g.from_
 k:L64 g.known
 e:∀ e∈g.ents,OkT e
 n:g.ents.length<=50000
theorem zGY (g:SegD) (h:OkG g):zAD prog 134 [.st g.row] (.tup [.str (zAY g).1,iv (zAY g).2]):=by
 have hb:=zJP g.ents g.known;have he:=zOb g.ents g.from_ h.f h.e (by have:=h.n;omega)
 have hxd:zAY g=if (decide (g.known<g.from_)||zCD g.ents g.known)=true then ([],2400) else logD g.ents g.from_:=by unfold zAY;simp
 rw [hxd];refine sX func134 ntmps134 ?_;intros;apply wr;refine cX (hb) ?_;intros;apply wr;refine zAC rfl (fun hx=>?_) (fun hx=>?_)
 ·rw [if_pos hx];exact wx trivial trivial
 rw [if_neg (by simp [hx])]
 exact wx (qX1 (he)) trivial
theorem zUK (g:SegD) (h:OkG g):zAD prog 138 [.st g.row] (.bool (zDL g)):=by
 refine sZ func138 ntmps138 ?_;exact wx1 (qX1 (zGY g h)) trivial @zDL.eq_1
theorem zJX (g:SegD) (h:g.ents.length<=100000):zAD prog 135 [.st g.row] (.st g.row):=by
 refine sZ func135 ntmps135 ?_;exact wx (qX1 (zFf (ents g.ents) false 4 (.inl rfl) (by rw [zAt];exact h))) trivial
theorem zED (s:SndD) (h:∀ g∈s.queue,OkG g):zAD prog 81 [.st s.row] (.bool (zBQ s)):=by
 have hl:=zB5 s.queue;by_cases h0:s.base<1\/4611686018427387904<s.base\/8<s.queue.length
 ·have hE:zBQ s=false:=by unfold zBQ;rw [if_pos h0]
  rw [hE];have h1:s.base<1\/4611686018427387904<s.base\/(8:Int)<s.queue.length:=by omega
  refine sY func81 ntmps81 @hl ?_;intros;apply wr;have h2:(decide (s.base<1)||decide (4611686018427387904<s.base)||decide ((8:Int)<s.queue.length))=true:=by simpa [or_assoc] using h1
  refine gT10 @h2 rfl ?_;intros;apply wr;refine zAB ?_;simp [hE]
 obtain ⟨b1,b2,b3⟩:¬ s.base<1/\¬ 4611686018427387904<s.base/\¬ (8:Int)<s.queue.length:=by omega
 cases hq:s.queue with
 | nil =>
  have hE:zBQ s=decide (s.known<=s.tail):=by unfold zBQ;rw [if_neg h0];simp only [hq]
  have hz:(s.queue.length:Int)=0:=by rw [hq];rfl
  rw [hE];refine sZ func81 ntmps81 ?_
  (refine af1 (kX5 @hl @b1 @b2 @b3 @hz) ?_;intros;apply wr)
  repeat' ((first|(refine zAC rfl (fun h=>?_) (fun h=>?_)<;>(first|(simp [hl,b1,b2,b3,hz] at h;done)|(simp [hl,b1,b2,b3,hz] at h)|skip)<;>(first|(exfalso;omega)|skip))|(refine zAE 8 [0,1,3,7,15,0,32,127] [(7,([[],[0],[0,1],[0,1,2],[0,1,2,3],[],[5]],[])),(1,([],[]))] ?_)|exact rt1 (kX5 @hl @b1 @b2 @b3 @hz)|fail)<;>(refine af1 (kX5 @hl @b1 @b2 @b3 @hz) ?_;intros;apply wr))
 | cons g0 q =>
  have hE:zBQ s=(decide (s.known<=g0.from_)&&chainOk g0.from_ s.queue&&decide (s.tail=lastAt g0.from_ s.queue)):=by unfold zBQ;rw [if_neg h0];simp only [hq]
  have hg0:=zEB (show s.queue[0]? =some g0 by rw [hq];rfl)
  have hpos:0<s.queue.length:=by rw [hq];simp
  have hz:¬ (s.queue.length:Int)=0:=by omega
  have hne:¬ s.queue=[]:=by rw [hq];simp
  clear hq;rw [hE];refine sY func81 ntmps81 (kX4 @hl @b1 @b2 @b3) ?_;intros;apply wr;refine gF01 rfl @hl ?_;intros;apply wr;refine gF11 @hne rfl (kX4 @hl @hpos @hg0 (getE hg0)) ?_;intros;apply wr;refine zAE 8 [0,1,3,7,15,0,32,127] [(7,([[],[0],[0,1],[0,1,2],[0,1,2,3],[],[5]],[])),(1,([],[]))] ?_;refine af1 (kX4 @hl @hpos @hg0 (getE hg0)) ?_;intros;apply wr;by_cases hk:g0.from_<s.known
  ·have hn:¬ s.known<=g0.from_:=by omega
   refine zDe @hk rfl ?_;intros;apply wr;refine zAB ?_;simp [hn]
  have hn:s.known<=g0.from_:=by omega
  refine zEH @hk rfl (kX4 @hl @hpos @hg0 (getE hg0)) ?_;intros;apply wr;obtain ⟨I,hI⟩:∃ I:Nat->St->Prop,I=(fun kk ss=>∃ (i:Nat) (a:Int),i<=s.queue.length/\kk=s.queue.length-i/\(chainOk g0.from_ s.queue=chainOk a (s.queue.drop i)/\lastAt g0.from_ s.queue=lastAt a (s.queue.drop i))/\ss=⟨65,[(45,.int .i64 i),(44,.int .i64 s.queue.length),(43,.sl 3 false (segs s.queue)),(1,.ptr 0 4 0 0),(3,lv a)],1,[(0,some ⟨54,4,true,false,[s.row]⟩)],0⟩):=⟨_,rfl⟩
  refine lX I (id) (by rw [hI];exact ⟨0,g0.from_,by simp,rfl,⟨rfl,rfl⟩,rfl⟩) ?_
  intro kk ss hIk _
  rw [hI] at hIk;obtain ⟨i,a,hi,rfl,hx,rfl⟩:=hIk;obtain ⟨hx1,hx2⟩:=hx;refine af1 @hl ?_;intros;apply wr;refine zAC rfl (fun hh=>?_) (fun hh=>?_)
  ·simp at hh;obtain ⟨g,hg,hd,-,hmem⟩:=get_at hh;have hget:=zEB hg;rw [hd,chainOk] at hx1;rw [hd,lastAt] at hx2;refine af1 @hget ?_;intros;apply wr;refine cXf (zUK g (h g hmem)) ?_;intros;apply wr;refine zAC rfl (fun hb=>?_) (fun hb=>?_)
   ·have hF:chainOk g0.from_ s.queue=false:=by
     rw [hx1];cases hs:zDL g<;>simp [hs] at hb ⊢
     intro z;exact absurd z hb
    refine af ?_;intros;apply wr;refine zAB ?_;simp [hF]
   have hF:chainOk g0.from_ s.queue=chainOk g.known (s.queue.drop (i+1)):=by
    rw [hx1];cases hs:zDL g<;>simp [hs] at hb ⊢
    simp [hb]
   refine af ?_;intros;apply wr;exact aX (id) (by rw [hI];exact ⟨i+1,g.known,by omega,rfl,⟨hF,hx2⟩,rfl⟩) (zAA (n:=(i:Int)+1) (by omega) (by omega))
  simp at hh;rw [zBc hh,chainOk] at hx1;rw [zBc hh,lastAt] at hx2;refine af ?_;intros;apply wr;refine zAB ?_;simp [hx1,hx2,hn];rfl
theorem zDw (s:SndD) (h:∀ g∈s.queue,g.ents.length<=100000) (hn:s.queue.length<=1000):zAD prog 133 [.st s.row] (.st [lv s.base,lv s.tail,lv s.known,.new 150 3 (segs s.queue)]):=by
 have hl:=zB5 s.queue;have hw:IntKind.i64.wrap ((s.queue.length:Int)+1)=s.queue.length+1:=zAA (by omega) (by omega)
 refine sZ func133 ntmps133 ?_;refine aum1 (kX3 @hl @hw @maxLen.eq_1) ?_;intros;apply wr;obtain ⟨I,hI⟩:∃ I:Nat->St->Prop,I=(fun kk ss=>∃ (i:Nat) ,i<=s.queue.length/\kk=s.queue.length-i/\(True)/\ss=⟨27,[(14,.int .i64 i),(13,.int .i64 s.queue.length),(12,.sl 3 false (segs s.queue)),(1,.ptr 0 4 0 0),(2,.ptr 1 4 0 0),(3,.own 2)],3,[(0,some ⟨54,4,true,false,[s.row]⟩),(1,some ⟨54,4,true,false,[[lv 0,lv 0,lv 0,.sl 0 true []]]⟩),(2,some ⟨150,3,false,false,segs (s.queue.take i)⟩)],0⟩):=⟨_,rfl⟩
 refine lX I (id) (by rw [hI];exact ⟨0,by simp,rfl,trivial,rfl⟩) ?_
 intro kk ss hIk _
 rw [hI] at hIk;obtain ⟨i,hi,rfl,hx,rfl⟩:=hIk;refine au1 @hl ?_;intros;apply wr;refine zAC rfl (fun hh=>?_) (fun hh=>?_)
 ·simp at hh;obtain ⟨g,hg,-,ht,hmem⟩:=get_at hh;have hget:=zEB hg;have hlt:(segs (s.queue.take i)).length=i:=by rw [zB5,zWE];omega
  refine au1 @hget ?_;intros;apply wr;refine cc (zJX g (h g hmem)) ?_;have hts:segs (s.queue.take (i+1))=segs (s.queue.take i)++[[lv g.from_,lv g.known,zBZ g.ents]]:=by rw [ht,zCS];rfl
  refine aum1 (kX2 @hlt @maxLen.eq_1) ?_;intros;apply wr;exact aX (fun x=>if x=2 then 8 else x) (by rw [hI];exact ⟨i+1,by omega,rfl,trivial,rfl⟩) (kX2 (zAA (n:=(i:Int)+1) (by omega) (by omega)) @hts)
 simp at hh;rw [zGN hh];refine au ?_;intros;apply wr;refine zAB ?_;simp
def zJB (o:Option (Nat × Nat)):V:=match o with
 | some (x,n)=>.tup [lv (x:Int),iv n,.bool true]
 | none=>.tup [lv 0,iv 0,.bool false]
theorem zPE (x c s:Nat) (hx:x<2 ^ s) (h:x+c*2 ^ s<18446744073709551616):ior .u64 (x:Int) ((c*2 ^ s:Nat):Int)=((x+c*2 ^ s:Nat):Int):=by
 have e:x ||| c*2 ^ s=x+c*2 ^ s:=by rw [Nat.or_comm,<- Nat.shiftLeft_eq,<- Nat.shiftLeft_add_eq_or_of_lt hx,Nat.add_comm]
 unfold ior;rw [show IntKind.u64.bits=64 from rfl,BitVec.ofInt_natCast,BitVec.ofInt_natCast,BitVec.toNat_or,BitVec.toNat_ofNat,BitVec.toNat_ofNat,Nat.mod_eq_of_lt (by omega),Nat.mod_eq_of_lt (by omega),e,IntKind.wrap_u64]
 omega
theorem zT0:∀ k:Fin 256,iand .u8 (k.val:Int) 127=(k.val:Int) % 128:=by decide +kernel
theorem and127 (b:UInt8):iand .u8 (b.toNat:Int) 127=(b.toNat:Int) % 128:=zT0 ⟨b.toNat,b.toNat_lt⟩
theorem zCX (i x:Nat) (b:UInt8) (r:Str):zHL i x (b::r)=if 10<=i then none else if i=9/\1<b.toNat then none else if 128<=b.toNat then zHL (i+1) (x+b.toNat % 128*2 ^ (7*i)) r
  else if b=0/\0<i then none else some (x+b.toNat*2 ^ (7*i),i+1):=rfl
theorem zLX (s:Str) (hs:s.length<=1000000):zAD prog 142 [.str s] (zJB (zKW s)):=by
 obtain ⟨m,hm⟩:∃ m,m=min 10 s.length:=⟨_,rfl⟩;have hmi:(if (10:Int)<(s.length:Int) then 10 else (s.length:Int))=m:=by split<;>omega
 refine sX func142 ntmps142 ?_;intros;apply wr;refine au1 @hmi ?_;intros;apply wr;refine zAX (m+1) ?_;refine zA5 (fun c st=>∃ (T:List (Nat × V)) (i x:Nat),i+c=m/\st=⟨44,T,0,[],0⟩/\(lkT T 0=.str s/\lkT T 5=lv x/\lkT T 10=iv m/\lkT T 11=.int .i64 i)/\x<2 ^ (7*i)/\zHL i x (s.drop i)=zKW s) ?_ _ _ ⟨_,0,0,by omega,rfl,by simp [lkT];exact hmi,by simp,rfl⟩
 rintro c st ⟨T,i,x,hic,rfl,⟨t0,t5,t10,t11⟩,hx,hE⟩ Kl hKl
 refine zBV [(0,.str s),(5,lv x),(10,iv m),(11,.int .i64 i)] (by simp [t0,t5,t10,t11]) ?_
 refine au ?_;intros;apply wr;by_cases him:i<m
 ·have c1:(i:Int)<m:=by omega
  obtain ⟨c',rfl⟩:∃ c',c=c'+1:=⟨c-1,by omega⟩
  obtain ⟨b,hb,hd⟩:=zDz (t:=s) (i:=i) (by omega)
  rw [hd,zCX,if_neg (by omega)] at hE
  have hb8:=b.toNat_lt;have c2:(i:Int)<s.length:=by omega
  refine gT11 (kX2 @him @c1) rfl (kX3 @hb @c1 @c2) ?_;intros;apply wr;by_cases h9:i=9/\1<b.toNat
  ·rw [if_pos h9] at hE;have k1:(i:Int)=9:=by omega
   have k2:(1:Int)<b.toNat:=by omega
   have k3:((i:Int)==9)=true:=by rw [k1];rfl
   have k4:1<b.toNat:=h9.2;refine gT10 (kX4 @k1 @k2 @k3 @k4) rfl ?_;intros;apply wr;refine zAB ?_;simp [zJB,<- hE]
  rw [if_neg h9] at hE;have k1:((i:Int)==9&&decide ((1:Int)<b.toNat))=false:=by simp;omega
  have k2:¬ ((i:Int)=9/\(1:Int)<b.toNat):=by omega
  have k3:i=9->b.toNat<=1:=by omega
  have k4:IntKind.i64.wrap (7*(i:Int))=7*(i:Int):=zAA (by omega) (by omega)
  have k5:IntKind.u64.wrap ((b.toNat:Int) % 128)=(b.toNat:Int) % 128:=by rw [IntKind.wrap_u64];omega
  have k6:IntKind.u64.wrap (7*(i:Int))=7*(i:Int):=by rw [IntKind.wrap_u64];omega
  have k7:(7*(i:Int)).toNat=7*i:=by omega
  have k8:(0:Int)<=7*(i:Int):=by omega
  obtain ⟨P,hP⟩:∃ P,P=2 ^ (7*i):=⟨_,rfl⟩;have hP64:(b.toNat % 128+1)*P<=18446744073709551616:=by
   by_cases hi9:i=9
   ·subst hi9;rw [show P=9223372036854775808 by rw [hP]]
    omega
   have h1:P<=2 ^ 56:=by rw [hP];exact Nat.pow_le_pow_right (by decide) (by omega)
   exact zWR (Nat.mul_le_mul (show b.toNat % 128+1<=128 by omega) h1) (by decide)
  rw [Nat.succ_mul] at hP64;have hPn:P*128=2 ^ (7*(i+1)):=by rw [hP,show 7*(i+1)=7*i+7 by omega,Nat.pow_add]
  have hPm:(b.toNat % 128+1)*P<=128*P:=zWO _ (by omega)
  rw [Nat.succ_mul] at hPm;rw [<- hP] at hx hE;obtain ⟨y,hy⟩:∃ y,y=x+b.toNat % 128*P:=⟨_,rfl⟩;have k9:ior .u64 (x:Int) (IntKind.u64.wrap ((b.toNat:Int) % 128*2 ^ min (7*i) IntKind.u64.bits))=(y:Int):=by
   rw [Nat.min_eq_left (show 7*i<=IntKind.u64.bits by simp [IntKind.bits];omega)]
   have e:(b.toNat:Int) % 128*2 ^ (7*i)=((b.toNat % 128*P:Nat):Int):=by rw [hP];simp
   rw [e,show IntKind.u64.wrap ((b.toNat % 128*P:Nat):Int)=((b.toNat % 128*P:Nat):Int) by rw [IntKind.wrap_u64];omega,hy,hP]
   exact zPE _ _ _ (by rw [<- hP];exact hx) (by rw [<- hP];omega)
  have k10:IntKind.i64.wrap ((i:Int)+1)=(i:Int)+1:=zAA (by omega) (by omega)
  refine gF11 (kX3 @k1 @k2 @k3) rfl (kX7 @and127 @k4 @k5 @k6 @k7 @k8 @k9) ?_;intros;apply wr;by_cases hb1:128<=b.toNat
  ·have g1:(128:Int)<=b.toNat:=by omega
   rw [if_pos hb1,<- hy] at hE;refine gT11 (kX2 @g1 @hb1) rfl @k10 ?_;intros;apply wr;exact hKl c' _ rfl ⟨_,i+1,y,by omega,rfl,by simp [lkT],by omega,hE⟩
  have g1:¬ (128:Int)<=b.toNat:=by omega
  rw [if_neg hb1] at hE;refine gF10 (kX2 @g1 @hb1) rfl ?_;intros;apply wr;by_cases h0:b=0/\0<i
  ·rw [if_pos h0] at hE;have g2:(b.toNat:Int)=0:=by rw [h0.1];rfl
   have g3:(0:Int)<i:=by omega
   have g4:0<i:=h0.2;have g5:b.toNat=0:=by omega
   refine gT10 (kX4 @g2 @g3 @g4 @g5) rfl ?_;intros;apply wr;refine zAB ?_;simp [zJB,<- hE]
  rw [if_neg h0] at hE;have g0:¬ (b.toNat=0/\0<i):=fun z=>h0 ⟨UInt8.toNat_inj.1 (by simpa using z.1),z.2⟩
  have g2:((b.toNat:Int)==0&&decide ((0:Int)<i))=false:=by simp;omega
  have g3:¬ ((b.toNat:Int)=0/\(0:Int)<i):=by omega
  have g4:b.toNat=0->i=0:=by omega
  rw [show b.toNat*P=b.toNat % 128*P by rw [Nat.mod_eq_of_lt (by omega)],<- hy] at hE
  have g6:b.toNat=0->¬ 0<i:=fun z w=>g0 ⟨z,w⟩
  refine gF11 (kX5 @g0 @g2 @g3 @g4 @g6) rfl @k10 ?_;intros;apply wr;refine zAB ?_;simp [zJB,<- hE]
 have c1:¬ (i:Int)<m:=by omega
 have hu:zKW s=none:=by
  rw [<- hE];by_cases h10:i<s.length
  ·obtain ⟨b,hb,hd⟩:=zDz h10;rw [hd,zCX,if_pos (by omega)]
  rw [List.drop_eq_nil_of_le (by omega)];simp [zHL]
 refine gF10 (kX2 @him @c1) rfl ?_;intros;apply wr;refine zAB ?_;simp [zJB,hu]
theorem zMw:∀ (s:Str) (i x y n:Nat),zHL i x s=some (y,n)->i<n/\n<=i+s.length
 | [],i,x,y,n,h=>by simp [zHL] at h
 | b::r,i,x,y,n,h=>by
  rw [zCX] at h;split at h
  ·cases h
  split at h
  ·cases h
  split at h
  ·have:=zMw r _ _ _ _ h;simp only [zWG];omega
  split at h
  ·cases h
  simp only [zV2,Prod.mk.injEq] at h;simp only [zWG];omega
theorem zMv:∀ (s:Str) (i x y n:Nat),x<2 ^ (7*i)->zHL i x s=some (y,n)->y<18446744073709551616
 | [],i,x,y,n,_,h=>by simp [zHL] at h
 | b::r,i,x,y,n,hx,h=>by
  rw [zCX] at h;split at h
  ·cases h
  rename_i hi;split at h
  ·cases h
  rename_i h9;obtain ⟨P,hP⟩:∃ P,P=2 ^ (7*i):=⟨_,rfl⟩;have hPn:P*128=2 ^ (7*(i+1)):=by rw [hP,show 7*(i+1)=7*i+7 by omega,Nat.pow_add]
  have hPm:(b.toNat % 128+1)*P<=128*P:=zWO _ (by omega)
  rw [Nat.succ_mul] at hPm;rw [<- hP] at hx h;split at h
  ·exact zMv r _ _ _ _ (by omega) h
  rename_i hb;split at h
  ·cases h
  simp only [zV2,Prod.mk.injEq] at h;have e:b.toNat % 128=b.toNat:=Nat.mod_eq_of_lt (by omega)
  rw [e] at hPm;by_cases hi9:i=9
  ·subst hi9;have hP':P=9223372036854775808:=by rw [hP]
   have:b.toNat*P<=1*P:=zWO _ (by omega)
   omega
  have h1:P<=2 ^ 56:=by rw [hP];exact Nat.pow_le_pow_right (by decide) (by omega)
  have h2:(2:Nat) ^ 56=72057594037927936:=by decide
  omega
theorem zMu {s:Str} {y n:Nat} (h:zKW s=some (y,n)):0<n/\n<=s.length/\y<18446744073709551616:=by
 have h1:=zMw _ _ _ _ _ h;exact ⟨h1.1,by omega,zMv _ _ _ _ _ (by simp) h⟩
abbrev rdrO (s:Str) (bad:Bool):Ob:=⟨313,2,true,false,[[.str s,.bool bad]]⟩
def numD (s:Str) (bad:Bool):Nat × Str × Bool:=if bad=true then (0,s,true) else match zKW s with
 | some (x,n)=>(x,s.drop n,false)
 | none=>(0,s,true)
theorem zMG {nx:Nat} {ob:List (Nat × Option Ob)} (id:Nat) (s:Str) (bad:Bool) (hs:s.length<=1000000) (hob:lookO ob id=some (rdrO s bad)) (hn:id<nx) :
  InlC prog 190 [.ptr id 2 0 0] nx ob fun v nx' ob'=>v=lv ((numD s bad).1:Int)/\lookO ob' id=some (rdrO (numD s bad).2.1 (numD s bad).2.2)/\nx<=nx'/\∀ q,q<nx->q≠id->lookO ob' q=lookO ob q:=by
 have hu:=zLX s hs;cases hv:zKW s with
 | none =>
  rw [hv] at hu;simp only [zJB] at hu;refine InlC.of func190 rfl (by kernel_rfl) rfl ?_
  simp only [ntmps190,St.startI,argT];refine au1 @hob ?_;intros;apply wr;refine cZ (hu) @hob @hob ?_;intros;apply wr;refine gT01 rfl @hob ?_;intros;apply wr;refine zAB ?_;simp [numD,hv,lookO];exact fun q h1 h2 h3=>absurd h3 h2
 | some p =>
  obtain ⟨x,n⟩:=p;obtain ⟨n0,n1,x1⟩:=zMu hv;rw [hv] at hu;simp only [zJB] at hu;cases bad with
  | true =>
   refine InlC.of func190 rfl (by kernel_rfl) rfl ?_
   simp only [ntmps190,St.startI,argT];refine au1 @hob ?_;intros;apply wr;refine cZ (hu) @hob @hob ?_;intros;apply wr;refine gT01 rfl @hob ?_;intros;apply wr;refine zAB ?_;simp [numD,hv,lookO];exact fun q h1 h2 h3=>absurd h3 h2
  | false =>
   have c1:(n:Int)<=s.length:=by omega
   refine InlC.of func190 rfl (by kernel_rfl) rfl ?_
   simp only [ntmps190,St.startI,argT];refine au1 @hob ?_;intros;apply wr;refine cZ (hu) @hob (kX2 @hob @c1) ?_;intros;apply wr;refine gF01 rfl (kX2 @hob @c1) ?_;intros;apply wr;refine zAB ?_;simp [numD,hv,lookO];exact fun q h1 h2 h3=>absurd h3 h2
theorem zFN (s:Str) (bad:Bool):(numD s bad).2.1.length<=s.length/\(numD s bad).1<18446744073709551616:=by
 unfold numD;split
 ·exact ⟨zV9 _,by simp⟩
 split
 ·rename_i x n h;have:=zMu h;simp;omega
 exact ⟨zV9 _,by simp⟩
def rwdD (s:Str) (bad:Bool):Nat × Str × Bool:=if 4294967295<(numD s bad).1 then (0,(numD s bad).2.1,true) else numD s bad
def rdtD (s:Str) (bad:Bool):Str × Str × Bool:=if (numD s bad).2.2=true\/(numD s bad).2.1.length<(numD s bad).1 then ([],(numD s bad).2.1,true) else ((numD s bad).2.1.take (numD s bad).1,(numD s bad).2.1.drop (numD s bad).1,false)
theorem zSa {nx:Nat} {ob:List (Nat × Option Ob)} (id:Nat) (s:Str) (bad:Bool) (hs:s.length<=1000000) (hob:lookO ob id=some (rdrO s bad)) (hn:id<nx) :
  InlC prog 314 [.ptr id 2 0 0] nx ob fun v nx' ob'=>v=.int .u32 ((rwdD s bad).1:Int)/\lookO ob' id=some (rdrO (rwdD s bad).2.1 (rwdD s bad).2.2)/\nx<=nx'/\∀ q,q<nx->q≠id->lookO ob' q=lookO ob q:=by
 obtain ⟨l1,l2⟩:=zFN s bad;have hc:=zMG id s bad hs hob hn;obtain ⟨x,r,b,hN⟩:∃ x r b,numD s bad=(x,r,b):=⟨_,_,_,rfl⟩;have hD:rwdD s bad=if 4294967295<x then (0,r,true) else (x,r,b):=by unfold rwdD;rw [hN]
 rw [hN] at hc l1 l2;simp only at hc l1 l2;refine InlC.of func314 rfl (by kernel_rfl) rfl ?_
 simp only [ntmps314,St.startI,argT];refine au1 @hob ?_;intros;apply wr
 first|refine .inr ((hc).mono fun r nx' ob' hp=>?_)|refine (hc).mono fun r nx' ob' hp=>?_|refine ((hc).mono fun r nx' ob' hp=>?_).2
 simp only [aftI];obtain ⟨rfl,h1,h2,h3⟩:=hp;simp;refine au1 @h1 ?_;intros;apply wr;by_cases hx:4294967295<x
 ·have g1:(4294967295:Int)<x:=by omega
  refine gT11 (kX2 @g1 @hx) rfl @h1 ?_;intros;apply wr;refine zAB ?_;simp [hD,hx,lookO];exact ⟨h2,fun q z1 z2=>by rw [if_neg z2];exact h3 q z1 z2⟩
 have g1:¬ (4294967295:Int)<x:=by omega
 have w1:IntKind.u32.wrap (x:Int)=x:=by rw [IntKind.wrap_u32];omega
 refine gF11 (kX2 @g1 @hx) rfl (kX2 @h1 @w1) ?_;intros;apply wr;refine zAB ?_;simp [hD,hx,lookO,w1];exact ⟨h1,h2,h3⟩
theorem zMX {nx:Nat} {ob:List (Nat × Option Ob)} (id:Nat) (s:Str) (bad:Bool) (hs:s.length<=1000000) (hob:lookO ob id=some (rdrO s bad)) (hn:id<nx) :
  InlC prog 191 [.ptr id 2 0 0] nx ob fun v nx' ob'=>v=.str (rdtD s bad).1/\lookO ob' id=some (rdrO (rdtD s bad).2.1 (rdtD s bad).2.2)/\nx<=nx'/\∀ q,q<nx->q≠id->lookO ob' q=lookO ob q:=by
 obtain ⟨l1,l2⟩:=zFN s bad;have hc:=zMG id s bad hs hob hn;obtain ⟨x,r,b,hN⟩:∃ x r b,numD s bad=(x,r,b):=⟨_,_,_,rfl⟩;have hD:rdtD s bad=if b=true\/r.length<x then ([],r,true) else (r.take x,r.drop x,false):=by unfold rdtD;rw [hN]
 rw [hN] at hc l1 l2;simp only at hc l1 l2;have w1:IntKind.u64.wrap (r.length:Int)=r.length:=by rw [IntKind.wrap_u64];omega
 refine InlC.of func191 rfl (by kernel_rfl) rfl ?_
 simp only [ntmps191,St.startI,argT];refine au1 @hob ?_;intros;apply wr
 first|refine .inr ((hc).mono fun r nx' ob' hp=>?_)|refine (hc).mono fun r nx' ob' hp=>?_|refine ((hc).mono fun r nx' ob' hp=>?_).2
 simp only [aftI];obtain ⟨rfl,h1,h2,h3⟩:=hp;simp;refine au1 (kX2 @h1 @w1) ?_;intros;apply wr;cases b with
 | true =>
  refine gT01 rfl @h1 ?_;intros;apply wr;refine zAB ?_;simp [hD,lookO];exact ⟨h2,fun q z1 z2=>by rw [if_neg z2];exact h3 q z1 z2⟩
 | false =>
  by_cases hx:r.length<x
  ·have g1:(r.length:Int)<x:=by omega
   refine gT11 (kX2 @g1 @hx) rfl @h1 ?_;intros;apply wr;refine zAB ?_;simp [hD,hx,lookO];exact ⟨h2,fun q z1 z2=>by rw [if_neg z2];exact h3 q z1 z2⟩
  have g1:¬ (r.length:Int)<x:=by omega
  have g2:(x:Int)<=r.length:=by omega
  have g3:(0:Int)<=x:=by omega
  refine gF11 (kX2 @g1 @hx) rfl (kX4 @h1 @g1 @g2 @g3) ?_;intros;apply wr;refine zAB ?_;simp [hD,hx,lookO];exact ⟨h2,fun q z1 z2=>by rw [if_neg z2];exact h3 q z1 z2⟩
def hshS (h:Int) (b:UInt8):Int:=IntKind.u64.wrap (ixor .u64 h (IntKind.u64.wrap (b.toNat:Int))*1099511628211)
def hshD (h:Int) (s:Str):Int:=s.foldl hshS h
theorem zRc (h:Int) (s:Str) (i:Nat) (hi:i<s.length):hshD h (s.take (i+1))=hshS (hshD h (s.take i)) s[i]:=by
 unfold hshD;rw [List.take_succ_eq_append_getElem hi,List.foldl_append];rfl
theorem hsh_ok (h:Int) (s:Str) (hl:s.length<=1000000):zAD prog 189 [lv h,.str s] (lv (hshD h s)):=by
 refine sX func189 ntmps189 ?_;intros;apply wr;obtain ⟨I,hI⟩:∃ I:Nat->St->Prop,I=(fun kk ss=>∃ (i:Nat) (g:Int),i<=s.length/\kk=s.length-i/\(g=hshD h (s.take i))/\ss=⟨20,[(8,.int .i64 i),(7,.int .i64 s.length),(1,.str s),(0,.int .u64 g)],0,[],0⟩):=⟨_,rfl⟩
 refine lX I (id) (by rw [hI];exact ⟨0,h,by simp,rfl,rfl,rfl⟩) ?_
 intro kk ss hIk _
 rw [hI] at hIk;obtain ⟨i,g,hi,rfl,hx,rfl⟩:=hIk;refine au ?_;intros;apply wr;refine zAC rfl (fun hh=>?_) (fun hh=>?_)
 ·simp at hh;obtain ⟨c,hc⟩:∃ c,c=s[i]:=⟨_,rfl⟩;have hget:s[i]? =some c:=by rw [hc];exact zV3 hh
  have ht:=zRc h s i hh;rw [<- hc] at ht;refine au1 @hget ?_;intros;apply wr;exact aX (id) (by rw [hI];exact ⟨i+1,(hshD h (s.take (i+1))),by omega,rfl,rfl,rfl⟩) (kX4 (zAA (n:=(i:Int)+1) (by omega) (by omega)) @ht @hx @hshS.eq_1)
 simp at hh;have hii:s.take i=s:=List.take_of_length_le (by omega)
 refine au ?_;intros;apply wr;refine zAB ?_;simp [hx,hii]
def sumG (h:Int):Str:=[56,48,40,32,24,16,8,0].map fun k:Nat=>UInt8.ofNat (IntKind.u8.wrap (h.fdiv (2 ^ k))).toNat
theorem zKf (n:Int):0<=IntKind.u8.wrap n:=by rw [IntKind.wrap_u8];omega
theorem zKe (n:Int):IntKind.u8.wrap n<256:=by rw [IntKind.wrap_u8];omega
theorem kI64 {n:Int} (h1:-9223372036854775808<=n) (h2:n<=9223372036854775807):IntKind.i64.wrap n=n:=zAA h1 h2
theorem zGR (n:Int):zB0 [.int .u8 n]↔(0<=n/\n<256):=by
 constructor
 ·rintro ⟨b,hb⟩
  simp at hb;have:=b.toNat_lt;omega
 intro h
 exact ⟨UInt8.ofNat n.toNat,by simp;omega⟩
theorem bt64:IntKind.u64.bits=64:=rfl
abbrev hsh0:Int:=14695981039346656037
theorem zQO (s:Str) (hl:s.length<=1000000):zAD prog 140 [.str s] (.str (sumG (hshD hsh0 s))):=by
 obtain ⟨z,hz⟩:∃ z,z=hshD hsh0 s:=⟨_,rfl⟩;have hh:=hsh_ok hsh0 s hl;rw [<- hz] at hh ⊢;refine sX func140 ntmps140 ?_;(repeat intro K hK);apply wr
 refine cX (hh) ?_;(repeat intro K hK);apply wr
 (refine au1 (kX7 @zKf @zKe @sumG.eq_1 @maxLen.eq_1 @bt64 @kI64 @zGR) ?_;(repeat intro K hK);apply wr)
 repeat' ((first|(refine zAC rfl (fun h=>?_) (fun h=>?_)<;>(first|(simp [zKf,zKe,sumG,maxLen,bt64,kI64,zGR] at h;done)|(simp [zKf,zKe,sumG,maxLen,bt64,kI64,zGR] at h)|skip)<;>(first|(exfalso;omega)|skip))|refine zAX 9 ?_|refine zAk fun K hK=>?_|exact rt1 (kX7 @zKf @zKe @sumG.eq_1 @maxLen.eq_1 @bt64 @kI64 @zGR)|fail)<;>(refine au1 (kX7 @zKf @zKe @sumG.eq_1 @maxLen.eq_1 @bt64 @kI64 @zGR) ?_;(repeat intro K hK);apply wr))
theorem zEv (h:Int):(sumG h).length=8:=by simp [sumG]
def slB (n:Int) (b:Str):Str:=putD n++(putD b.length++b)
def slD (n:Int) (b:Str):Str:=slB n b++sumG (hshD hsh0 (slB n b))
theorem zQI (n:Int) (b:Str) (hn:L64 n) (hb:b.length<=500000):zAD prog 83 [lv n,.str b] (.str (slD n b)):=by
 have hw:IntKind.u64.wrap (b.length:Int)=(b.length:Int):=by rw [IntKind.wrap_u64];omega
 have l1:=zAS n;have l2:=zAS b.length;have hs:=zQO (slB n b) (by simp [slB];omega)
 have hl:=zEv (hshD hsh0 (slB n b));have hp2:zAD prog 85 [lv (IntKind.u64.wrap (b.length:Int))] (.str (putD b.length)):=by rw [hw];exact zDo _ ⟨by omega,by omega⟩
 have hsl:putD n++(putD b.length++b)=slB n b:=rfl;refine sX func83 ntmps83 ?_;intros;apply wr;refine cX (zDo n hn) ?_;intros;apply wr;refine cY (hp2) @hsl ?_;intros;apply wr;refine cX (hs) ?_;intros;apply wr;refine zAB ?_;simp [slD]
def zIr (s:Str) (q:Nat) (body r:Str) (bad:Bool):Nat × Str × Int:=if bad=true\/r.length≠8 then (0,[],1900) else if sumG (hshD hsh0 (s.take (s.length-8)))=r then (q,body,0) else (0,[],1903)
def zGv (s:Str):Nat × Str × Int:=zIr s (numD s false).1 (rdtD (numD s false).2.1 (numD s false).2.2).1 (rdtD (numD s false).2.1 (numD s false).2.2).2.1 (rdtD (numD s false).2.1 (numD s false).2.2).2.2
def zJ9 (p:Nat × Str × Int):V:=.tup [lv p.1,.str p.2.1,iv p.2.2]
theorem zVE (s:Str) (bad:Bool):(rdtD s bad).2.1.length<=s.length:=by
 have:=(zFN s bad).1;unfold rdtD;split
 ·exact this
 simp only [zWF];omega
theorem zLF (s:Str) (hs:s.length<=1000000):zAD prog 144 [.str s] (zJ9 (zGv s)):=by
 have hc1:=fun nx ob=>@zMG nx ob 0 s false hs
 obtain ⟨q,r1,b1,hN⟩:∃ q r b,numD s false=(q,r,b):=⟨_,_,_,rfl⟩;have l1:=(zFN s false).1;have l2:=zVE r1 b1;have hD:zGv s=zIr s q (rdtD r1 b1).1 (rdtD r1 b1).2.1 (rdtD r1 b1).2.2:=by unfold zGv;rw [hN]
 rw [hN] at hc1 l1;simp only at hc1 l1;have hc2:=fun nx ob=>@zMX nx ob 0 r1 b1 (by omega)
 obtain ⟨body,r2,b2,hT⟩:∃ q r b,rdtD r1 b1=(q,r,b):=⟨_,_,_,rfl⟩;rw [hT] at hc2 hD l2;simp only at hc2 hD l2;have hsm:=zQO (s.take (s.length-8)) (by rw [zWE];omega)
 refine sX func144 ntmps144 ?_;intros;apply wr;refine au ?_;intros;apply wr
 first|refine .inr ((hc1 _ _ (by simp [lookO]) (by omega)).mono fun r nx' ob' hp=>?_)|refine (hc1 _ _ (by simp [lookO]) (by omega)).mono fun r nx' ob' hp=>?_|refine ((hc1 _ _ (by simp [lookO]) (by omega)).mono fun r nx' ob' hp=>?_).2
 simp only [aftI];obtain ⟨rfl,h1,h2,h3⟩:=hp;simp;refine au1 @h1 ?_;intros;apply wr
 first|refine .inr ((hc2 _ _ h1 (by omega)).mono fun r nx' ob' hp=>?_)|refine (hc2 _ _ h1 (by omega)).mono fun r nx' ob' hp=>?_|refine ((hc2 _ _ h1 (by omega)).mono fun r nx' ob' hp=>?_).2
 simp only [aftI];obtain ⟨rfl,h4,h5,h6⟩:=hp;simp;refine au1 @h4 ?_;intros;apply wr;cases b2 with
 | true =>
  refine gT00 rfl ?_;intros;apply wr;refine zAB ?_;simp [hD,zIr,zJ9]
 | false =>
  by_cases hl:r2.length=8
  ·have g1:(r2.length:Int)=8:=by omega
   have g2:((r2.length:Int) != 8)=false:=by rw [g1];rfl
   have g3:IntKind.i64.wrap ((s.length:Int)-8)=(s.length:Int)-8:=zAA (by omega) (by omega)
   have g4:(0:Int)<=(s.length:Int)-8:=by omega
   have g5:(s.length:Int)-8<=s.length:=by omega
   have g6:((s.length:Int)-8).toNat=s.length-8:=by omega
   refine gF10 (kX3 @g1 @g2 @hl) rfl ?_;intros;apply wr;refine zAE 11 [0,0,2,6,15,31,0,64,192,448,1023] [(10,([[],[],[1],[1,2],[0,1,2,3],[0,1,2,3,4],[],[6],[6,7],[6,7,8]],[(9,5)])),(1,([],[]))] ?_;refine af1 (kX5 @h4 @g3 @g4 @g5 @g6) ?_;intros;apply wr
   all_goals ((first|refine .inl ⟨0,_,hsm,?_⟩|refine .inl ⟨0,_,zAD.wk (hsm) (by simp),?_⟩|refine ⟨0,_,hsm,?_⟩|refine ⟨0,_,zAD.wk (hsm) (by simp),?_⟩);(simp [aftC,aftE]))
   all_goals ((refine af1 @h4 ?_);intros;(apply wr))
   by_cases hq:sumG (hshD hsh0 (s.take (s.length-8)))=r2
   ·have z1:(sumG (hshD hsh0 (s.take (s.length-8))) != r2)=false:=by rw [hq];simp
    refine zBO (kX2 @z1 @hq) rfl ?_;intros;apply wr;refine zAB ?_;simp [hD,zIr,zJ9,hl,hq]
   have z1:(sumG (hshD hsh0 (s.take (s.length-8))) != r2)=true:=by simpa using hq
   refine zDe (kX2 @z1 @hq) rfl ?_;intros;apply wr;refine zAB ?_;simp [hD,zIr,zJ9,hl,hq]
  have g1:¬ (r2.length:Int)=8:=by omega
  have g2:((r2.length:Int) != 8)=true:=by simp;omega
  refine zDe (kX3 @g1 @g2 @hl) rfl ?_;intros;apply wr;refine zAB ?_;simp [hD,zIr,zJ9,hl]
theorem zKX:∀ (k n i x:Nat) (r:Str),i+k=10->n<2 ^ (64-7*i)->(0<i->0<n)->zHL i x (putu k n++r)=some (x+n*2 ^ (7*i),i+(putu k n).length)
 | 0,n,i,x,r,hi,hn,hp=>by
  obtain rfl:i=10:=by omega
  have:=hp (by decide)
  simp at hn;omega
 | k+1,n,i,x,r,hi,hn,hp=>by
  have h9:i=9->n<2:=by rintro rfl;simpa using hn
  by_cases hs:n<128
  ·rw [zIC hs,zWM,zWa,zCX,zEy (by omega),if_neg (by omega),if_neg (by omega),if_neg (by omega),if_neg]
   ·rfl
   rintro ⟨h1,h2⟩
   have h3:(UInt8.ofNat n).toNat=0:=by rw [h1];rfl
   rw [zEy (by omega)] at h3
   have:=hp h2;omega
  have hst:putu (k+1) n=UInt8.ofNat (n % 128+128)::putu k (n / 128):=by rw [putu,if_neg hs]
  have hi8:i<=8:=by
   have:=h9;omega
  have hn2:n / 128<2 ^ (64-7*(i+1)):=by
   rw [Nat.div_lt_iff_lt_mul (by decide),show (128:Nat)=2 ^ 7 from rfl,<- Nat.pow_add,show 64-7*(i+1)+7=64-7*i by omega];exact hn
  rw [hst,zWM,zCX,zEy (by omega),if_neg (by omega),if_neg (by omega),if_pos (by omega),zKX k (n / 128) (i+1) _ r (by omega) hn2 (fun _=>by omega)]
  have e:(n % 128+128) % 128=n % 128:=by omega
  have hP:2 ^ (7*(i+1))=128*2 ^ (7*i):=by rw [show 7*(i+1)=7*i+7 by omega,Nat.pow_add,Nat.mul_comm]
  rw [e,hP];generalize 2 ^ (7*i)=P;have hd:n % 128*P+n / 128*(128*P)=n*P:=by
   rw [<- Nat.mul_assoc,<- zWY];congr 1;omega
  simp only [zWG,zV2,Prod.mk.injEq];omega
theorem zHK (n:Int) (h:L64 n) (r:Str):zKW (putD n++r)=some (n.toNat,(putD n).length):=by
 have h1:=h.1;have h2:=h.2;unfold zKW putD;rw [zKX 10 n.toNat 0 0 r rfl (by simp;omega) (fun z=>by omega)]
 simp
theorem zGD (n:Int) (h:L64 n) (r:Str):numD (putD n++r) false=(n.toNat,r,false):=by
 unfold numD;rw [if_neg (by decide),zHK n h r]
 simp
theorem zMY (b r:Str) (hb:b.length<=1000000):rdtD (putD b.length++(b++r)) false=(b,r,false):=by
 have hn:=zGD b.length ⟨by omega,by omega⟩ (b++r)
 unfold rdtD;rw [hn];simp
theorem zGF (n:Int) (h:L64 n) (b:Str) (hb:b.length<=500000):zGv (slD n b)=(n.toNat,b,0):=by
 have e:slD n b=putD n++(putD b.length++(b++sumG (hshD hsh0 (slB n b)))):=by simp [slD,slB]
 have hl:=zEv (hshD hsh0 (slB n b));have et:(slD n b).take ((slD n b).length-8)=slB n b:=by
  unfold slD;rw [zV7,hl,Nat.add_sub_cancel,List.take_left'];rfl
 unfold zGv zIr;rw [et];rw [e,zGD n h];simp only;rw [zMY b _ (by omega)]
 simp [hl]
def zLE (p:Str) (mark:UInt8):Nat × Str × Bool:=if (zGv p).2.2=0 then (match (zGv p).2.1 with
 | []=>(0,[],false)
 | c::t=>if c=mark then ((zGv p).1,t,true) else (0,[],false)) else (0,[],false)
def zFl (x:Nat × Str × Bool):V:=.tup [lv x.1,.str x.2.1,.bool x.2.2]
theorem zPc (s:Str):(zGv s).2.1.length<=s.length:=by
 have h:∀ (q:Nat) (b r:Str) (bad:Bool),(zIr s q b r bad).2.1.length<=b.length:=by
  intro q b r bad
  unfold zIr;split
  ·simp
  split<;>simp
 refine zWR (h _ _ _ _) ?_;have h1:=(zFN s false).1;unfold rdtD;have h2:=(zFN (numD s false).2.1 (numD s false).2.2).1;split
 ·simp
 simp only [zWE];omega
theorem zMI (p:Str) (mark:UInt8) (hs:p.length<=1000000):zAD prog 141 [.str p,.int .u8 (mark.toNat:Int)] (zFl (zLE p mark)):=by
 have ho:=zLF p hs;have hl:=zPc p;obtain ⟨q,body,e,hO⟩:∃ q b e,zGv p=(q,b,e):=⟨_,_,_,rfl⟩;have hD:zLE p mark=if e=0 then (match body with
  | []=>(0,[],false)
  | c::t=>if c=mark then (q,t,true) else (0,[],false)) else (0,[],false):=by unfold zLE;rw [hO]
 rw [hO] at ho hl;simp only [zJ9] at ho hl;by_cases he:e=0
 ·subst he;rw [if_pos rfl] at hD;cases body with
  | nil =>
   refine sX func141 ntmps141 ?_;intros;apply wr;refine cX (ho) ?_;intros;apply wr;refine gT00 rfl ?_;intros;apply wr;refine zAB ?_;simp [hD,zFl]
  | cons c t =>
   simp only at hD;simp only [zWG] at hl;by_cases hc:c=mark
   ·have z1:((c.toNat:Int) != (mark.toNat:Int))=false:=by rw [hc];simp
    refine sX func141 ntmps141 ?_;intros;apply wr;refine cX (ho) ?_;intros;apply wr;refine gF10 (kX2 @z1 @hc) rfl ?_;intros;apply wr;refine zAE 6 [0,0,2,1,15,31] [(4,([[],[],[1],[0]],[])),(1,([],[])),(1,([],[]))] ?_;refine af ?_;intros;apply wr
    all_goals ((refine af ?_);intros;(apply wr))
    refine zAB ?_;simp [hD,zFl,hc]
   have z0:¬ c.toNat=mark.toNat:=fun z=>hc (UInt8.toNat_inj.1 z)
   have z2:¬ (c.toNat:Int)=mark.toNat:=by omega
   have z1:((c.toNat:Int) != (mark.toNat:Int))=true:=by simpa using z2
   refine sX func141 ntmps141 ?_;intros;apply wr;refine cXf (ho) ?_;intros;apply wr;refine zDe (kX4 @z1 @z0 @z2 @hc) rfl ?_;intros;apply wr;refine zAB ?_;simp [hD,zFl,hc]
 have z1:(e != 0)=true:=by simpa using he
 rw [if_neg he] at hD;refine sX func141 ntmps141 ?_;intros;apply wr;refine cXf (ho) ?_;intros;apply wr;refine zDe (kX2 @z1 @he) rfl ?_;intros;apply wr;refine zAB ?_;simp [hD,zFl]
theorem zR1 (n:Int) (h:L64 n) (c:UInt8) (b:Str) (hb:b.length<=400000):zLE (slD n (c::b)) c=(n.toNat,b,true):=by
 unfold zLE;rw [zGF n h (c::b) (by simp;omega)]
 simp
def zCv (g:SegD):Str × Int:=if (zAY g).2=0 then (putD g.from_++(putD g.known++zEP (zAY g).1),0) else ([],(zAY g).2)
theorem zC8 (g:SegD):(zAY g).1.length<=65536:=by
 unfold zAY;split
 ·simp
 unfold logD;split
 ·rename_i h;unfold zCl at h;split at h
  ·cases h
  split at h
  ·cases h
  split at h
  ·cases h
  split at h
  ·cases h
  show (putD _++zBj _ _).length<=65536
  omega
 simp
theorem zUI (g:SegD) (h:OkG g):zAD prog 82 [.st g.row] (.tup [.str (zCv g).1,iv (zCv g).2]):=by
 have hpl:(zEP (zAY g).1).length<=1000000:=by have:=zDn (zAY g).1;have:=zC8 g;omega
 have hl:=zGY g h;have hc:=zT7 (zAY g).1 (by have:=zC8 g;omega)
 have p1:=zDo g.from_ h.f;have p2:=zDo g.known h.k;have l1:=zAS g.from_;have l2:=zAS g.known;have hD:zCv g=if (zAY g).2=0 then (putD g.from_++(putD g.known++zEP (zAY g).1),0) else ([],(zAY g).2):=rfl
 generalize (zAY g).1=x at *
 generalize (zAY g).2=e at *
 by_cases he:e=0
 ·subst he;rw [if_pos rfl] at hD;refine sX func82 ntmps82 ?_;intros;apply wr;refine cX (hl) ?_;intros;apply wr;refine gF00 rfl ?_;intros;apply wr;refine zAE 12 [0,1,3,0,8,31,63,0,191,511,1023,2047] [(9,([[],[0],[0,1],[],[3],[0,1,2,3,4],[0,1,2,3,4,5],[],[0,1,2,3,4,5,7]],[(4,2)])),(1,([],[])),(1,([],[])),(1,([],[]))] ?_;refine af ?_;intros;apply wr;refine cXf (p1) ?_;intros;apply wr;refine cXf (p2) ?_;intros;apply wr;refine cXf (hc) ?_;intros;apply wr;refine zAB ?_;simp [hD]
 have z1:(e != 0)=true:=by simpa using he
 rw [if_neg he] at hD;refine sX func82 ntmps82 ?_;intros;apply wr;refine cXf (hl) ?_;intros;apply wr;refine zDe (kX2 @z1 @he) rfl ?_;intros;apply wr;refine zAB ?_;simp [hD]
theorem zQY (s:Str) (most:Int) (hs:s.length<=100000) (h1:(s.length:Int)<=most) (h2:most<=1000000):zAD prog 192 [.str (zEP s),iv most] (.tup [.str s,iv 0]):=by
 obtain ⟨g,hg⟩:=zQX s;exact unp_ok _ _ _ g hg (by have:=zDn s;omega) h1 h2
theorem zSZ (n:Int) (h0:0<=n) (h1:n<=4294967295) (r:Str):rwdD (putD n++r) false=(n.toNat,r,false):=by
 unfold rwdD;rw [zGD n ⟨h0,by omega⟩ r]
 simp only;rw [if_neg (by omega)]
def zCC (n x:Int):Str:=slD n (72::putD x)
theorem zOA (n x:Int) (hn:L64 n) (hx:L64 x):zAD prog 36 [lv n,lv x] (.str (zCC n x)):=by
 have l1:=zAS x;have hp:=zDo x hx;have hs:=zQI n (72::putD x) hn (by simp;omega)
 refine sX func36 ntmps36 ?_;intros;apply wr;refine cX (hp) ?_;intros;apply wr;refine cX (hs) ?_;intros;apply wr;refine zAB ?_;simp [zCC]
theorem zMQ (n x:Int) (hn:L64 n) (hx:L64 x):zAD prog 87 [.str (zCC n x)] (.tup [lv n,lv x,.bool true]):=by
 have l1:=zAS x;have hlen:(zCC n x).length<=1000000:=by
  have:=zAS n;have:=zAS ((72::putD x).length:Int);have:=zEv (hshD hsh0 (slB n (72::putD x)));unfold zCC slD;rw [zV7,this];simp only [slB,zV7,zWG] at *
  omega
 have ho:=zLF (zCC n x) hlen;have hb:zGv (zCC n x)=(n.toNat,72::putD x,0):=zGF n hn (72::putD x) (by simp;omega)
 rw [hb] at ho;simp only [zJ9] at ho;have e1:((n.toNat:Nat):Int)=n:=by have:=hn.1;omega
 have e2:((x.toNat:Nat):Int)=x:=by have:=hx.1;omega
 rw [e1] at ho;have hu:=zLX (putD x) (by omega)
 have hv:=zHK x hx [];rw [zWT] at hv;rw [hv] at hu;simp only [zJB,e2] at hu;have w1:IntKind.i64.wrap ((putD x).length:Int)=(putD x).length:=zAA (by omega) (by omega)
 generalize zCC n x=p at *
 generalize putD x=t at *
 refine sX func87 ntmps87 ?_;intros;apply wr;refine cX (ho) ?_;intros;apply wr;refine gF00 rfl ?_;intros;apply wr;refine cY (hu) @w1 ?_;intros;apply wr;refine gF10 @w1 rfl ?_;intros;apply wr;refine zAB ?_;simp
def RdP (nx:Nat) (ob:List (Nat × Option Ob)) (id:Nat) (r:Str) (nx':Nat) (ob':List (Nat × Option Ob)):Prop:=lookO ob' id=some (rdrO r false)/\nx<=nx'/\∀ q,q<nx->q≠id->lookO ob' q=lookO ob q
theorem zFM {nx:Nat} {ob:List (Nat × Option Ob)} (id:Nat) (n:Int) (r:Str) (h:L64 n) (hs:(putD n++r).length<=1000000) (hob:lookO ob id=some (rdrO (putD n++r) false)) (hn:id<nx) :
  InlC prog 190 [.ptr id 2 0 0] nx ob fun v nx' ob'=>v=lv n/\RdP nx ob id r nx' ob' :=
 (zMG id _ false hs hob hn).mono fun v nx' ob' ⟨h1,h2⟩=>by
  rw [zGD n h r] at h1 h2;have:=h.1;exact ⟨by rw [h1];simp only;congr;omega,h2⟩
theorem zAm {nx:Nat} {ob:List (Nat × Option Ob)} (id:Nat) (n:Int) (r:Str) (h0:0<=n) (h1:n<=4294967295) (hs:(putD n++r).length<=1000000) (hob:lookO ob id=some (rdrO (putD n++r) false)) (hn:id<nx) :
  InlC prog 314 [.ptr id 2 0 0] nx ob fun v nx' ob'=>v=uv n/\RdP nx ob id r nx' ob' :=
 (zSa id _ false hs hob hn).mono fun v nx' ob' ⟨h2,h3⟩=>by
  rw [zSZ n h0 h1 r] at h2 h3;exact ⟨by rw [h2];simp only;congr;omega,h3⟩
theorem zFG {nx:Nat} {ob:List (Nat × Option Ob)} (id:Nat) (b r:Str) (hs:(putD b.length++(b++r)).length<=1000000) (hob:lookO ob id=some (rdrO (putD b.length++(b++r)) false)) (hn:id<nx) :
  InlC prog 191 [.ptr id 2 0 0] nx ob fun v nx' ob'=>v=.str b/\RdP nx ob id r nx' ob' :=
 (zMX id _ false hs hob hn).mono fun v nx' ob' ⟨h2,h3⟩=>by
  rw [zMY b r (by simp at hs;omega)] at h2 h3
  exact ⟨h2,h3⟩
theorem zTB:zAD prog 315 [] (uv 0):=by
 refine sZ func315 ntmps315 ?_;exact wx trivial trivial
theorem zLu:zAD prog 316 [] (.str []):=by
 refine sZ func316 ntmps316 ?_;exact wx trivial trivial
theorem zOe {nx:Nat} {ob:List (Nat × Option Ob)} (id:Nat) (n:Int) (hn:W32 n) (r:Str) (hs:(putD 1++(putD n++r)).length<=900000) (hob:lookO ob id=some (rdrO (putD 1++(putD n++r)) false)) (hid:id<nx) :
  InlC prog 257 [.ptr id 2 0 0] nx ob fun v nx' ob'=>v=.st [iv 1,uv n,.str []]/\RdP nx ob id r nx' ob':=by
 have q1:¬ id=nx:=by omega
 have q2:¬ nx=id:=by omega
 have wk:IntKind.i64.wrap 1=1:=zAA (by decide) (by decide)
 have n0:=hn.1;have n1:=hn.2;refine InlC.of func257 rfl (by kernel_rfl) rfl ?_
 simp only [ntmps257,St.startI,argT];refine au1 @hob ?_;intros;apply wr
 first|refine .inr ((zAm id 1 (putD n++r) (by decide) (by decide) (by simp at hs ⊢;omega) (by simp [lookO,q1,hob]) (by omega)).mono fun r nx' ob' hp=>?_)|refine (zAm id 1 (putD n++r) (by decide) (by decide) (by simp at hs ⊢;omega) (by simp [lookO,q1,hob]) (by omega)).mono fun r nx' ob' hp=>?_|refine ((zAm id 1 (putD n++r) (by decide) (by decide) (by simp at hs ⊢;omega) (by simp [lookO,q1,hob]) (by omega)).mono fun r nx' ob' hp=>?_).2
 simp only [aftI];obtain ⟨rfl,h1,h2,h3⟩:=hp
 rename Nat=>x1
 rename List (Nat × Option Ob)=>o1
 have g1:=h3 nx (by omega) q2
 simp only [lookO,if_true] at g1;have q3:¬ id=x1:=by omega
 have q4:¬ x1=id:=by omega
 have q5:¬ nx=x1:=by omega
 have q6:¬ x1=nx:=by omega
 simp;refine au1 (kX9 @h1 @g1 @q1 @q2 @q3 @q4 @q5 @q6 @wk) ?_;intros;apply wr;refine gT01 rfl (kX9 @h1 @g1 @q1 @q2 @q3 @q4 @q5 @q6 @wk) ?_;intros;apply wr;refine gT01 rfl (kX9 @h1 @g1 @q1 @q2 @q3 @q4 @q5 @q6 @wk) ?_;intros;apply wr
 first|refine .inr ((zAm id n (r) n0 (by omega) (by simp at hs ⊢;omega) (by simp [lookO,q3,h1]) (by omega)).mono fun r nx' ob' hp=>?_)|refine (zAm id n (r) n0 (by omega) (by simp at hs ⊢;omega) (by simp [lookO,q3,h1]) (by omega)).mono fun r nx' ob' hp=>?_|refine ((zAm id n (r) n0 (by omega) (by simp at hs ⊢;omega) (by simp [lookO,q3,h1]) (by omega)).mono fun r nx' ob' hp=>?_).2
 simp only [aftI];obtain ⟨rfl,i1,i2,i3⟩:=hp
 rename Nat=>x2
 rename List (Nat × Option Ob)=>o2
 have j1:=i3 nx (by omega) q2
 have j2:=i3 x1 (by omega) q4
 simp [lookO,q5,q6,g1] at j1 j2;have r1:¬ id=x2:=by omega
 simp [i1,j1,j2,q1,q2,q3,q4,q5,q6,wk];refine au1 (kX11 @i1 @j1 @j2 @q1 @q2 @q3 @q4 @q5 @q6 @wk @r1) ?_;intros;apply wr;refine cY (zLu) (kX10 @i1 @j1 @j2 @q1 @q2 @q3 @q4 @q5 @q6 @wk) ?_;intros;apply wr;refine zAB ?_;simp [lookO];refine ⟨by simp [lookO,q1,q3,i1],by omega,fun q z1 z2=>?_⟩
 have y1:¬ q=nx:=by omega
 have y2:¬ q=x1:=by omega
 have y3:=h3 q (by omega) z2
 have y4:=i3 q (by omega) z2
 simp [lookO,y1,y2] at y3 y4 ⊢;rw [y4,y3]
theorem zOg {nx:Nat} {ob:List (Nat × Option Ob)} (id:Nat) (n:Int) (hn:W32 n) (r:Str) (hs:(putD 3++(putD n++r)).length<=900000) (hob:lookO ob id=some (rdrO (putD 3++(putD n++r)) false)) (hid:id<nx) :
  InlC prog 257 [.ptr id 2 0 0] nx ob fun v nx' ob'=>v=.st [iv 3,uv n,.str []]/\RdP nx ob id r nx' ob':=by
 have q1:¬ id=nx:=by omega
 have q2:¬ nx=id:=by omega
 have wk:IntKind.i64.wrap 3=3:=zAA (by decide) (by decide)
 have n0:=hn.1;have n1:=hn.2;refine InlC.of func257 rfl (by kernel_rfl) rfl ?_
 simp only [ntmps257,St.startI,argT];refine au1 @hob ?_;intros;apply wr
 first|refine .inr ((zAm id 3 (putD n++r) (by decide) (by decide) (by simp at hs ⊢;omega) (by simp [lookO,q1,hob]) (by omega)).mono fun r nx' ob' hp=>?_)|refine (zAm id 3 (putD n++r) (by decide) (by decide) (by simp at hs ⊢;omega) (by simp [lookO,q1,hob]) (by omega)).mono fun r nx' ob' hp=>?_|refine ((zAm id 3 (putD n++r) (by decide) (by decide) (by simp at hs ⊢;omega) (by simp [lookO,q1,hob]) (by omega)).mono fun r nx' ob' hp=>?_).2
 simp only [aftI];obtain ⟨rfl,h1,h2,h3⟩:=hp
 rename Nat=>x1
 rename List (Nat × Option Ob)=>o1
 have g1:=h3 nx (by omega) q2
 simp only [lookO,if_true] at g1;have q3:¬ id=x1:=by omega
 have q4:¬ x1=id:=by omega
 have q5:¬ nx=x1:=by omega
 have q6:¬ x1=nx:=by omega
 simp;refine au1 (kX9 @h1 @g1 @q1 @q2 @q3 @q4 @q5 @q6 @wk) ?_;intros;apply wr;refine gF01 rfl (kX9 @h1 @g1 @q1 @q2 @q3 @q4 @q5 @q6 @wk) ?_;intros;apply wr;refine gT01 rfl (kX9 @h1 @g1 @q1 @q2 @q3 @q4 @q5 @q6 @wk) ?_;intros;apply wr;refine gT01 rfl (kX9 @h1 @g1 @q1 @q2 @q3 @q4 @q5 @q6 @wk) ?_;intros;apply wr
 first|refine .inr ((zAm id n (r) n0 (by omega) (by simp at hs ⊢;omega) (by simp [lookO,q3,h1]) (by omega)).mono fun r nx' ob' hp=>?_)|refine (zAm id n (r) n0 (by omega) (by simp at hs ⊢;omega) (by simp [lookO,q3,h1]) (by omega)).mono fun r nx' ob' hp=>?_|refine ((zAm id n (r) n0 (by omega) (by simp at hs ⊢;omega) (by simp [lookO,q3,h1]) (by omega)).mono fun r nx' ob' hp=>?_).2
 simp only [aftI];obtain ⟨rfl,i1,i2,i3⟩:=hp
 rename Nat=>x2
 rename List (Nat × Option Ob)=>o2
 have j1:=i3 nx (by omega) q2
 have j2:=i3 x1 (by omega) q4
 simp [lookO,q5,q6,g1] at j1 j2;have r1:¬ id=x2:=by omega
 simp [i1,j1,j2,q1,q2,q3,q4,q5,q6,wk];refine au1 (kX11 @i1 @j1 @j2 @q1 @q2 @q3 @q4 @q5 @q6 @wk @r1) ?_;intros;apply wr;refine cY (zLu) (kX10 @i1 @j1 @j2 @q1 @q2 @q3 @q4 @q5 @q6 @wk) ?_;intros;apply wr;refine zAB ?_;simp [lookO];refine ⟨by simp [lookO,q1,q3,i1],by omega,fun q z1 z2=>?_⟩
 have y1:¬ q=nx:=by omega
 have y2:¬ q=x1:=by omega
 have y3:=h3 q (by omega) z2
 have y4:=i3 q (by omega) z2
 simp [lookO,y1,y2] at y3 y4 ⊢;rw [y4,y3]
theorem zOj {nx:Nat} {ob:List (Nat × Option Ob)} (id:Nat) (n:Int) (hn:W32 n) (r:Str) (hs:(putD 6++(putD n++r)).length<=900000) (hob:lookO ob id=some (rdrO (putD 6++(putD n++r)) false)) (hid:id<nx) :
  InlC prog 257 [.ptr id 2 0 0] nx ob fun v nx' ob'=>v=.st [iv 6,uv n,.str []]/\RdP nx ob id r nx' ob':=by
 have q1:¬ id=nx:=by omega
 have q2:¬ nx=id:=by omega
 have wk:IntKind.i64.wrap 6=6:=zAA (by decide) (by decide)
 have n0:=hn.1;have n1:=hn.2;refine InlC.of func257 rfl (by kernel_rfl) rfl ?_
 simp only [ntmps257,St.startI,argT];refine au1 @hob ?_;intros;apply wr
 first|refine .inr ((zAm id 6 (putD n++r) (by decide) (by decide) (by simp at hs ⊢;omega) (by simp [lookO,q1,hob]) (by omega)).mono fun r nx' ob' hp=>?_)|refine (zAm id 6 (putD n++r) (by decide) (by decide) (by simp at hs ⊢;omega) (by simp [lookO,q1,hob]) (by omega)).mono fun r nx' ob' hp=>?_|refine ((zAm id 6 (putD n++r) (by decide) (by decide) (by simp at hs ⊢;omega) (by simp [lookO,q1,hob]) (by omega)).mono fun r nx' ob' hp=>?_).2
 simp only [aftI];obtain ⟨rfl,h1,h2,h3⟩:=hp
 rename Nat=>x1
 rename List (Nat × Option Ob)=>o1
 have g1:=h3 nx (by omega) q2
 simp only [lookO,if_true] at g1;have q3:¬ id=x1:=by omega
 have q4:¬ x1=id:=by omega
 have q5:¬ nx=x1:=by omega
 have q6:¬ x1=nx:=by omega
 simp;refine au1 (kX9 @h1 @g1 @q1 @q2 @q3 @q4 @q5 @q6 @wk) ?_;intros;apply wr;refine gF01 rfl (kX9 @h1 @g1 @q1 @q2 @q3 @q4 @q5 @q6 @wk) ?_;intros;apply wr;refine gF01 rfl (kX9 @h1 @g1 @q1 @q2 @q3 @q4 @q5 @q6 @wk) ?_;intros;apply wr;refine gT01 rfl (kX9 @h1 @g1 @q1 @q2 @q3 @q4 @q5 @q6 @wk) ?_;intros;apply wr
 first|refine .inr ((zAm id n (r) n0 (by omega) (by simp at hs ⊢;omega) (by simp [lookO,q3,h1]) (by omega)).mono fun r nx' ob' hp=>?_)|refine (zAm id n (r) n0 (by omega) (by simp at hs ⊢;omega) (by simp [lookO,q3,h1]) (by omega)).mono fun r nx' ob' hp=>?_|refine ((zAm id n (r) n0 (by omega) (by simp at hs ⊢;omega) (by simp [lookO,q3,h1]) (by omega)).mono fun r nx' ob' hp=>?_).2
 simp only [aftI];obtain ⟨rfl,i1,i2,i3⟩:=hp
 rename Nat=>x2
 rename List (Nat × Option Ob)=>o2
 have j1:=i3 nx (by omega) q2
 have j2:=i3 x1 (by omega) q4
 simp [lookO,q5,q6,g1] at j1 j2;have r1:¬ id=x2:=by omega
 simp [i1,j1,j2,q1,q2,q3,q4,q5,q6,wk];refine au1 (kX11 @i1 @j1 @j2 @q1 @q2 @q3 @q4 @q5 @q6 @wk @r1) ?_;intros;apply wr;refine cY (zLu) (kX10 @i1 @j1 @j2 @q1 @q2 @q3 @q4 @q5 @q6 @wk) ?_;intros;apply wr;refine zAB ?_;simp [lookO];refine ⟨by simp [lookO,q1,q3,i1],by omega,fun q z1 z2=>?_⟩
 have y1:¬ q=nx:=by omega
 have y2:¬ q=x1:=by omega
 have y3:=h3 q (by omega) z2
 have y4:=i3 q (by omega) z2
 simp [lookO,y1,y2] at y3 y4 ⊢;rw [y4,y3]
theorem zOh {nx:Nat} {ob:List (Nat × Option Ob)} (id:Nat) (n:Int) (hn:W32 n) (d:Str) (r:Str) (hs:(putD 4++(putD n++(putD d.length++(d++r)))).length<=900000) (hob:lookO ob id=some (rdrO (putD 4++(putD n++(putD d.length++(d++r)))) false)) (hid:id<nx) :
  InlC prog 257 [.ptr id 2 0 0] nx ob fun v nx' ob'=>v=.st [iv 4,uv n,.str d]/\RdP nx ob id r nx' ob':=by
 have q1:¬ id=nx:=by omega
 have q2:¬ nx=id:=by omega
 have wk:IntKind.i64.wrap 4=4:=zAA (by decide) (by decide)
 have n0:=hn.1;have n1:=hn.2;refine InlC.of func257 rfl (by kernel_rfl) rfl ?_
 simp only [ntmps257,St.startI,argT];refine au1 @hob ?_;intros;apply wr
 first|refine .inr ((zAm id 4 (putD n++(putD d.length++(d++r))) (by decide) (by decide) (by simp at hs ⊢;omega) (by simp [lookO,q1,hob]) (by omega)).mono fun r nx' ob' hp=>?_)|refine (zAm id 4 (putD n++(putD d.length++(d++r))) (by decide) (by decide) (by simp at hs ⊢;omega) (by simp [lookO,q1,hob]) (by omega)).mono fun r nx' ob' hp=>?_|refine ((zAm id 4 (putD n++(putD d.length++(d++r))) (by decide) (by decide) (by simp at hs ⊢;omega) (by simp [lookO,q1,hob]) (by omega)).mono fun r nx' ob' hp=>?_).2
 simp only [aftI];obtain ⟨rfl,h1,h2,h3⟩:=hp
 rename Nat=>x1
 rename List (Nat × Option Ob)=>o1
 have g1:=h3 nx (by omega) q2
 simp only [lookO,if_true] at g1;have q3:¬ id=x1:=by omega
 have q4:¬ x1=id:=by omega
 have q5:¬ nx=x1:=by omega
 have q6:¬ x1=nx:=by omega
 simp;refine au1 (kX9 @h1 @g1 @q1 @q2 @q3 @q4 @q5 @q6 @wk) ?_;intros;apply wr;refine gF01 rfl (kX9 @h1 @g1 @q1 @q2 @q3 @q4 @q5 @q6 @wk) ?_;intros;apply wr;refine gF01 rfl (kX9 @h1 @g1 @q1 @q2 @q3 @q4 @q5 @q6 @wk) ?_;intros;apply wr;refine gF01 rfl (kX9 @h1 @g1 @q1 @q2 @q3 @q4 @q5 @q6 @wk) ?_;intros;apply wr;refine gT01 rfl (kX9 @h1 @g1 @q1 @q2 @q3 @q4 @q5 @q6 @wk) ?_;intros;apply wr
 first|refine .inr ((zAm id n (putD d.length++(d++r)) n0 (by omega) (by simp at hs ⊢;omega) (by simp [lookO,q3,h1]) (by omega)).mono fun r nx' ob' hp=>?_)|refine (zAm id n (putD d.length++(d++r)) n0 (by omega) (by simp at hs ⊢;omega) (by simp [lookO,q3,h1]) (by omega)).mono fun r nx' ob' hp=>?_|refine ((zAm id n (putD d.length++(d++r)) n0 (by omega) (by simp at hs ⊢;omega) (by simp [lookO,q3,h1]) (by omega)).mono fun r nx' ob' hp=>?_).2
 simp only [aftI];obtain ⟨rfl,i1,i2,i3⟩:=hp
 rename Nat=>x2
 rename List (Nat × Option Ob)=>o2
 have j1:=i3 nx (by omega) q2
 have j2:=i3 x1 (by omega) q4
 simp [lookO,q5,q6,g1] at j1 j2;have r1:¬ id=x2:=by omega
 simp [i1,j1,j2,q1,q2,q3,q4,q5,q6,wk];refine au1 (kX11 @i1 @j1 @j2 @q1 @q2 @q3 @q4 @q5 @q6 @wk @r1) ?_;intros;apply wr
 first|refine .inr ((zFG id d r (by simp at hs ⊢;omega) (by simp [lookO,q1,q3,i1]) (by omega)).mono fun r nx' ob' hp=>?_)|refine (zFG id d r (by simp at hs ⊢;omega) (by simp [lookO,q1,q3,i1]) (by omega)).mono fun r nx' ob' hp=>?_|refine ((zFG id d r (by simp at hs ⊢;omega) (by simp [lookO,q1,q3,i1]) (by omega)).mono fun r nx' ob' hp=>?_).2
 simp only [aftI];obtain ⟨rfl,k1,k2,k3⟩:=hp
 rename Nat=>x3
 rename List (Nat × Option Ob)=>o3
 have l1:=k3 nx (by omega) q2
 have l2:=k3 x1 (by omega) q4
 simp [lookO,q5,q6,j1,j2] at l1 l2;simp [k1,l1,l2,q1,q2,q3,q4,q5,q6,wk];refine au1 (kX10 @k1 @l1 @l2 @q1 @q2 @q3 @q4 @q5 @q6 @wk) ?_;intros;apply wr;refine zAB ?_;simp [lookO];refine ⟨by simp [lookO,q1,q3,k1],by omega,fun q z1 z2=>?_⟩
 have y1:¬ q=nx:=by omega
 have y2:¬ q=x1:=by omega
 have y3:=h3 q (by omega) z2
 have y4:=i3 q (by omega) z2
 have y5:=k3 q (by omega) z2
 simp [lookO,y1,y2] at y3 y4 y5 ⊢;rw [y5,y4,y3]
theorem zOi {nx:Nat} {ob:List (Nat × Option Ob)} (id:Nat) (d:Str) (r:Str) (hs:(putD 5++((putD d.length++(d++r)))).length<=900000) (hob:lookO ob id=some (rdrO (putD 5++((putD d.length++(d++r)))) false)) (hid:id<nx) :
  InlC prog 257 [.ptr id 2 0 0] nx ob fun v nx' ob'=>v=.st [iv 5,uv 0,.str d]/\RdP nx ob id r nx' ob':=by
 have q1:¬ id=nx:=by omega
 have q2:¬ nx=id:=by omega
 have wk:IntKind.i64.wrap 5=5:=zAA (by decide) (by decide)
 refine InlC.of func257 rfl (by kernel_rfl) rfl ?_
 simp only [ntmps257,St.startI,argT];refine au1 @hob ?_;intros;apply wr
 first|refine .inr ((zAm id 5 ((putD d.length++(d++r))) (by decide) (by decide) (by simp at hs ⊢;omega) (by simp [lookO,q1,hob]) (by omega)).mono fun r nx' ob' hp=>?_)|refine (zAm id 5 ((putD d.length++(d++r))) (by decide) (by decide) (by simp at hs ⊢;omega) (by simp [lookO,q1,hob]) (by omega)).mono fun r nx' ob' hp=>?_|refine ((zAm id 5 ((putD d.length++(d++r))) (by decide) (by decide) (by simp at hs ⊢;omega) (by simp [lookO,q1,hob]) (by omega)).mono fun r nx' ob' hp=>?_).2
 simp only [aftI];obtain ⟨rfl,h1,h2,h3⟩:=hp
 rename Nat=>x1
 rename List (Nat × Option Ob)=>o1
 have g1:=h3 nx (by omega) q2
 simp only [lookO,if_true] at g1;have q3:¬ id=x1:=by omega
 have q4:¬ x1=id:=by omega
 have q5:¬ nx=x1:=by omega
 have q6:¬ x1=nx:=by omega
 simp;refine au1 (kX9 @h1 @g1 @q1 @q2 @q3 @q4 @q5 @q6 @wk) ?_;intros;apply wr;refine gF01 rfl (kX9 @h1 @g1 @q1 @q2 @q3 @q4 @q5 @q6 @wk) ?_;intros;apply wr;refine gF01 rfl (kX9 @h1 @g1 @q1 @q2 @q3 @q4 @q5 @q6 @wk) ?_;intros;apply wr;refine gF01 rfl (kX9 @h1 @g1 @q1 @q2 @q3 @q4 @q5 @q6 @wk) ?_;intros;apply wr;refine gF01 rfl (kX9 @h1 @g1 @q1 @q2 @q3 @q4 @q5 @q6 @wk) ?_;intros;apply wr;refine gT01 rfl (kX9 @h1 @g1 @q1 @q2 @q3 @q4 @q5 @q6 @wk) ?_;intros;apply wr;refine cY (zTB) (kX9 @h1 @g1 @q1 @q2 @q3 @q4 @q5 @q6 @wk) ?_;intros;apply wr
 first|refine .inr ((zFG id d r (by simp at hs ⊢;omega) (by simp [lookO,q1,q3,h1]) (by omega)).mono fun r nx' ob' hp=>?_)|refine (zFG id d r (by simp at hs ⊢;omega) (by simp [lookO,q1,q3,h1]) (by omega)).mono fun r nx' ob' hp=>?_|refine ((zFG id d r (by simp at hs ⊢;omega) (by simp [lookO,q1,q3,h1]) (by omega)).mono fun r nx' ob' hp=>?_).2
 simp only [aftI];obtain ⟨rfl,k1,k2,k3⟩:=hp
 rename Nat=>x3
 rename List (Nat × Option Ob)=>o3
 have l1:=k3 nx (by omega) q2
 have l2:=k3 x1 (by omega) q4
 simp [lookO,q5,q6,g1] at l1 l2;simp [k1,l1,l2,q1,q2,q3,q4,q5,q6,wk];refine au1 (kX10 @k1 @l1 @l2 @q1 @q2 @q3 @q4 @q5 @q6 @wk) ?_;intros;apply wr;refine zAB ?_;simp [lookO];refine ⟨by simp [lookO,q1,q3,k1],by omega,fun q z1 z2=>?_⟩
 have y1:¬ q=nx:=by omega
 have y2:¬ q=x1:=by omega
 have y3:=h3 q (by omega) z2
 have y4:=k3 q (by omega) z2
 simp [lookO,y1,y2] at y3 y4 ⊢;rw [y4,y3]
theorem zOf {nx:Nat} {ob:List (Nat × Option Ob)} (id:Nat) (r:Str) (hs:(putD 2++r).length<=900000) (hob:lookO ob id=some (rdrO (putD 2++r) false)) (hid:id<nx) :
  InlC prog 257 [.ptr id 2 0 0] nx ob fun v nx' ob'=>v=.st [iv 2,uv 0,.str []]/\RdP nx ob id r nx' ob':=by
 have q1:¬ id=nx:=by omega
 have q2:¬ nx=id:=by omega
 have wk:IntKind.i64.wrap 2=2:=zAA (by decide) (by decide)
 refine InlC.of func257 rfl (by kernel_rfl) rfl ?_
 simp only [ntmps257,St.startI,argT];refine au1 @hob ?_;intros;apply wr
 first|refine .inr ((zAm id 2 (r) (by decide) (by decide) (by simp at hs ⊢;omega) (by simp [lookO,q1,hob]) (by omega)).mono fun r nx' ob' hp=>?_)|refine (zAm id 2 (r) (by decide) (by decide) (by simp at hs ⊢;omega) (by simp [lookO,q1,hob]) (by omega)).mono fun r nx' ob' hp=>?_|refine ((zAm id 2 (r) (by decide) (by decide) (by simp at hs ⊢;omega) (by simp [lookO,q1,hob]) (by omega)).mono fun r nx' ob' hp=>?_).2
 simp only [aftI];obtain ⟨rfl,h1,h2,h3⟩:=hp
 rename Nat=>x1
 rename List (Nat × Option Ob)=>o1
 have g1:=h3 nx (by omega) q2
 simp only [lookO,if_true] at g1;have q3:¬ id=x1:=by omega
 have q4:¬ x1=id:=by omega
 have q5:¬ nx=x1:=by omega
 have q6:¬ x1=nx:=by omega
 simp;refine au1 (kX9 @h1 @g1 @q1 @q2 @q3 @q4 @q5 @q6 @wk) ?_;intros;apply wr;refine gF01 rfl (kX9 @h1 @g1 @q1 @q2 @q3 @q4 @q5 @q6 @wk) ?_;intros;apply wr;refine gF01 rfl (kX9 @h1 @g1 @q1 @q2 @q3 @q4 @q5 @q6 @wk) ?_;intros;apply wr;refine gF01 rfl (kX9 @h1 @g1 @q1 @q2 @q3 @q4 @q5 @q6 @wk) ?_;intros;apply wr;refine gF01 rfl (kX9 @h1 @g1 @q1 @q2 @q3 @q4 @q5 @q6 @wk) ?_;intros;apply wr;refine gF01 rfl (kX9 @h1 @g1 @q1 @q2 @q3 @q4 @q5 @q6 @wk) ?_;intros;apply wr;refine cY (zTB) (kX9 @h1 @g1 @q1 @q2 @q3 @q4 @q5 @q6 @wk) ?_;intros;apply wr;refine cY (zLu) (kX9 @h1 @g1 @q1 @q2 @q3 @q4 @q5 @q6 @wk) ?_;intros;apply wr;refine zAB ?_;simp [lookO];refine ⟨by simp [lookO,q1,q3,h1],by omega,fun q z1 z2=>?_⟩
 have y1:¬ q=nx:=by omega
 have y2:¬ q=x1:=by omega
 have y3:=h3 q (by omega) z2
 simp [lookO,y1,y2] at y3 ⊢;rw [y3]
theorem zIW {nx:Nat} {ob:List (Nat × Option Ob)} (id:Nat) (e:EvD) (r:Str) (hv:evVal e=true) (hn:W32 e.n) (hs:(zCd e++r).length<=900000) (hob:lookO ob id=some (rdrO (zCd e++r) false)) (hid:id<nx) :
  InlC prog 257 [.ptr id 2 0 0] nx ob fun v nx' ob'=>v=.st e.row/\RdP nx ob id r nx' ob':=by
 obtain ⟨k,n,d⟩:=e;unfold evVal at hv;unfold zCd at hs hob;simp only at hv hn hs hob ⊢;by_cases k1:k=1\/k=3\/k=6
 ·have hd:d=[]:=by rcases k1 with rfl|rfl|rfl<;>simp at hv<;>first|exact hv|exact hv.2
  subst hd;rw [if_pos k1,zWH] at hs hob;rcases k1 with rfl|rfl|rfl
  ·exact zOe id n hn r hs hob hid
  ·exact zOg id n hn r hs hob hid
  exact zOj id n hn r hs hob hid
 rw [if_neg k1] at hs hob;by_cases k4:k=4
 ·subst k4;rw [if_pos rfl,zWH,zWH,zWH] at hs hob;exact zOh id n hn d r hs hob hid
 rw [if_neg k4] at hs hob;by_cases k5:k=5
 ·subst k5;simp at hv;obtain ⟨⟨rfl,-⟩,-⟩:=hv;rw [if_pos rfl,zWH,zWH] at hs hob;exact zOi id d r hs hob hid
 rw [if_neg k5] at hs hob;have k2:k=2:=by
  by_cases z:k=2
  ·exact z
  exfalso
  simp [z,k4,k5,show ¬ k=1 by omega,show ¬ k=3 by omega,show ¬ k=6 by omega] at hv
 subst k2;have hz:n=0/\d=[]:=by simpa using hv
 obtain ⟨rfl,rfl⟩:=hz;exact zOf id r hs hob hid
theorem zNJ (f:Int) (e:EntD) (r:List EntD):zBj f (e::r)=putD (e.at_-f)++(zCd e.ev++zBj e.at_ r):=rfl
theorem zUB (l:List EntD) (f:Int) (hf:L64 f) (hE:∀ e∈l,OkT e) (hb:l.length<=100000) (h0:zCl l f=0):zAD prog 193 [.str (logD l f).1,lv f] (.tup [zBZ l,iv 0]):=by
 have he:=zOb l f hf hE hb;have hS:logD l f=(putD l.length++zBj f l,0):=by unfold logD;rw [if_pos h0]
 rw [hS] at he ⊢;simp only at he ⊢;have hp:l.length<=400/\(l.all fun e=>evVal e.ev)=true/\ordD l=true/\firstOk f l=true/\(putD l.length++zBj f l).length<=65536:=by
  unfold zCl at h0;split at h0
  ·cases h0
  split at h0
  ·cases h0
  split at h0
  ·cases h0
  split at h0
  ·cases h0
  rename_i a1 a2 a3 a4;simp only [not_or,Bool.not_eq_false] at a2 a3;exact ⟨by omega,a2,a3.1,a3.2,by omega⟩
 obtain ⟨p1,p2,p3,p4,p5⟩:=hp;have p6:(zBj f l).length<=65536:=by rw [zV7] at p5;omega
 have c1:¬ (400:Int)<l.length:=by omega
 obtain ⟨S,hSS⟩:∃ S,S=putD l.length++zBj f l:=⟨_,rfl⟩;refine sX func193 ntmps193 ?_;intros;apply wr
 first|refine .inr ((zFM 0 l.length (zBj f l) ⟨by omega,by omega⟩ (by omega) (by simp [lookO]) (by decide)).mono fun r nx' ob' hp=>?_)|refine (zFM 0 l.length (zBj f l) ⟨by omega,by omega⟩ (by omega) (by simp [lookO]) (by decide)).mono fun r nx' ob' hp=>?_|refine ((zFM 0 l.length (zBj f l) ⟨by omega,by omega⟩ (by omega) (by simp [lookO]) (by decide)).mono fun r nx' ob' hp=>?_).2
 simp only [aftI];obtain ⟨rfl,h1,h2,h3⟩:=hp
 rename Nat=>x1
 rename List (Nat × Option Ob)=>o1
 simp [h1];refine au1 (kX2 @h1 @c1) ?_;intros;apply wr;refine gF11 @c1 rfl @h1 ?_;intros;apply wr;refine zAT 8 84 4 (by decide) rfl ?_
 rw [<- hSS] at he ⊢;clear hS h3;refine zAX (l.length+1) ?_;refine zA5 (fun c stt=>∃ (T:List (Nat × V)) (i q x:Nat) (a:Int) (o:List (Nat × Option Ob)),stt=⟨55,T,x,o,0⟩/\(lkT T 22=.int .u64 i/\lkT T 21=lv l.length/\lkT T 9=lv a/\lkT T 8=.own q/\lkT T 6=.ptr 0 2 0 0/\lkT T 1=lv f/\lkT T 0=.str S)/\i+c=l.length/\lookO o 0=some (rdrO (zBj a (l.drop i)) false)/\lookO o q=some ⟨84,4,false,false,ents (l.take i)⟩/\q<x/\0<q/\L64 a/\(zBj a (l.drop i)).length<=65536/\firstOk a (l.drop i)=true/\ordD (l.drop i)=true) ?_ _ _ ⟨_,0,x1,_,f,_,rfl,by simp [lkT],by omega,by simp [lookO,show ¬ 0=x1 by omega,h1],by simp [lookO],Nat.lt_succ_self _,by omega,hf,p6,p4,p3⟩
 rintro c stt ⟨T,i,q,x,a,o,rfl,⟨t22,t21,t9,t8,t6,t1,t0⟩,hic,ho,hq,hqx,hq0,ha,hlen,hfi,hor⟩ Kl hKl
 refine zBV [(22,.int .u64 i),(21,lv l.length),(9,lv a),(8,.own q),(6,.ptr 0 2 0 0),(1,lv f),(0,.str S)] (by simp [t22,t21,t9,t8,t6,t1,t0]) ?_
 refine au ?_;intros;apply wr;by_cases hlt:i<l.length
 ·have k1:(i:Int)<l.length:=by omega
  obtain ⟨c,rfl⟩:∃ d,c=d+1:=⟨c-1,by omega⟩
  obtain ⟨e,hg,hd,ht,hmem⟩:=get_at hlt;have hv:=List.all_eq_true.1 p2 e hmem;have hT:=hE e hmem;rw [hd,zNJ] at hlen ho;rw [hd] at hfi hor;simp only [firstOk,decide_eq_true_eq] at hfi;obtain ⟨g1,g2⟩:=zMM hor;have ha2:=hT.a;have w1:IntKind.u64.wrap (a+(e.at_-a))=e.at_:=by rw [IntKind.wrap_u64];have:=ha2.1;have:=ha2.2;omega
  have w2:IntKind.u64.wrap ((i:Int)+1)=(i:Int)+1:=by rw [IntKind.wrap_u64];omega
  refine gT10 (kX2 @hlt @k1) rfl ?_;intros;apply wr
  first|refine .inr ((zFM 0 (e.at_-a) (zCd e.ev++zBj e.at_ (l.drop (i+1))) ⟨by omega,by have:=ha2.2;have:=ha.1;omega⟩ (by omega) ho (by omega)).mono fun r nx' ob' hp=>?_)|refine (zFM 0 (e.at_-a) (zCd e.ev++zBj e.at_ (l.drop (i+1))) ⟨by omega,by have:=ha2.2;have:=ha.1;omega⟩ (by omega) ho (by omega)).mono fun r nx' ob' hp=>?_|refine ((zFM 0 (e.at_-a) (zCd e.ev++zBj e.at_ (l.drop (i+1))) ⟨by omega,by have:=ha2.2;have:=ha.1;omega⟩ (by omega) ho (by omega)).mono fun r nx' ob' hp=>?_).2
  simp only [aftI];obtain ⟨rfl,m1,m2,m3⟩:=hp
  rename Nat=>x2
  rename List (Nat × Option Ob)=>o2
  have m4:=m3 q hqx (by omega)
  rw [hq] at m4;simp [m1,w1];refine au1 (kX2 @m1 @w1) ?_;intros;apply wr
  first|refine .inr ((zIW 0 e.ev (zBj e.at_ (l.drop (i+1))) hv hT.n (by simp at hlen ⊢;omega) m1 (by omega)).mono fun r nx' ob' hp=>?_)|refine (zIW 0 e.ev (zBj e.at_ (l.drop (i+1))) hv hT.n (by simp at hlen ⊢;omega) m1 (by omega)).mono fun r nx' ob' hp=>?_|refine ((zIW 0 e.ev (zBj e.at_ (l.drop (i+1))) hv hT.n (by simp at hlen ⊢;omega) m1 (by omega)).mono fun r nx' ob' hp=>?_).2
  simp only [aftI];obtain ⟨rfl,n1,n2,n3⟩:=hp
  rename Nat=>x3
  rename List (Nat × Option Ob)=>o3
  have n4:=n3 q (by omega) (by omega)
  rw [m4] at n4;have b1:¬ 0=x3:=by omega
  have b2:¬ q=x3:=by omega
  have b3:¬ 0=q:=by omega
  have b4:¬ x3=q:=by omega
  have b5:¬ q=x3+1:=by omega
  have b6:¬ x3+1=q:=by omega
  have hel:=zAt (l.take i);have htl:(l.take i).length=i:=by rw [zWE];omega
  simp [n1,n4,b1,b2,b3,b4];refine au1 (kX6 @n1 @n4 @b1 @b2 @b3 @b4) ?_;intros;apply wr;refine gF01 rfl (kX12 @n1 @n4 @b1 @b2 @b3 @b4 @b5 @b6 @w2 @hel @htl @maxLen.eq_1) ?_;intros;apply wr;have b7:¬ 0=x3+1+1:=by omega
  have b8:¬ 0=x3+1:=by omega
  refine hKl c _ rfl ⟨_,i+1,x3+1+1,x3+1+1+1,e.at_,_,rfl,by simp [lkT],by omega,by simp [lookO,b1,b3,b7,b8,n1],by simp [lookO,ht,zIS,zLt],by omega,by omega,ha2,by simp at hlen;omega,g1,g2⟩
 have k1:¬ (i:Int)<l.length:=by omega
 have htk:l.take i=l:=List.take_of_length_le (by omega)
 rw [htk] at hq;refine gF11 (kX2 @hlt @k1) rfl @hq ?_;intros;apply wr;refine cZ (he) @hq @hq ?_;intros;apply wr;refine gF00 rfl ?_;intros;apply wr;refine zAI ?_;refine zAB ?_;simp
theorem zMt (n:Int) (r:Str) (h:L64 n) (hs:(putD n++r).length<=1000000):zAD prog 142 [.str (putD n++r)] (.tup [lv n,iv (putD n).length,.bool true]):=by
 have hu:=zLX (putD n++r) hs;rw [zHK n h r] at hu;have e:((n.toNat:Nat):Int)=n:=by have:=h.1;omega
 simpa [zJB,e] using hu
theorem zQF {g:SegD} (h:zDL g=true):(zAY g).2=0/\g.from_<=g.known/\zCD g.ents g.known=false/\zCl g.ents g.from_=0/\(zAY g).1=(logD g.ents g.from_).1:=by
 have h0:(zAY g).2=0:=by unfold zDL at h;simpa using h
 refine ⟨h0,?_⟩;unfold zAY at h0 ⊢;split at h0
 ·cases h0
 rename_i q;rw [if_neg q];refine ⟨by omega,by simpa using fun z=>q (.inr z),?_,rfl⟩
 unfold logD at h0;split at h0
 ·assumption
 exact h0
theorem zUA (g:SegD) (h:OkG g) (ho:zDL g=true):zAD prog 147 [.str (zCv g).1] (.tup [.st g.row,iv 0]):=by
 obtain ⟨h0,h1,h2,h3,h4⟩:=zQF ho;have hE:(zCv g).1=putD g.from_++(putD g.known++zEP (zAY g).1):=by unfold zCv;rw [if_pos h0]
 have hsl:=zC8 g;have hpl:=zDn (zAY g).1;have l1:=zAS g.from_;have l2:=zAS g.known;have u1:=zMt g.from_ (putD g.known++zEP (zAY g).1) h.f (by simp;omega)
 have u2:=zMt g.known (zEP (zAY g).1) h.k (by simp;omega)
 have un:=zQY (zAY g).1 65536 (by omega) (by omega) (by decide)
 have dl:=zUB g.ents g.from_ h.f h.e (by have:=h.n;omega) h3
 rw [<- h4] at dl;have be:=zJP g.ents g.known;rw [h2] at be;have c1:¬ g.known<g.from_:=by omega
 rw [hE];generalize zEP (zAY g).1=C at *
 generalize (zAY g).1=L at *
 generalize putD g.from_=A at *
 generalize putD g.known=B at *
 have t1:List.drop A.length (List.take ((A.length:Int)+((B.length:Int)+(C.length:Int))).toNat (A++(B++C)))=B++C:=by
  rw [List.take_of_length_le (by simp;omega),List.drop_left]
 have t2:List.drop B.length (List.take ((B.length:Int)+(C.length:Int)).toNat (B++C))=C:=by
  rw [List.take_of_length_le (by simp;omega),List.drop_left]
 refine sX func147 ntmps147 ?_;intros;apply wr;refine cY (u1) @t1 ?_;intros;apply wr;refine gF01 rfl @t1 ?_;intros;apply wr;refine cZ (u2) @t1 @t2 ?_;intros;apply wr;refine gF11 @c1 rfl @t2 ?_;intros;apply wr;refine cc1 (un) @t2 ?_;refine au ?_;intros;apply wr;refine gF00 rfl ?_;intros;apply wr;refine cX (dl) ?_;intros;apply wr;refine gF00 rfl ?_;intros;apply wr;refine cX (be) ?_;intros;apply wr;refine gF00 rfl ?_;intros;apply wr;refine zAB ?_;simp
abbrev earO (xs:List (List V)):Ob:=⟨154,4,false,false,xs⟩
theorem zHv (a b:Int):zAD prog 146 [.st [lv a,lv b,.sl 4 false []]] (.st [lv a,lv b,.new 154 4 []]):=by
 have w:IntKind.i64.wrap 1=1:=zAA (by decide) (by decide)
 refine sZ func146 ntmps146 ?_;refine aum1 (kX2 @maxLen.eq_1 @w) ?_;(repeat intro K hK);apply wr
 (refine af1 (kX2 @maxLen.eq_1 @w) ?_;(repeat intro K hK);apply wr)
 repeat' ((first|(refine zAC rfl (fun h=>?_) (fun h=>?_)<;>(first|(simp [maxLen,w] at h;done)|(simp [maxLen,w] at h)|skip)<;>(first|(exfalso;omega)|skip))|refine zAX 1 ?_|refine zAk fun K hK=>?_|(refine zAE 10 [0,0,2,0,8,24,62,126,255,511] [(8,([[],[],[1],[],[3],[3,4],[1,2,3,4,5],[1,2,3,4,5,6]],[(2,5)])),(1,([],[])),(1,([],[]))] ?_)|exact rt1 (kX2 @maxLen.eq_1 @w)|fail)<;>(refine af1 (kX2 @maxLen.eq_1 @w) ?_;(repeat intro K hK);apply wr))
theorem zKH (n k:Int) (h1:1<=n) (h2:n<=4611686018427387904):zAD prog 84 [.st [lv n,lv k,.sl 4 false []]] (.bool true):=by
 have c1:¬ n<1:=by omega
 have c2:¬ 4611686018427387904<n:=by omega
 refine sY func84 ntmps84 (kX2 @c1 @c2) ?_;(repeat intro K hK);apply wr
 (refine au1 (kX2 @c1 @c2) ?_;(repeat intro K hK);apply wr)
 repeat' ((first|(refine zAC rfl (fun h=>?_) (fun h=>?_)<;>(first|(simp [c1,c2] at h;done)|(simp [c1,c2] at h)|skip)<;>(first|(exfalso;omega)|skip))|refine zAX 1 ?_|refine zAk fun K hK=>?_|exact rt1 (kX2 @c1 @c2)|fail)<;>(refine au1 (kX2 @c1 @c2) ?_;(repeat intro K hK);apply wr))
theorem zSO (n k:Int) (h1:1<=n) (h2:n<=4611686018427387904) (hk:L64 k):zAD prog 35 [.st [lv n,lv k,.sl 4 false []]] (.str (slD n (65::putD k))):=by
 have l1:=zAS k;have hs:=zQI n (65::putD k) ⟨by omega,by omega⟩ (by simp;omega)
 refine sZ func35 ntmps35 ?_
 (refine af ?_;intros;apply wr)
 repeat' ((first|(refine zAC rfl (fun h=>?_) (fun h=>?_)<;>(first|(simp at h;done)|(simp at h)|skip)<;>(first|(exfalso;omega)|skip))|refine cc (zKH n k h1 h2) ?_|refine cc (zDo k hk) ?_|refine cc (hs) ?_|(refine zAE 8 [0,1,0,4,12,28,63,127] [(6,([[],[0],[],[2],[2,3],[2,3,4]],[(1,4)])),(1,([],[])),(1,([],[]))] ?_)|exact rt|fail)<;>(refine af ?_;intros;apply wr))
theorem find_ok (k:Int) (f:V) (hf:okGs [f]):zAD prog 148 [.sl 4 false [],lv k,f] (.tup [iv 0,.bool false]):=by
 refine sX func148 ntmps148 ?_;(repeat intro K hK);apply wr
 (refine au ?_;(repeat intro K hK);apply wr)
 repeat' ((first|(refine zAC rfl (fun h=>?_) (fun h=>?_)<;>(first|(simp at h;done)|(simp at h)|skip)<;>(first|(exfalso;omega)|skip))|refine zAX 1 ?_|refine zAk fun K hK=>?_|exact rt|fail)<;>(refine au ?_;(repeat intro K hK);apply wr))
theorem zTJ {nx:Nat} {ob:List (Nat × Option Ob)} (i k:Nat) (y:List V) (hi:lookO ob i=some (earO [])) (hk:lookO ob k=some (earO [y])) (hne:k≠i) :
  InlC prog 151 [.own i,iv 0,.own k] nx ob fun r nx' ob'=>r=.own nx/\nx'=nx+1/\ob'=(nx,some (earO [y]))::(i,none)::ob:=by
 refine InlC.of func151 rfl (by kernel_rfl) rfl ?_
 simp only [ntmps151,St.startI,argT];refine au1 (kX2 @hi @hk) ?_;intros;apply wr
 (refine af1 (kX6 @hi @hk @hne @maxLen.eq_1 @prtV.eq_1 @prtP.eq_1) ?_;intros;apply wr)
 repeat' ((first|(refine zAC rfl (fun h=>?_) (fun h=>?_)<;>(first|(simp [hi,hk,hne,maxLen,prtV,prtP] at h;done)|(simp [hi,hk,hne,maxLen,prtV,prtP] at h)|skip)<;>(first|(exfalso;omega)|skip))|(refine zAE (rid:=11) 9 [0,0,0,6,15,0,0,96,255] [(8,([[],[],[],[1,2],[0,1,2,3],[],[],[5,6]],[])),(1,([],[]))] ?_)|(refine zAE (rid:=15) 9 [0,0,0,6,15,0,0,96,255] [(8,([[],[],[],[1,2],[0,1,2,3],[],[],[5,6]],[])),(1,([],[]))] ?_)|exact rt1 (kX6 @hi @hk @hne @maxLen.eq_1 @prtV.eq_1 @prtP.eq_1)|fail)<;>(refine af1 (kX6 @hi @hk @hne @maxLen.eq_1 @prtV.eq_1 @prtP.eq_1) ?_;intros;apply wr))
theorem zS6 {nx:Nat} {ob:List (Nat × Option Ob)} (i:Nat) (y:List V) (hi:lookO ob i=some (earO [y])) (hy:y.length=4) :
  InlC prog 152 [.own i,iv 0,iv 1] nx ob fun r nx' ob'=>r=.own nx/\nx'=nx+1/\ob'=(nx,some (earO []))::(i,none)::(i,some (earO [[lv 0,lv 0,lv 0,.sl 0 true []]]))::(i,some (earO [y]))::ob:=by
 refine InlC.of func152 rfl (by kernel_rfl) rfl ?_
 simp only [ntmps152,St.startI,argT];refine au1 @hi ?_;intros;apply wr
 (refine af1 (kX3 @hi @hy @maxLen.eq_1) ?_;intros;apply wr)
 repeat' ((first|(refine zAC rfl (fun h=>?_) (fun h=>?_)<;>(first|(simp [hi,hy,maxLen] at h;done)|(simp [hi,hy,maxLen] at h)|skip)<;>(first|(exfalso;omega)|skip))|(refine zAE 8 [0,0,3,0,0,24,63,127] [(6,([[],[],[0,1],[],[],[3,4]],[])),(1,([],[])),(1,([],[]))] ?_)|exact rt1 (kX3 @hi @hy @maxLen.eq_1)|fail)<;>(refine af1 (kX3 @hi @hy @maxLen.eq_1) ?_;intros;apply wr))
 refine zJM (sz:=4) (k:=0) 6 i (by simp [lkT]) (by simp [lookO];rfl) rfl rfl (Nat.zero_le _) ?_
 refine zAB ?_;simp
theorem zSk (n k:Int) (g:SegD) (h1:1<=n) (h2:n<=4611686018427387904) (h:OkG g) (ho:zDL g=true) (hf:g.from_=k):zAD prog 89 [.st [lv n,lv k,.sl 4 false []],.str (slD n (68::(zCv g).1))] (.tup [.st [lv (n+1),lv g.known,.sl 4 false []],.sl 3 false [g.row],.bool true]):=by
 have hd:=zUA g h ho;have hL:L64 n:=⟨by omega,by omega⟩
 have hel:(zCv g).1.length<=300000:=by
  have:=zC8 g;have:=zDn (zAY g).1;have:=zAS g.from_;have:=zAS g.known;unfold zCv;split<;>simp<;>omega
 have hsl:(slD n (68::(zCv g).1)).length<=1000000:=by
  have:=zAS n;have:=zAS ((68::(zCv g).1).length:Int);have:=zEv (hshD hsh0 (slB n (68::(zCv g).1)));unfold slD;rw [zV7,this];simp only [slB,zV7,zWG] at *
  omega
 have hb:=zMI (slD n (68::(zCv g).1)) 68 hsl;rw [zR1 n hL 68 _ (by omega)] at hb
 have en:((n.toNat:Nat):Int)=n:=by omega
 simp only [zFl,en] at hb;have hb:zAD prog 141 [.str (slD n (68::(zCv g).1)),.int .u8 68] (.tup [lv n,.str (zCv g).1,.bool true]):=hb;have w1:IntKind.u64.wrap (n+8)=n+8:=by rw [IntKind.wrap_u64];omega
 have w2:IntKind.u64.wrap (n+1)=n+1:=by rw [IntKind.wrap_u64];omega
 have c1:¬ n+8<=n:=by omega
 have c2:¬ n=n+1:=by omega
 generalize slD n (68::(zCv g).1)=p at *
 generalize (zCv g).1=b at *
 subst hf;refine sX func89 ntmps89 ?_;(repeat intro K hK);apply wr
 (refine af1 (kX5 @maxLen.eq_1 @w1 @w2 @c1 @c2) ?_;(repeat intro K hK);apply wr)
 repeat' ((first|(refine zAC rfl (fun h=>?_) (fun h=>?_)<;>(first|(simp [maxLen,w1,w2,c1,c2] at h;done)|(simp [maxLen,w1,w2,c1,c2] at h)|skip)<;>(first|(exfalso;omega)|skip))|((first|refine .inl ⟨1,_,find_ok n (.fn 149) (by simp [okGs,okG]),?_⟩|refine ⟨1,_,find_ok n (.fn 149) (by simp [okGs,okG]),?_⟩);simp [aftC,aftE,noX,noXc,noX1,maxLen,w1,w2,c1,c2];first|refine And.intro zAM ?_|skip)|((first|refine .inr ((zTJ 4 17 [lv n,lv g.from_,lv g.known,zBZ g.ents] (by simp [lookO]) (by simp [lookO]) (by decide)).mono fun r nx' ob' hp=>?_)|refine (zTJ 4 17 [lv n,lv g.from_,lv g.known,zBZ g.ents] (by simp [lookO]) (by simp [lookO]) (by decide)).mono fun r nx' ob' hp=>?_);obtain ⟨rfl,rfl,rfl⟩:=hp;simp [aftI,maxLen,w1,w2,c1,c2])|((first|refine .inr ((zS6 18 [lv n,lv g.from_,lv g.known,zBZ g.ents] (by simp [lookO]) rfl).mono fun r nx' ob' hp=>?_)|refine (zS6 18 [lv n,lv g.from_,lv g.known,zBZ g.ents] (by simp [lookO]) rfl).mono fun r nx' ob' hp=>?_);obtain ⟨rfl,rfl,rfl⟩:=hp;simp [aftI,maxLen,w1,w2,c1,c2])|refine cc1 (zHv n g.from_) (kX5 @maxLen.eq_1 @w1 @w2 @c1 @c2) ?_|refine cc1 (hb) (kX5 @maxLen.eq_1 @w1 @w2 @c1 @c2) ?_|refine cc1 (zKH n g.from_ h1 h2) (kX5 @maxLen.eq_1 @w1 @w2 @c1 @c2) ?_|refine cc1 (hd) (kX5 @maxLen.eq_1 @w1 @w2 @c1 @c2) ?_|refine zAX 2 ?_|refine zAk fun K hK=>?_|(refine zAE 14 [0,1,3,7,15,31,63,127,255,511,31,1055,4095,8191] [(1,([],[])),(1,([],[])),(1,([],[])),(1,([],[])),(1,([],[])),(7,([[],[0],[0,1],[0,1,2],[0,1,2,3],[],[5]],[])),(1,([],[])),(1,([],[]))] ?_)|exact rt1 (kX5 @maxLen.eq_1 @w1 @w2 @c1 @c2)|fail)<;>(refine af1 (kX5 @maxLen.eq_1 @w1 @w2 @c1 @c2) ?_;(repeat intro K hK);apply wr))
theorem zSj (n k:Int) (p:Str) (x:Nat) (b:Str) (hb:zAD prog 141 [.str p,.int .u8 68] (.tup [lv x,.str b,.bool false])):zAD prog 89 [.st [lv n,lv k,.sl 4 false []],.str p] (.tup [.st [lv n,lv k,.sl 4 false []],.sl 3 false [],.bool false]):=by
 refine sZ func89 ntmps89 ?_
 (refine af ?_;intros;apply wr)
 repeat' ((first|(refine zAC rfl (fun h=>?_) (fun h=>?_)<;>(first|(simp at h;done)|(simp at h)|skip)<;>(first|(exfalso;omega)|skip))|refine cc (zHv n k) ?_|refine cc (hb) ?_|(refine zAE 14 [0,1,3,7,15,31,63,127,255,511,31,1055,4095,8191] [(1,([],[])),(1,([],[])),(1,([],[])),(1,([],[])),(1,([],[])),(7,([[],[0],[0,1],[0,1,2],[0,1,2,3],[],[5]],[])),(1,([],[])),(1,([],[]))] ?_)|exact rt|fail)<;>(refine af ?_;intros;apply wr))
abbrev pkD (b:Int) (g:SegD):Str:=slD b (68::(zCv g).1)
def pksL:Int->List SegD->List Str
 | _,[]=>[]
 | b,g::r=>pkD b g::pksL (b+1) r
theorem zUJ (g:SegD):(zCv g).1.length<=300000:=by
 have:=zC8 g;have:=zDn (zAY g).1;have:=zAS g.from_;have:=zAS g.known;unfold zCv;split<;>simp<;>omega
theorem zTc (n:Int) (b:Str):(slD n b).length<=b.length+30:=by
 have:=zAS n;have:=zAS (b.length:Int);have:=zEv (hshD hsh0 (slB n b));unfold slD;rw [zV7,this];simp only [slB,zV7];omega
theorem zJU:∀ (l:List SegD) (a:Int),chainOk a l=true->∀ g∈l,zDL g=true
 | [],_,_,g,h=>by simp at h
 | x::l,a,h,g,hg=>by
  rw [chainOk,zV5,zV5] at h;rcases List.mem_cons.1 hg with rfl|q
  ·exact h.1.2
  exact zJU l _ h.2 g q
theorem zEC {s:SndD} (h:zBQ s=true):1<=s.base/\s.base<=4611686018427387904/\s.queue.length<=8/\∀ g∈s.queue,zDL g=true:=by
 unfold zBQ at h;split at h
 ·cases h
 rename_i q;refine ⟨by omega,by omega,by omega,?_⟩
 cases hq:s.queue with
 | nil=>simp
 | cons g r =>
  simp only [hq] at h;rw [zV5,zV5] at h;exact zJU _ _ h.1.2
theorem spk_ok (s:SndD) (h:∀ g∈s.queue,OkG g) (ho:zBQ s=true):zAD prog 34 [.st s.row] (.new 9 1 (strs (pksL s.base s.queue))):=by
 have hso:=zED s h;rw [ho] at hso;obtain ⟨b1,b2,b3,hseg⟩:=zEC ho;have hl:=zB5 s.queue;have hnil:strs []=[]:=rfl;refine sX func34 ntmps34 ?_;intros;apply wr;refine cX (hso) ?_;intros;apply wr;refine gF01 rfl @hl ?_;intros;apply wr;refine zAT 3 9 1 (by decide) rfl ?_
 obtain ⟨I,hI⟩:∃ I:Nat->St->Prop,I=(fun kk ss=>∃ (i:Nat) (acc:List Str),i<=s.queue.length/\kk=s.queue.length-i/\(acc++pksL (s.base+i) (s.queue.drop i)=pksL s.base s.queue/\acc.length=i)/\ss=⟨37,[(14,.int .i64 i),(13,.int .i64 s.queue.length),(12,.sl 3 false (segs s.queue)),(1,.ptr 0 4 0 0),(3,.own 2)],3,[(2,some ⟨9,1,false,false,strs acc⟩),(0,some ⟨54,4,true,false,[s.row]⟩)],0⟩):=⟨_,rfl⟩
 refine lX1 I (id) (by rw [hI];exact ⟨0,[],by simp,rfl,⟨by simp,rfl⟩,rfl⟩) @hnil ?_
 intro kk ss hIk _
 rw [hI] at hIk;obtain ⟨i,acc,hi,rfl,hx,rfl⟩:=hIk;obtain ⟨hx1,hx2⟩:=hx;refine au1 @hl ?_;intros;apply wr;refine zAC rfl (fun hh=>?_) (fun hh=>?_)
 ·simp at hh;obtain ⟨g,hg,hd,-,hmem⟩:=get_at hh;have hget:=zEB hg;have he:=zUI g (h g hmem);have hel:=zUJ g;have hw1:IntKind.u64.wrap (i:Int)=i:=by rw [IntKind.wrap_u64];omega
  have hw2:IntKind.u64.wrap (s.base+i)=s.base+i:=by rw [IntKind.wrap_u64];omega
  have hs:=zQI (s.base+i) (68::(zCv g).1) ⟨by omega,by omega⟩ (by simp;omega)
  have hal:=zBR acc;rw [hd,pksL] at hx1;refine au1 @hget ?_;intros;apply wr;refine cY (he) (kX2 @hw1 @hw2) ?_;intros;apply wr;refine cZ (hs) (kX2 @hw1 @hw2) (kX3 @hal @hx2 @maxLen.eq_1) ?_;intros;apply wr;have e1:s.base+((i+1:Nat):Int)=s.base+i+1:=by omega
  have hst:strs (acc++[pkD (s.base+i) g])=strs acc++[[.str (pkD (s.base+i) g)]]:=by simp [strs]
  exact aX (fun x=>if x=2 then 8 else x) (by rw [hI];exact ⟨i+1,(acc++[pkD (s.base+i) g]),by omega,rfl,⟨by rw [e1,<- hx1];simp,by simp [hx2]⟩,rfl⟩) (kX2 (zAA (n:=(i:Int)+1) (by omega) (by omega)) @hst)
 simp at hh;rw [zBc hh,pksL,zWT] at hx1;refine au ?_;intros;apply wr;refine zAB ?_;simp [hx1]
theorem zOU {nx:Nat} {ob:List (Nat × Option Ob)} (i:Nat) (y:List V) (hi:lookO ob i=some ⟨150,3,false,false,[y]⟩) (hy:y.length=3) :
  InlC prog 143 [.own i,iv 0,iv 1] nx ob fun r nx' ob'=>r=.own nx/\nx'=nx+1/\ob'=(nx,some ⟨150,3,false,false,[]⟩)::(i,none)::(i,some ⟨150,3,false,false,[[lv 0,lv 0,.sl 0 true []]]⟩)::(i,some ⟨150,3,false,false,[y]⟩)::ob:=by
 refine InlC.of func143 rfl (by kernel_rfl) rfl ?_
 simp only [ntmps143,St.startI,argT];refine au1 @hi ?_;intros;apply wr
 (refine af1 (kX3 @hi @hy @maxLen.eq_1) ?_;intros;apply wr)
 repeat' ((first|(refine zAC rfl (fun h=>?_) (fun h=>?_)<;>(first|(simp [hi,hy,maxLen] at h;done)|(simp [hi,hy,maxLen] at h)|skip)<;>(first|(exfalso;omega)|skip))|(refine zAE 8 [0,0,3,0,0,24,63,127] [(6,([[],[],[0,1],[],[],[3,4]],[])),(1,([],[])),(1,([],[]))] ?_)|exact rt1 (kX3 @hi @hy @maxLen.eq_1)|fail)<;>(refine af1 (kX3 @hi @hy @maxLen.eq_1) ?_;intros;apply wr))
 refine zJM (sz:=3) (k:=0) 6 i (by simp [lkT]) (by simp [lookO];rfl) rfl rfl (Nat.zero_le _) ?_
 refine zAB ?_;simp
theorem zR2 (n:Int) (c m:UInt8) (t:Str) (h:L64 n) (ht:t.length<=300000):zAD prog 141 [.str (slD n (c::t)),.int .u8 (m.toNat:Int)] (if c=m then .tup [lv n,.str t,.bool true] else .tup [lv 0,.str [],.bool false]):=by
 have hb:=zMI (slD n (c::t)) m (by have:=zTc n (c::t);simp at this;omega)
 have en:((n.toNat:Nat):Int)=n:=by have:=h.1;omega
 have e:zLE (slD n (c::t)) m=if c=m then (n.toNat,t,true) else (0,[],false):=by
  unfold zLE;rw [zGF n h (c::t) (by simp;omega)]
  rfl
 rw [e] at hb;split
 ·rename_i q;rw [if_pos q] at hb;simpa [zFl,en] using hb
 rename_i q;rw [if_neg q] at hb;simpa [zFl] using hb
theorem zTl (s:SndD) (g:SegD) (hq:s.queue=[g]) (h:OkG g) (ho:zBQ s=true):zAD prog 86 [.st s.row,.str (slD (s.base+1) (65::putD g.known))] (.tup [.st (SndD.row ⟨s.base+1,s.tail,g.known,[]⟩),.bool true]):=by
 obtain ⟨b1,b2,b3,hseg⟩:=zEC ho;have hcp:=zDw s (by rw [hq];simp;have:=h.n;omega) (by rw [hq];simp)
 have hso:=zED s (by rw [hq];simpa using h)
 rw [ho] at hso;have l1:=zAS g.known;have hop:=zR2 (s.base+1) 65 65 (putD g.known) ⟨by omega,by omega⟩ (by omega)
 rw [if_pos rfl] at hop;have hop:zAD prog 141 [.str (slD (s.base+1) (65::putD g.known)),.int .u8 65] (.tup [lv (s.base+1),.str (putD g.known),.bool true]):=hop;have hu:=zMt g.known [] h.k (by simp;omega)
 rw [zWT] at hu;generalize slD (s.base+1) (65::putD g.known)=p at *
 generalize putD g.known=t at *
 have w1:IntKind.u64.wrap (s.base+1-s.base)=1:=by rw [IntKind.wrap_u64];omega
 have c1:¬ s.base+1<=s.base:=by omega
 have w2:IntKind.i64.wrap 1=1:=zAA (by decide) (by decide)
 have w3:IntKind.u64.wrap 1=1:=by decide
 have w4:IntKind.i64.wrap 0=0:=zAA (by decide) (by decide)
 obtain ⟨a,b,c,q⟩:=s;simp only at *
 subst hq;refine sX func86 ntmps86 ?_;intros;apply wr
 (refine au1 (kX6 @w1 @w2 @w3 @w4 @c1 @zAr) ?_;intros;apply wr)
 repeat' ((first|(refine zAC rfl (fun h=>?_) (fun h=>?_)<;>(first|(simp [w1,w2,w3,w4,c1,zAr] at h;done)|(simp [w1,w2,w3,w4,c1,zAr] at h)|skip)<;>(first|(exfalso;omega)|skip))|((first|refine .inr ((zOU 5 g.row (by simp [lookO]) rfl).mono fun r nx' ob' hp=>?_)|refine (zOU 5 g.row (by simp [lookO]) rfl).mono fun r nx' ob' hp=>?_);obtain ⟨rfl,rfl,rfl⟩:=hp;simp [aftI,w1,w2,w3,w4,c1,zAr])|refine cc1 (hcp) (kX6 @w1 @w2 @w3 @w4 @c1 @zAr) ?_|refine cc1 (hop) (kX6 @w1 @w2 @w3 @w4 @c1 @zAr) ?_|refine cc1 (hso) (kX6 @w1 @w2 @w3 @w4 @c1 @zAr) ?_|refine cc1 (hu) (kX6 @w1 @w2 @w3 @w4 @c1 @zAr) ?_|exact rt1 (kX6 @w1 @w2 @w3 @w4 @c1 @zAr)|fail)<;>(refine au1 (kX6 @w1 @w2 @w3 @w4 @c1 @zAr) ?_;intros;apply wr))
theorem zTk (s:SndD) (x:Int) (hq:s.queue=[]) (hx:L64 x) (ho:zBQ s=true):zAD prog 86 [.st s.row,.str (slD s.base (65::putD x))] (.tup [.st s.row,.bool false]):=by
 obtain ⟨b1,b2,b3,hseg⟩:=zEC ho;have hcp:=zDw s (by rw [hq];simp) (by rw [hq];simp)
 have hso:=zED s (by rw [hq];simp)
 rw [ho] at hso;have l1:=zAS x;have hop:=zR2 s.base 65 65 (putD x) ⟨by omega,by omega⟩ (by omega)
 rw [if_pos rfl] at hop;have hop:zAD prog 141 [.str (slD s.base (65::putD x)),.int .u8 65] (.tup [lv s.base,.str (putD x),.bool true]):=hop;have hu:=zMt x [] hx (by simp;omega)
 rw [zWT] at hu;generalize slD s.base (65::putD x)=p at *
 generalize putD x=t at *
 obtain ⟨a,b,c,q⟩:=s;simp only at *
 subst hq;refine sZ func86 ntmps86 ?_;exact wx (qX4 (hcp) (hop) (hso) (hu)) trivial
theorem zTm (s:SndD) (p:Str) (x:Int) (b:Str) (hs:∀ g∈s.queue,OkG g) (hn:s.queue.length<=1000) (hb:zAD prog 141 [.str p,.int .u8 65] (.tup [lv x,.str b,.bool false])):zAD prog 86 [.st s.row,.str p] (.tup [.st s.row,.bool false]):=by
 have hcp:=zDw s (fun g hg=>by have:=(hs g hg).n;omega) hn
 refine sZ func86 ntmps86 ?_;exact wx (qX2 (hcp) (hb)) trivial
end Go.Proofs.YthjpcmecgjfilaaGreat
end
