/- A part of the proof of ReplicaBare+ReplicaWindow. -/
import Derived.Test.YtoondlebmacanaaGreatB04
import Derived.Test.YtoondlebmacanaaGreatB35
set_option linter.unusedSimpArgs false
set_option linter.unusedVariables false
set_option maxHeartbeats 16000000
set_option maxRecDepth 100000
section
namespace Go.Proofs.YtoondlebmacanaaGreat
open Go.Ab Go.RowKit
theorem ord_ok (l:List EntD):zAD Tryz.prog 222 [zBu l] (.bool (ordD l)):=by
 have hl:=zA8 l;refine zAD.lens (by kernel_rfl) fun hlens=>?_
 simp [zKp,zKq,zEu,maxLen] at hlens;refine sX Tryz.func222 Tryz.ntmps222 ?_;intros;apply wr;simp only [hl] at hlens;obtain ⟨I,hI⟩:∃ I:Nat→St→Prop,I=(fun kk ss=>∃ (i:Nat) ,i≤l.length∧kk=l.length-i∧(ordD l=ordD (l.drop i))∧ss=⟨39,[(3,.int .i64 (i+1)),(0,zBu l)],0,[],0⟩):=⟨_,rfl⟩
 refine lX I (id) (by rw [hI];exact ⟨0,by simp,rfl,rfl,rfl⟩) ?_
 intro kk ss hIk _
 rw [hI] at hIk;obtain ⟨i,hi,rfl,hx,rfl⟩:=hIk;refine au1 @hl ?_;intros;apply wr;refine zAC rfl (fun hh=>?_) (fun hh=>?_)
 ·simp at hh;obtain ⟨a,ha,hd,-,-⟩:=get_at (show i<l.length by omega)
  obtain ⟨b,hb,hd2,-,-⟩:=get_at (show i+1<l.length by omega)
  have hga:=zBO ha;have hgb:=zBO hb;have hw:IntKind.i64.wrap ((i:Int)+1+1)=(i:Int)+1+1:=zAB (by omega) (by omega)
  rw [hd,hd2,ordD,← hd2] at hx;have hwi:IntKind.i64.wrap (i:Int)=i:=zAB (by omega) (by omega)
  refine au1 (kX4 @hga @hgb @hl @hwi) ?_;intros;apply wr
  (refine af1 (kX5 @hga @hgb @hl @hwi @hx) ?_;intros;apply wr)
  repeat' ((first|(refine zAC rfl (fun h=>?_) (fun h=>?_)<;>(first|(simp [hga,hgb,hl,hwi,hx] at h;done)|(simp [hga,hgb,hl,hwi,hx] at h)|skip)<;>(first|(exfalso;omega)|skip))|(refine zAv (.node 9 10 (.leaf [0,1,2,3,4,5,6,7,8,9,10,11,12] (bN [0,0,2,7,15,0,0,96,224,0,512,1567,4095]) [(12,([[],[],[1],[0,1,2],[0,1,2,3],[],[],[5,6],[5,6,7],[],[9],[0,1,2,3,4,9,10]],[(3,9),(3,10),(4,9),(4,10),(7,9),(7,10),(7,11),(8,9),(8,10),(8,11)])),(1,([],[]))]) (.leaf [0,1,2,3,4,5,6,7,8,10,9,11,12] (bN [0,0,2,7,15,0,0,96,224,0,512,1567,4095]) [(12,([[],[],[1],[0,1,2],[0,1,2,3],[],[],[5,6],[5,6,7],[],[9],[0,1,2,3,4,9,10]],[(3,9),(3,10),(4,9),(4,10),(7,9),(7,10),(7,11),(8,9),(8,10),(8,11)])),(1,([],[]))])) (by kernel_rfl) (by kernel_rfl) ?_;simp only [PT.run];repeat' (with_reducible apply And.intro);all_goals (simp only [zBZ,zWq,List.map_nil,zWi,zWn]))|exact rt1 (kX5 @hga @hgb @hl @hwi @hx)|fail)<;>(refine af1 (kX5 @hga @hgb @hl @hwi @hx) ?_;intros;apply wr))
  all_goals ((exact aX (id) (by rw [hI];exact ⟨i+1,by omega,rfl,(by rw [hx];grind),rfl⟩) (kX2 (zAB (n:=(i:Int)+1) (by omega) (by omega)) @hw)))
 simp at hh;have hx2:ordD l=true:=by
  rw [hx];rcases Nat.lt_or_ge i l.length with q|q
  ·obtain ⟨a,ha,hd,-,-⟩:=get_at q;rw [hd,zB6 (by omega)];rfl
  rw [zB6 q];rfl
 refine au ?_;intros;apply wr;refine zAA ?_;simp [hx2]
theorem zHS (o:EntD) (k:Int):zAD Tryz.prog 251 [.st o.row,.iptr [lv k]] (.bool (decide (k<o.at_))):=by
 refine sZ Tryz.func251 Tryz.ntmps251 ?_;exact wx trivial trivial
theorem zPH (l:List EntD) (k:Int):∃ n:Int,(0≤n↔zCm l k=true)∧zAD Tryz.prog 313 [zBu l,.clo 251 [.iptr [lv k]]] (iv n):=by
 refine ⟨match l.findIdx? (fun e=>decide (k<e.at_)) with|some j=>j|none=>-1,?_,?_⟩
 ·cases q:l.findIdx? (fun e=>decide (k<e.at_)) with
  | none=>simp [zCm];intro x hx;have:=List.findIdx?_eq_none_iff.1 q x hx;simpa using this
  | some j =>
   simp [zCm];obtain ⟨h1,h2⟩:=List.findIdx?_eq_some_iff_getElem.1 q;exact ⟨l[j],zW4 h1,by simpa using h2.1⟩
 have hl:=zA8 l;refine zAD.lens (by kernel_rfl) fun hlens=>?_
 simp [zKp,zKq,zEu,maxLen] at hlens;refine sY Tryz.func313 Tryz.ntmps313 @hl ?_;intros;apply wr;simp only [hl] at hlens;obtain ⟨I,hI⟩:∃ I:Nat→St→Prop,I=(fun kk ss=>∃ (i:Nat) ,i≤l.length∧kk=l.length-i∧(l.findIdx? (fun e=>decide (k<e.at_))=((l.drop i).findIdx? (fun e=>decide (k<e.at_))).map (·+i))∧ss=⟨19,[(8,.int .i64 i),(7,.int .i64 l.length),(1,.clo 251 [.iptr [lv k]]),(0,zBu l)],0,[],0⟩):=⟨_,rfl⟩
 refine lX I (id) (by rw [hI];exact ⟨0,by simp,rfl,by simp,rfl⟩) ?_
 intro kk ss hIk _
 rw [hI] at hIk;obtain ⟨i,hi,rfl,hx,rfl⟩:=hIk;refine au1 @hl ?_;intros;apply wr;refine zAC rfl (fun hh=>?_) (fun hh=>?_)
 ·simp at hh;obtain ⟨o,ho,hd,-,-⟩:=get_at hh;have hget:=zBO ho;rw [hd,List.findIdx?_cons] at hx;by_cases hk:k<o.at_
  ·simp [hk] at hx;refine au1 (kX2 @hget @hl) ?_;intros;apply wr;exact wx1 (qX1 (zHS o k)) trivial (kX5 @hk @hget @hl @hx @hh)
  simp [hk] at hx;refine au1 (kX2 @hget @hl) ?_;intros;apply wr
  (refine au1 (kX3 @hk @hget @hl) ?_;intros;apply wr)
  repeat' ((first|(refine zAC rfl (fun h=>?_) (fun h=>?_)<;>(first|(simp [hk,hget,hl] at h;done)|(simp [hk,hget,hl] at h)|skip)<;>(first|(exfalso;omega)|skip))|refine cc1 (zHS o k) (kX3 @hk @hget @hl) ?_|exact rt1 (kX3 @hk @hget @hl)|fail)<;>(refine au1 (kX3 @hk @hget @hl) ?_;intros;apply wr))
  exact aX (id) (by rw [hI];exact ⟨i+1,by omega,rfl,(by rw [hx];cases (l.drop (i+1)).findIdx? (fun e=>decide (k<e.at_))<;>simp<;>omega),rfl⟩) (zAB (n:=(i:Int)+1) (by omega) (by omega))
 simp at hh;rw [zB6 hh] at hx;have hx2:=hx.trans (show _=none by simp)
 refine au ?_;intros;apply wr;refine zAA ?_;rw [hx2];simp
theorem zOL (l:List EntD) (k:Int):zAD Tryz.prog 182 [zBu l,lv k] (.bool (zCm l k)):=by
 obtain ⟨n,hn,hi⟩:=zPH l k;have hc:zAD Tryz.prog 250 [zBu l,.clo 251 [.iptr [lv k]]] (.bool (zCm l k)):=by
  have hb:decide (0≤n)=zCm l k:=by cases q:zCm l k<;>simp [q] at hn ⊢<;>omega
  refine sZ Tryz.func250 Tryz.ntmps250 ?_;exact wx1 (qX1 (hi)) trivial @hb
 refine sZ Tryz.func182 Tryz.ntmps182 ?_;exact wx (qX1 (hc)) trivial
theorem zTW {e:EvD} (h:evVal e=true):1≤e.kind∧e.kind≤6:=by
 unfold evVal at h
 (repeat' split at h)<;>first|omega|(simp at h)
theorem zMv {e:EvD} (h:evVal e=true):e.data.length≤128:=by
 unfold evVal at h
 (repeat' split at h)<;>simp at h<;>first|omega|(rcases h with h|h<;>simp [h])|(simp [h])|(simp [h.2])
theorem zJP {e:EvD} (h:evVal e=true):(zEW e).length≤200:=by
 have p1:=zBp e.kind;have p2:=zBp e.n;have p3:=zBp (e.data.length:Int);have p4:=zMv h;unfold zEW
 (repeat' split)<;>simp<;>omega
theorem zGL {l:List EntD} {from_ k:Int} (h:zD0 l from_=k) (hk:k≠0):logD l from_=([],k):=by unfold logD;rw [h,if_neg hk]
theorem zNT {l:List EntD} {from_:Int} (h:¬ 400<l.length) (ha:l.all (fun e=>evVal e.ev)=false):zD0 l from_=1900:=by unfold zD0;rw [if_neg h,if_pos ha]
theorem zNU {l:List EntD} {from_:Int} (h:¬ 400<l.length) (ha:l.all (fun e=>evVal e.ev)=true) (ho:ordD l=false∨firstOk from_ l=false):zD0 l from_=1901:=by unfold zD0;rw [if_neg h,if_neg (by simp [ha]),if_pos ho]
theorem zHq {l:List EntD} {from_:Int} (h:¬ 400<l.length) (ha:l.all (fun e=>evVal e.ev)=true) (ho:¬ (ordD l=false∨firstOk from_ l=false)):zD0 l from_=if 65536<(putD l.length++zGc from_ l).length then 1902 else 0:=by unfold zD0;rw [if_neg h,if_neg (by simp [ha]),if_neg ho]
theorem zSW {a:EntD} {r:List EntD} (h:ordD (a::r)=true):firstOk a.at_ r=true∧ordD r=true:=by
 cases r with
 | nil=>exact ⟨rfl,rfl⟩
 | cons b r =>
  rw [ordD] at h;simp at h;exact ⟨by simp [firstOk];omega,h.2⟩
theorem zUi (l:List EntD) (from_:Int) (hf:L64 from_) (hE:∀ e∈l,OkT e) (hb:l.length≤100000):zAD Tryz.prog 183 [zBu l,lv from_] (.tup [.str (logD l from_).1,iv (logD l from_).2]):=by
 have hl:=zA8 l;by_cases h400:400<l.length
 ·have hR:logD l from_=([],1902):=zGL (by unfold zD0;rw [if_pos h400]) (by decide)
  rw [hR];have h4:(400:Int)<l.length:=by omega
  refine sZ Tryz.func183 Tryz.ntmps183 ?_;exact wx1 trivial trivial (kX2 @hl @h4)
 have h4:¬ (400:Int)<l.length:=by omega
 refine sY Tryz.func183 Tryz.ntmps183 (kX2 @hl @h4) ?_;(repeat intro K hK);apply wr
 refine gF11 @h4 rfl @hl ?_;(repeat intro K hK);apply wr
 obtain ⟨I,hI⟩:∃ I:Nat→St→Prop,I=(fun kk ss=>∃ (i:Nat) ,i≤l.length∧kk=l.length-i∧(l.all (fun e=>evVal e.ev)=(l.drop i).all (fun e=>evVal e.ev))∧ss=⟨68,[(16,.int .i64 i),(15,.int .i64 l.length),(14,zBu l),(0,zBu l),(1,lv from_)],0,[],0⟩):=⟨_,rfl⟩
 refine lX I (id) (by rw [hI];exact ⟨0,by simp,rfl,rfl,rfl⟩) ?_
 intro kk ss hIk _
 rw [hI] at hIk;obtain ⟨i,hi,rfl,hx,rfl⟩:=hIk;refine au1 @hl ?_;(repeat intro K hK);apply wr
 refine zAC rfl (fun hh=>?_) (fun hh=>?_)
 ·simp at hh;obtain ⟨o,ho,hd,-,-⟩:=get_at hh;have hget:=zBO ho;rw [hd,List.all_cons] at hx;refine au1 @hget ?_;(repeat intro K hK);apply wr
  cases hv:evVal o.ev with
  | false =>
   have hR:logD l from_=([],1900):=zGL (zNT h400 (by rw [hx,hv];rfl)) (by decide)
   rw [hR];exact wx1 (qX1 (zID o.ev)) trivial @hv
  | true =>
   rw [hv,Bool.true_and] at hx
   (refine au1 @hv ?_;(repeat intro K hK);apply wr)
   repeat' ((first|(refine zAC rfl (fun h=>?_) (fun h=>?_)<;>(first|(simp [hv] at h;done)|(simp [hv] at h)|skip)<;>(first|(exfalso;omega)|skip))|refine cc1 (zID o.ev) @hv ?_|exact rt1 @hv|fail)<;>(refine au1 @hv ?_;(repeat intro K hK);apply wr))
   exact aX (id) (by rw [hI];exact ⟨i+1,by omega,rfl,hx,rfl⟩) (zAB (n:=(i:Int)+1) (by omega) (by omega))
 simp at hh;rw [zB6 hh] at hx;have hall:l.all (fun e=>evVal e.ev)=true:=hx.trans rfl
 have ho:=ord_ok l;refine au ?_;(repeat intro K hK);apply wr
 by_cases hor:ordD l=false∨firstOk from_ l=false
 ·have hR:logD l from_=([],1901):=zGL (zNU h400 hall hor) (by decide)
  rw [hR];have hne:l≠[]:=by rintro rfl;rcases hor with q|q<;>cases q
  obtain ⟨a,r,rfl⟩:∃ a r,l=a::r:=by cases l with|nil=>exact absurd rfl hne|cons a r=>exact ⟨a,r,rfl⟩
  have hg0:(ents (a::r))[0]? =some a.row:=rfl;have hpos:0<(ents (a::r)).length:=by rw [hl];simp
  simp only [firstOk] at hor;refine cc1 (ho) (kX3 @hpos @hg0 (getE hg0)) ?_;refine au ?_;(repeat intro K hK);apply wr
  have hct:(!ordD (a::r)||decide (a.at_<from_))=true:=by rcases hor with q|q<;>(try simp at q)<;>simp [q]
  refine gT10 @hct rfl ?_;(repeat intro K hK);apply wr
  refine zAA ?_;simp [hR]
 have hR:=zHq h400 hall hor;have hor1:ordD l=true:=by simpa using (fun z=>hor (.inl z))
 have hfo:firstOk from_ l=true:=by simpa using (fun z=>hor (.inr z))
 rw [hor1] at ho;refine zBe (α:=Unit) (fun _=>(⟨68,[(40,.bool false),(0,zBu l),(1,lv from_)],1,[],0⟩:St)) (fun _=>True) hK (fun _ hxhJ=>?_) (fun hJ=>?_)
 all_goals clear hK
 ·refine cF0 rfl ?_;have w1:IntKind.u64.wrap (l.length:Int)=l.length:=u64_in (by omega) (by omega)
  refine au1 (kX2 @hl @w1) ?_;(repeat intro K hK);apply wr
  refine cc (zJy l.length ⟨by omega,by omega⟩) ?_
  first|refine .inr ((zEV 1 (putD l.length) (by simp [lookO]) (by decide) (by have:=zBp (l.length:Int);omega)).mono fun r nx' ob' hp=>?_)|refine (zEV 1 (putD l.length) (by simp [lookO]) (by decide) (by have:=zBp (l.length:Int);omega)).mono fun r nx' ob' hp=>?_|refine ((zEV 1 (putD l.length) (by simp [lookO]) (by decide) (by have:=zBp (l.length:Int);omega)).mono fun r nx' ob' hp=>?_).2
  simp only [aftI];obtain ⟨rfl,k1,hk,hkn,hkb,hki,hko⟩:=hp;simp;refine au1 @hl ?_;(repeat intro K hK);apply wr
  clear hko;obtain ⟨I,hI⟩:∃ I:Nat→St→Prop,I=(fun kk ss=>∃ (i:Nat) (fr:Int) (s:Str),i≤l.length∧kk=l.length-i∧(putD l.length++zGc from_ l=s++zGc fr (l.drop i)∧L64 fr∧s.length≤11+250*i∧firstOk fr (l.drop i)=true∧ordD (l.drop i)=true)∧ss=⟨68,[(48,.int .i64 i),(47,.int .i64 l.length),(46,zBu l),(8,.ptr 1 2 0 0),(1,lv fr)],3,[(1,some (bldO (.ptr 1 2 0 0) (.own 2))),(2,some (bufO s))],0⟩):=⟨_,rfl⟩
  refine lX1 I (fun x=>if x=2 then k1 else x) (by rw [hI];exact ⟨0,from_,(putD l.length),by simp,rfl,⟨rfl,hf,zBp _,hfo,hor1⟩,rfl⟩) (kX2 @hki @hkb) ?_
  intro kk ss hIk _
  rw [hI] at hIk;obtain ⟨i,fr,s,hi,rfl,hx,rfl⟩:=hIk;obtain ⟨hx1,hx2,hx3,hx4,hx5⟩:=hx;refine au ?_;(repeat intro K hK);apply wr
  refine zAC rfl (fun hh2=>?_) (fun hh2=>?_)
  ·simp at hh2;obtain ⟨o,ho,hd,-,hmem⟩:=get_at hh2;have hget:=zBO ho;obtain ⟨hoa,hon⟩:=hE o hmem;rw [hd] at hx1 hx4 hx5;obtain ⟨hf2,ho2⟩:=zSW hx5;have hle:fr≤o.at_:=by simpa [firstOk] using hx4
   have hv:evVal o.ev=true:=List.all_eq_true.1 hall o hmem;have hk:=zTW hv;have hdt:=zMv hv;have hw:IntKind.u64.wrap (o.at_-fr)=o.at_-fr:=u64_in (by omega) (by have:=hoa.2;have:=hx2.1;omega)
   have hp1:=zBp (o.at_-fr);have hp2:=zJP hv;refine au1 (kX2 @hget @hw) ?_;(repeat intro K hK);apply wr
   refine cc (zJy (o.at_-fr) ⟨by omega,by have:=hoa.2;have:=hx2.1;omega⟩) ?_
   first|refine .inr ((zFo 1 2 (.ptr 1 2 0 0) s (putD (o.at_-fr)) (by simp [lookO]) (by simp [lookO]) (.inr rfl) (by decide) (by decide) (by decide) (by omega)).mono fun r nx' ob' hp=>?_)|refine (zFo 1 2 (.ptr 1 2 0 0) s (putD (o.at_-fr)) (by simp [lookO]) (by simp [lookO]) (.inr rfl) (by decide) (by decide) (by decide) (by omega)).mono fun r nx' ob' hp=>?_|refine ((zFo 1 2 (.ptr 1 2 0 0) s (putD (o.at_-fr)) (by simp [lookO]) (by simp [lookO]) (.inr rfl) (by decide) (by decide) (by decide) (by omega)).mono fun r nx' ob' hp=>?_).2
   simp only [aftI];obtain ⟨rfl,k2,g0,g1,g2,g3,g4⟩:=hp;have g5:=g4 3 (by decide) (by decide) (by decide)
   simp [lookO] at g5;simp;refine au1 @g5 ?_;(repeat intro K hK);apply wr
   refine cc (zRg o.ev ⟨by omega,by omega⟩ hon (by omega)) ?_
   first|refine .inr ((zFo 1 k2 (.ptr 1 2 0 0) (s++putD (o.at_-fr)) (zEW o.ev) g3 g2 (.inr rfl) (by omega) (by omega) (by omega) (by simp;omega)).mono fun r nx' ob' hp=>?_)|refine (zFo 1 k2 (.ptr 1 2 0 0) (s++putD (o.at_-fr)) (zEW o.ev) g3 g2 (.inr rfl) (by omega) (by omega) (by omega) (by simp;omega)).mono fun r nx' ob' hp=>?_|refine ((zFo 1 k2 (.ptr 1 2 0 0) (s++putD (o.at_-fr)) (zEW o.ev) g3 g2 (.inr rfl) (by omega) (by omega) (by omega) (by simp;omega)).mono fun r nx' ob' hp=>?_).2
   simp only [aftI];obtain ⟨rfl,k3,j0,j1,j2,j3,j4⟩:=hp;simp;refine au ?_;(repeat intro K hK);apply wr
   exact aX (fun x=>if x=2 then k3 else x) (by rw [hI];exact ⟨i+1,o.at_,(s++putD (o.at_-fr)++zEW o.ev),by omega,rfl,⟨by rw [hx1,zGc];simp,hoa,by simp;omega,hf2,ho2⟩,rfl⟩) (kX3 (zAB (n:=(i:Int)+1) (by omega) (by omega)) @j3 @j2)
  simp at hh2;rw [zB6 hh2,zGc,List.append_nil] at hx1;rw [hx1] at hR;refine au ?_;(repeat intro K hK);apply wr
  first|refine .inr ((zFO 1 2 (.ptr 1 2 0 0) s (by simp [lookO]) (by simp [lookO])).mono fun r nx' ob' hp=>?_)|refine (zFO 1 2 (.ptr 1 2 0 0) s (by simp [lookO]) (by simp [lookO])).mono fun r nx' ob' hp=>?_|refine ((zFO 1 2 (.ptr 1 2 0 0) s (by simp [lookO]) (by simp [lookO])).mono fun r nx' ob' hp=>?_).2
  simp only [aftI];obtain ⟨rfl,rfl,rfl⟩:=hp;simp;refine au ?_;(repeat intro K hK);apply wr
  by_cases hs:65536<s.length
  ·rw [if_pos hs] at hR;rw [zGL hR (by decide)]
   exact wx1 trivial trivial @hs
  rw [if_neg hs] at hR;have hE2:logD l from_=(s,0):=by unfold logD;rw [if_pos hR,hx1]
  rw [hE2];have hs2:¬ (65536:Int)<s.length:=by omega
  refine gF10 @hs2 rfl ?_;(repeat intro K hK);apply wr
  first|refine .inr ((zFP 1 2 (.ptr 1 2 0 0) s (by simp [lookO]) (by simp [lookO])).mono fun r nx' ob' hp=>?_)|refine (zFP 1 2 (.ptr 1 2 0 0) s (by simp [lookO]) (by simp [lookO])).mono fun r nx' ob' hp=>?_|refine ((zFP 1 2 (.ptr 1 2 0 0) s (by simp [lookO]) (by simp [lookO])).mono fun r nx' ob' hp=>?_).2
  simp only [aftI];obtain rfl:=hp;simp;refine au ?_;(repeat intro K hK);apply wr
  refine zAA ?_;simp [hE2]
 rcases Nat.eq_zero_or_pos (ents l).length with hz|hpos
 ·refine cc1 (ho) @hz ?_;refine hJ () _ (id) (trivial) ⟨rfl,?_,?_,?_,by simp⟩
  ·simp [leT,ltV,lt1,ren,ren1]
  ·simp [leO,lt1,ren1]
  (simp;try omega)
 obtain ⟨a,ha0,-,-,-⟩:=get_at (show 0<l.length by omega)
 have hg0:=zBO ha0;have hfa:¬ a.at_<from_:=by cases l with|nil=>cases ha0|cons b r=>cases ha0;simpa [firstOk] using hfo
 refine cc1 (ho) (kX4 @hpos @hg0 (getE hg0) @hfa) ?_;refine hJ () _ (id) (trivial) ⟨rfl,?_,?_,?_,by simp⟩
 ·simp [leT,ltV,lt1,ren,ren1]
 ·simp [leO,lt1,ren1]
 (simp;try omega)
structure OkG (g:SegD):Prop where
 f:L64 g.from_
 k:L64 g.known
 e:∀ e∈g.ents,OkT e
 n:g.ents.length≤50000
theorem zJQ (g:SegD) (h:OkG g):zAD Tryz.prog 124 [.st g.row] (.tup [.str (zCJ g).1,iv (zCJ g).2]):=by
 have hb:=zOL g.ents g.known;have he:=zUi g.ents g.from_ h.f h.e (by have:=h.n;omega)
 have hxd:zCJ g=if (decide (g.known<g.from_)||zCm g.ents g.known)=true then ([],2400) else logD g.ents g.from_:=by unfold zCJ;simp
 rw [hxd];refine sX Tryz.func124 Tryz.ntmps124 ?_;intros;apply wr;refine cX (hb) ?_;intros;apply wr;refine zAC rfl (fun hx=>?_) (fun hx=>?_)
 ·rw [if_pos hx];exact wx trivial trivial
 rw [if_neg (by simp [hx])]
 exact wx (qX1 (he)) trivial
theorem zUl (g:SegD) (h:OkG g):zAD Tryz.prog 154 [.st g.row] (.bool (zN0 g)):=by
 refine sZ Tryz.func154 Tryz.ntmps154 ?_;exact wx1 (qX1 (zJQ g h)) trivial @zN0.eq_1
theorem zJI (g:SegD) (h:g.ents.length≤100000):zAD Tryz.prog 125 [.st g.row] (.st g.row):=by
 refine sZ Tryz.func125 Tryz.ntmps125 ?_;exact wx (qX1 (zDC (ents g.ents) false 4 (.inl rfl) (by rw [zA8];exact h))) trivial
theorem zN1 (s:SndD) (h:∀ g∈s.queue,OkG g):zAD Tryz.prog 102 [.st s.row] (.bool (zDM s)):=by
 have hl:=zCb s.queue;by_cases h0:s.base<1∨4611686018427387904<s.base∨8<s.queue.length
 ·have hE:zDM s=false:=by unfold zDM;rw [if_pos h0]
  rw [hE];have h1:s.base<1∨4611686018427387904<s.base∨(8:Int)<s.queue.length:=by omega
  refine sY Tryz.func102 Tryz.ntmps102 @hl ?_;intros;apply wr;have h2:(decide (s.base<1)||decide (4611686018427387904<s.base)||decide ((8:Int)<s.queue.length))=true:=by simpa [or_assoc] using h1
  refine gT10 @h2 rfl ?_;intros;apply wr;refine zAA ?_;simp [hE]
 obtain ⟨b1,b2,b3⟩:¬ s.base<1∧¬ 4611686018427387904<s.base∧¬ (8:Int)<s.queue.length:=by omega
 cases hq:s.queue with
 | nil =>
  have hE:zDM s=decide (s.known≤s.tail):=by unfold zDM;rw [if_neg h0];simp only [hq]
  have hz:(s.queue.length:Int)=0:=by rw [hq];rfl
  rw [hE];refine sZ Tryz.func102 Tryz.ntmps102 ?_
  (refine af1 (kX5 @hl @b1 @b2 @b3 @hz) ?_;intros;apply wr)
  repeat' ((first|(refine zAC rfl (fun h=>?_) (fun h=>?_)<;>(first|(simp [hl,b1,b2,b3,hz] at h;done)|(simp [hl,b1,b2,b3,hz] at h)|skip)<;>(first|(exfalso;omega)|skip))|(refine zAG 8 [0,1,3,7,15,0,32,127] [(7,([[],[0],[0,1],[0,1,2],[0,1,2,3],[],[5]],[])),(1,([],[]))] ?_)|exact rt1 (kX5 @hl @b1 @b2 @b3 @hz)|fail)<;>(refine af1 (kX5 @hl @b1 @b2 @b3 @hz) ?_;intros;apply wr))
 | cons g0 q =>
  have hE:zDM s=(decide (s.known≤g0.from_)&&chainOk g0.from_ s.queue&&decide (s.tail=lastAt g0.from_ s.queue)):=by unfold zDM;rw [if_neg h0];simp only [hq]
  have hg0:=zFD (show s.queue[0]? =some g0 by rw [hq];rfl)
  have hpos:0<s.queue.length:=by rw [hq];simp
  have hz:¬ (s.queue.length:Int)=0:=by omega
  have hne:¬ s.queue=[]:=by rw [hq];simp
  clear hq;rw [hE];refine sY Tryz.func102 Tryz.ntmps102 (kX4 @hl @b1 @b2 @b3) ?_;intros;apply wr;refine gF01 rfl @hl ?_;intros;apply wr;refine gF11 @hne rfl (kX4 @hl @hpos @hg0 (getE hg0)) ?_;intros;apply wr;refine zAG 8 [0,1,3,7,15,0,32,127] [(7,([[],[0],[0,1],[0,1,2],[0,1,2,3],[],[5]],[])),(1,([],[]))] ?_;refine af1 (kX4 @hl @hpos @hg0 (getE hg0)) ?_;intros;apply wr;by_cases hk:g0.from_<s.known
  ·have hn:¬ s.known≤g0.from_:=by omega
   refine zDl @hk rfl ?_;intros;apply wr;refine zAA ?_;simp [hn]
  have hn:s.known≤g0.from_:=by omega
  refine zDE @hk rfl (kX4 @hl @hpos @hg0 (getE hg0)) ?_;intros;apply wr;obtain ⟨I,hI⟩:∃ I:Nat→St→Prop,I=(fun kk ss=>∃ (i:Nat) (a:Int),i≤s.queue.length∧kk=s.queue.length-i∧(chainOk g0.from_ s.queue=chainOk a (s.queue.drop i)∧lastAt g0.from_ s.queue=lastAt a (s.queue.drop i))∧ss=⟨65,[(45,.int .i64 i),(44,.int .i64 s.queue.length),(43,.sl 3 false (segs s.queue)),(1,.ptr 0 4 0 0),(3,lv a)],1,[(0,some ⟨54,4,true,false,[s.row]⟩)],0⟩):=⟨_,rfl⟩
  refine lX I (id) (by rw [hI];exact ⟨0,g0.from_,by simp,rfl,⟨rfl,rfl⟩,rfl⟩) ?_
  intro kk ss hIk _
  rw [hI] at hIk;obtain ⟨i,a,hi,rfl,hx,rfl⟩:=hIk;obtain ⟨hx1,hx2⟩:=hx;refine af1 @hl ?_;intros;apply wr;refine zAC rfl (fun hh=>?_) (fun hh=>?_)
  ·simp at hh;obtain ⟨g,hg,hd,-,hmem⟩:=get_at hh;have hget:=zFD hg;rw [hd,chainOk] at hx1;rw [hd,lastAt] at hx2;refine af1 @hget ?_;intros;apply wr;refine cXf (zUl g (h g hmem)) ?_;intros;apply wr;refine zAC rfl (fun hb=>?_) (fun hb=>?_)
   ·have hF:chainOk g0.from_ s.queue=false:=by
     rw [hx1];cases hs:zN0 g<;>simp [hs] at hb ⊢
     intro z;exact absurd z hb
    refine af ?_;intros;apply wr;refine zAA ?_;simp [hF]
   have hF:chainOk g0.from_ s.queue=chainOk g.known (s.queue.drop (i+1)):=by
    rw [hx1];cases hs:zN0 g<;>simp [hs] at hb ⊢
    simp [hb]
   refine af ?_;intros;apply wr;exact aX (id) (by rw [hI];exact ⟨i+1,g.known,by omega,rfl,⟨hF,hx2⟩,rfl⟩) (zAB (n:=(i:Int)+1) (by omega) (by omega))
  simp at hh;rw [zB6 hh,chainOk] at hx1;rw [zB6 hh,lastAt] at hx2;refine af ?_;intros;apply wr;refine zAA ?_;simp [hx1,hx2,hn];rfl
theorem zNE (s:SndD) (h:∀ g∈s.queue,g.ents.length≤100000) (hn:s.queue.length≤1000):zAD Tryz.prog 123 [.st s.row] (.st [lv s.base,lv s.tail,lv s.known,.new 149 3 (segs s.queue)]):=by
 have hl:=zCb s.queue;have hw:IntKind.i64.wrap ((s.queue.length:Int)+1)=s.queue.length+1:=zAB (by omega) (by omega)
 refine sZ Tryz.func123 Tryz.ntmps123 ?_;refine aum1 (kX3 @hl @hw @maxLen.eq_1) ?_;intros;apply wr;obtain ⟨I,hI⟩:∃ I:Nat→St→Prop,I=(fun kk ss=>∃ (i:Nat) ,i≤s.queue.length∧kk=s.queue.length-i∧(True)∧ss=⟨27,[(14,.int .i64 i),(13,.int .i64 s.queue.length),(12,.sl 3 false (segs s.queue)),(1,.ptr 0 4 0 0),(2,.ptr 1 4 0 0),(3,.own 2)],3,[(0,some ⟨54,4,true,false,[s.row]⟩),(1,some ⟨54,4,true,false,[[lv 0,lv 0,lv 0,.sl 0 true []]]⟩),(2,some ⟨149,3,false,false,segs (s.queue.take i)⟩)],0⟩):=⟨_,rfl⟩
 refine lX I (id) (by rw [hI];exact ⟨0,by simp,rfl,trivial,rfl⟩) ?_
 intro kk ss hIk _
 rw [hI] at hIk;obtain ⟨i,hi,rfl,hx,rfl⟩:=hIk;refine au1 @hl ?_;intros;apply wr;refine zAC rfl (fun hh=>?_) (fun hh=>?_)
 ·simp at hh;obtain ⟨g,hg,-,ht,hmem⟩:=get_at hh;have hget:=zFD hg;have hlt:(segs (s.queue.take i)).length=i:=by rw [zCb,zWw];omega
  refine au1 @hget ?_;intros;apply wr;refine cc (zJI g (h g hmem)) ?_;have hts:segs (s.queue.take (i+1))=segs (s.queue.take i)++[[lv g.from_,lv g.known,zBu g.ents]]:=by rw [ht,zCa];rfl
  refine aum1 (kX2 @hlt @maxLen.eq_1) ?_;intros;apply wr;exact aX (fun x=>if x=2 then 8 else x) (by rw [hI];exact ⟨i+1,by omega,rfl,trivial,rfl⟩) (kX2 (zAB (n:=(i:Int)+1) (by omega) (by omega)) @hts)
 simp at hh;rw [zFE hh];refine au ?_;intros;apply wr;refine zAA ?_;simp
end Go.Proofs.YtoondlebmacanaaGreat
end
