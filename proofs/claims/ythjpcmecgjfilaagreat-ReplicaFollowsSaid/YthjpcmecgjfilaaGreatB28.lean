/- A part of the proof of ReplicaFollows. -/
import Derived.Test.YthjpcmecgjfilaaGreatB11
import Derived.Test.YthjpcmecgjfilaaGreatB20
import Derived.Test.YthjpcmecgjfilaaGreatB27
set_option linter.unusedSimpArgs false
set_option linter.unusedVariables false
set_option maxHeartbeats 16000000
set_option maxRecDepth 100000
section
namespace Go.Proofs.YthjpcmecgjfilaaGreat
open Go.Ab Go.RowKit Tryz
theorem or128f:∀ k:Fin 256,ior .u8 (k.val:Int) 128=(k.val:Int) % 128+128:=by decide +kernel
theorem or128 (x:Int):ior .u8 (IntKind.u8.wrap x) 128=x % 128+128:=by
 have e:IntKind.u8.wrap x=x % 256:=by rw [IntKind.wrap_u8]
 have h:=or128f ⟨(x % 256).toNat,by omega⟩
 simp only at h;rw [show (((x % 256).toNat:Nat):Int)=x % 256 by omega] at h
 rw [e,h];omega
theorem zKG {k:Nat} (h:k<256):((UInt8.ofNat k).toNat:Int)=k:=by rw [UInt8.toNat_ofNat'];omega
theorem zFL (a:Str) (b:UInt8):zAN a++[[V.int .u8 (b.toNat:Int)]]=zAN (a++[b]):=by simp [zAN]
theorem zIH {k n:Nat} (h:n<128):putu k n=[UInt8.ofNat n]:=by cases k<;>simp [putu,h]
theorem zMi:∀ k n:Nat,(putu k n).length<=k+1
 | 0,n=>by simp [putu]
 | k+1,n=>by unfold putu;split<;>simp;exact zMi k _
theorem zAS (n:Int):(putD n).length<=11:=zMi _ _
theorem fd128 (x:Int):x.fdiv 128=x / 128:=zWQ _ (by decide)
theorem fdsh7 (x:Int):x.fdiv (2 ^ min 7 IntKind.u64.bits)=x / 128:=fd128 x
theorem zDq (n:Int) (h:L64 n):zAD prog 85 [lv n] (.str (putD n)):=by
 refine sX func85 ntmps85 ?_;intros;apply wr;refine zAT 3 5 1 (by decide) rfl ?_
 obtain ⟨I,hI⟩:∃ I:Nat->St->Prop,I=(fun kk ss=>∃ (i:Nat) (x:Int) (out:Str),i<=10/\kk=10-i/\(out++putu (10-i) x.toNat=putD n/\0<=x/\x.toNat<2 ^ (70-7*i)/\out.length<=i)/\ss=⟨20,[(0,lv x),(3,.own 0)],1,[(0,some ⟨5,1,false,false,zAN out⟩)],0⟩):=⟨_,rfl⟩
 refine lX I (id) (by rw [hI];exact ⟨0,n,[],by simp,rfl,⟨rfl,h.1,by have:=h.2;simp;omega,by simp⟩,rfl⟩) ?_
 intro kk ss hIk _
 rw [hI] at hIk;obtain ⟨i,x,out,hi,rfl,hx,rfl⟩:=hIk;obtain ⟨hx1,hx2,hx3,hx4⟩:=hx;refine au ?_;intros;apply wr;have hbl:(zAN out).length=out.length:=by simp [zAN]
 have hi10:out.length<=10:=by omega
 refine zAC rfl (fun hh=>?_) (fun hh=>?_)
 ·simp at hh;have hlt:i<10:=by
   rcases Nat.lt_or_ge i 10 with q|q
   ·exact q
   rw [show 70-7*i=0 by omega] at hx3;omega
  have hst:putu (10-i) x.toNat=UInt8.ofNat (x.toNat % 128+128)::putu (10-(i+1)) (x.toNat / 128):=by
   rw [show 10-i=(10-(i+1))+1 by omega,putu,if_neg (by omega)]
  rw [hst] at hx1;have hb:x % 128+128=((UInt8.ofNat (x.toNat % 128+128)).toNat:Int):=by rw [zKG (by omega)];omega
  have hpow:x.toNat / 128<2 ^ (70-7*(i+1)):=by
   rw [Nat.div_lt_iff_lt_mul (by decide),show (128:Nat)=2 ^ 7 from rfl,<- Nat.pow_add,show 70-7*(i+1)+7=70-7*i by omega];exact hx3
  have hdv:(x / 128).toNat=x.toNat / 128:=by omega
  generalize UInt8.ofNat (x.toNat % 128+128)=b at *
  refine au1 (kX6 @or128 @hb @hbl @fd128 @maxLen.eq_1 @zFL) ?_;intros;apply wr;exact aX (fun x=>if x=0 then 2 else x) (by rw [hI];exact ⟨i+1,(x / 128),(out++[b]),by omega,rfl,⟨by rw [hdv];simpa using hx1,by omega,by rw [hdv];exact hpow,by simp;omega⟩,rfl⟩) (kX3 (zAA (n:=(i:Int)+1) (by omega) (by omega)) @zFL @fdsh7)
 simp at hh;rw [zIH (by omega)] at hx1
 have hb:IntKind.u8.wrap x=((UInt8.ofNat x.toNat).toNat:Int):=by rw [zKG (by omega),IntKind.wrap_u8];omega
 generalize UInt8.ofNat x.toNat=b at *
 have hB:=zDz (putD n);have hS:=zD0 (putD n);refine au1 (kX7 @hb @hbl @maxLen.eq_1 @zFL @hx1 @hB @hS) ?_;intros;apply wr;refine zAB ?_;simp [hx1,hB,hS]
theorem zGE (e:EvD):zAD prog 73 [.st e.row] (.bool (evVal e)):=by
 refine sZ func73 ntmps73 ?_;exact wx1 trivial trivial @evVal.eq_1
theorem zRa (e:EvD) (hk:L64 e.kind) (hn:W32 e.n) (hd:e.data.length<=1000000):zAD prog 253 [.st e.row] (.str (zCi e)):=by
 have w1:IntKind.u64.wrap e.kind=e.kind:=u64_in hk.1 hk.2;have w2:IntKind.u64.wrap e.n=e.n:=u64_in hn.1 (by have:=hn.2;omega)
 have w3:IntKind.u64.wrap (e.data.length:Int)=e.data.length:=u64_in (by omega) (by omega)
 have p1:=zAS e.kind;have p2:=zAS e.n;have p3:=zAS (e.data.length:Int);refine sZ func253 ntmps253 ?_
 (refine af1 (kX4 @w1 @w2 @w3 @zCi.eq_1) ?_;intros;apply wr)
 repeat' ((first|(refine zAC rfl (fun h=>?_) (fun h=>?_)<;>(first|(simp [w1,w2,w3,zCi] at h;done)|(simp [w1,w2,w3,zCi] at h)|skip)<;>(first|(exfalso;omega)|skip))|refine cc1 (zDq e.kind hk) (kX4 @w1 @w2 @w3 @zCi.eq_1) ?_|refine cc1 (zDq e.n ⟨hn.1,by have:=hn.2;omega⟩) (kX4 @w1 @w2 @w3 @zCi.eq_1) ?_|refine cc1 (zDq e.data.length ⟨by omega,by omega⟩) (kX4 @w1 @w2 @w3 @zCi.eq_1) ?_|(refine zAG 9 [0,1,3,7,15,0,32,127,255] [(7,([[],[0],[0,1],[0,1,2],[0,1,2,3],[],[5]],[(6,4)])),(1,([],[])),(1,([],[]))] ?_)|exact rt1 (kX4 @w1 @w2 @w3 @zCi.eq_1)|fail)<;>(refine af1 (kX4 @w1 @w2 @w3 @zCi.eq_1) ?_;intros;apply wr))
theorem zTf (l:List EntD):zAD prog 197 [zBV l] (.bool (ordD l)):=by
 have hl:=zAn l;refine zAD.lens (by kernel_rfl) fun hlens=>?_
 simp [zLE,zLF,zEm,maxLen] at hlens;refine sX func197 ntmps197 ?_;intros;apply wr;simp only [hl] at hlens;obtain ⟨I,hI⟩:∃ I:Nat->St->Prop,I=(fun kk ss=>∃ (i:Nat) ,i<=l.length/\kk=l.length-i/\(ordD l=ordD (l.drop i))/\ss=⟨39,[(3,.int .i64 (i+1)),(0,zBV l)],0,[],0⟩):=⟨_,rfl⟩
 refine lX I (id) (by rw [hI];exact ⟨0,by simp,rfl,rfl,rfl⟩) ?_
 intro kk ss hIk _
 rw [hI] at hIk;obtain ⟨i,hi,rfl,hx,rfl⟩:=hIk;refine au1 @hl ?_;intros;apply wr;refine zAC rfl (fun hh=>?_) (fun hh=>?_)
 ·simp at hh;obtain ⟨a,ha,hd,-,-⟩:=get_at (show i<l.length by omega)
  obtain ⟨b,hb,hd2,-,-⟩:=get_at (show i+1<l.length by omega)
  have hga:=zCQ ha;have hgb:=zCQ hb;have hw:IntKind.i64.wrap ((i:Int)+1+1)=(i:Int)+1+1:=zAA (by omega) (by omega)
  rw [hd,hd2,ordD,<- hd2] at hx;have hwi:IntKind.i64.wrap (i:Int)=i:=zAA (by omega) (by omega)
  refine au1 (kX4 @hga @hgb @hl @hwi) ?_;intros;apply wr
  (refine af1 (kX5 @hga @hgb @hl @hwi @hx) ?_;intros;apply wr)
  repeat' ((first|(refine zAC rfl (fun h=>?_) (fun h=>?_)<;>(first|(simp [hga,hgb,hl,hwi,hx] at h;done)|(simp [hga,hgb,hl,hwi,hx] at h)|skip)<;>(first|(exfalso;omega)|skip))|(refine zBX (.node 9 10 (.leaf [0,1,2,3,4,5,6,7,8,9,10,11,12] (bN [0,0,2,7,15,0,0,96,224,0,512,1567,4095]) [(12,([[],[],[1],[0,1,2],[0,1,2,3],[],[],[5,6],[5,6,7],[],[9],[0,1,2,3,4,9,10]],[(3,9),(3,10),(4,9),(4,10),(7,9),(7,10),(7,11),(8,9),(8,10),(8,11)])),(1,([],[]))]) (.leaf [0,1,2,3,4,5,6,7,8,10,9,11,12] (bN [0,0,2,7,15,0,0,96,224,0,512,1567,4095]) [(12,([[],[],[1],[0,1,2],[0,1,2,3],[],[],[5,6],[5,6,7],[],[9],[0,1,2,3,4,9,10]],[(3,9),(3,10),(4,9),(4,10),(7,9),(7,10),(7,11),(8,9),(8,10),(8,11)])),(1,([],[]))])) (by kernel_rfl) (by kernel_rfl) ?_;simp only [PT.run];repeat' (with_reducible apply And.intro);all_goals (simp only [zB0,zWb,List.map_nil,zWV,zWk]))|exact rt1 (kX5 @hga @hgb @hl @hwi @hx)|fail)<;>(refine af1 (kX5 @hga @hgb @hl @hwi @hx) ?_;intros;apply wr))
  all_goals ((exact aX (id) (by rw [hI];exact ⟨i+1,by omega,rfl,(by rw [hx];grind),rfl⟩) (kX2 (zAA (n:=(i:Int)+1) (by omega) (by omega)) @hw)))
 simp at hh;have hx2:ordD l=true:=by
  rw [hx];rcases Nat.lt_or_ge i l.length with q|q
  ·obtain ⟨a,ha,hd,-,-⟩:=get_at q;rw [hd,zBd (by omega)];rfl
  rw [zBd q];rfl
 refine au ?_;intros;apply wr;refine zAB ?_;simp [hx2]
theorem zHo (o:EntD) (k:Int):zAD prog 251 [.st o.row,.iptr [lv k]] (.bool (decide (k<o.at_))):=by
 refine sZ func251 ntmps251 ?_;exact wx trivial trivial
theorem zPO (l:List EntD) (k:Int):∃ n:Int,(0<=n↔zCI l k=true)/\zAD prog 312 [zBV l,.clo 251 [.iptr [lv k]]] (iv n):=by
 refine ⟨match l.findIdx? (fun e=>decide (k<e.at_)) with|some j=>j|none=>-1,?_,?_⟩
 ·cases q:l.findIdx? (fun e=>decide (k<e.at_)) with
  | none=>simp [zCI];intro x hx;have:=List.findIdx?_eq_none_iff.1 q x hx;simpa using this
  | some j =>
   simp [zCI];obtain ⟨h1,h2⟩:=List.findIdx?_eq_some_iff_getElem.1 q;exact ⟨l[j],zWp h1,by simpa using h2.1⟩
 have hl:=zAn l;refine zAD.lens (by kernel_rfl) fun hlens=>?_
 simp [zLE,zLF,zEm,maxLen] at hlens;refine sY func312 ntmps312 @hl ?_;intros;apply wr;simp only [hl] at hlens;obtain ⟨I,hI⟩:∃ I:Nat->St->Prop,I=(fun kk ss=>∃ (i:Nat) ,i<=l.length/\kk=l.length-i/\(l.findIdx? (fun e=>decide (k<e.at_))=((l.drop i).findIdx? (fun e=>decide (k<e.at_))).map (·+i))/\ss=⟨19,[(8,.int .i64 i),(7,.int .i64 l.length),(1,.clo 251 [.iptr [lv k]]),(0,zBV l)],0,[],0⟩):=⟨_,rfl⟩
 refine lX I (id) (by rw [hI];exact ⟨0,by simp,rfl,by simp,rfl⟩) ?_
 intro kk ss hIk _
 rw [hI] at hIk;obtain ⟨i,hi,rfl,hx,rfl⟩:=hIk;refine au1 @hl ?_;intros;apply wr;refine zAC rfl (fun hh=>?_) (fun hh=>?_)
 ·simp at hh;obtain ⟨o,ho,hd,-,-⟩:=get_at hh;have hget:=zCQ ho;rw [hd,List.findIdx?_cons] at hx;by_cases hk:k<o.at_
  ·simp [hk] at hx;refine au1 (kX2 @hget @hl) ?_;intros;apply wr;exact wx1 (qX1 (zHo o k)) trivial (kX5 @hk @hget @hl @hx @hh)
  simp [hk] at hx;refine au1 (kX2 @hget @hl) ?_;intros;apply wr
  (refine au1 (kX3 @hk @hget @hl) ?_;intros;apply wr)
  repeat' ((first|(refine zAC rfl (fun h=>?_) (fun h=>?_)<;>(first|(simp [hk,hget,hl] at h;done)|(simp [hk,hget,hl] at h)|skip)<;>(first|(exfalso;omega)|skip))|refine cc1 (zHo o k) (kX3 @hk @hget @hl) ?_|exact rt1 (kX3 @hk @hget @hl)|fail)<;>(refine au1 (kX3 @hk @hget @hl) ?_;intros;apply wr))
  exact aX (id) (by rw [hI];exact ⟨i+1,by omega,rfl,(by rw [hx];cases (l.drop (i+1)).findIdx? (fun e=>decide (k<e.at_))<;>simp<;>omega),rfl⟩) (zAA (n:=(i:Int)+1) (by omega) (by omega))
 simp at hh;rw [zBd hh] at hx;have hx2:=hx.trans (show _=none by simp)
 refine au ?_;intros;apply wr;refine zAB ?_;rw [hx2];simp
theorem zJZ (l:List EntD) (k:Int):zAD prog 183 [zBV l,lv k] (.bool (zCI l k)):=by
 obtain ⟨n,hn,hi⟩:=zPO l k;have hc:zAD prog 250 [zBV l,.clo 251 [.iptr [lv k]]] (.bool (zCI l k)):=by
  have hb:decide (0<=n)=zCI l k:=by cases q:zCI l k<;>simp [q] at hn ⊢<;>omega
  refine sZ func250 ntmps250 ?_;exact wx1 (qX1 (hi)) trivial @hb
 refine sZ func183 ntmps183 ?_;exact wx (qX1 (hc)) trivial
theorem zS4 {e:EvD} (h:evVal e=true):1<=e.kind/\e.kind<=6:=by
 unfold evVal at h
 (repeat' split at h)<;>first|omega|(simp at h)
theorem zNE {e:EvD} (h:evVal e=true):e.data.length<=128:=by
 unfold evVal at h
 (repeat' split at h)<;>simp at h<;>first|omega|(rcases h with h|h<;>simp [h])|(simp [h])|(simp [h.2])
theorem zJr {e:EvD} (h:evVal e=true):(zCi e).length<=200:=by
 have p1:=zAS e.kind;have p2:=zAS e.n;have p3:=zAS (e.data.length:Int);have p4:=zNE h;unfold zCi
 (repeat' split)<;>simp<;>omega
theorem zGG {l:List EntD} {from_ k:Int} (h:zCq l from_=k) (hk:k≠0):logD l from_=([],k):=by unfold logD;rw [h,if_neg hk]
theorem zNj {l:List EntD} {from_:Int} (h:¬ 400<l.length) (ha:l.all (fun e=>evVal e.ev)=false):zCq l from_=1900:=by unfold zCq;rw [if_neg h,if_pos ha]
theorem zNk {l:List EntD} {from_:Int} (h:¬ 400<l.length) (ha:l.all (fun e=>evVal e.ev)=true) (ho:ordD l=false\/firstOk from_ l=false):zCq l from_=1901:=by unfold zCq;rw [if_neg h,if_neg (by simp [ha]),if_pos ho]
theorem zIB {l:List EntD} {from_:Int} (h:¬ 400<l.length) (ha:l.all (fun e=>evVal e.ev)=true) (ho:¬ (ordD l=false\/firstOk from_ l=false)):zCq l from_=if 65536<(putD l.length++zBn from_ l).length then 1902 else 0:=by unfold zCq;rw [if_neg h,if_neg (by simp [ha]),if_neg ho]
theorem zMc {a:EntD} {r:List EntD} (h:ordD (a::r)=true):firstOk a.at_ r=true/\ordD r=true:=by
 cases r with
 | nil=>exact ⟨rfl,rfl⟩
 | cons b r =>
  rw [ordD] at h;simp at h;exact ⟨by simp [firstOk];omega,h.2⟩
theorem zOs (l:List EntD) (from_:Int) (hf:L64 from_) (hE:∀ e∈l,OkT e) (hb:l.length<=100000):zAD prog 184 [zBV l,lv from_] (.tup [.str (logD l from_).1,iv (logD l from_).2]):=by
 have hl:=zAn l;by_cases h400:400<l.length
 ·have hR:logD l from_=([],1902):=zGG (by unfold zCq;rw [if_pos h400]) (by decide)
  rw [hR];have h4:(400:Int)<l.length:=by omega
  refine sZ func184 ntmps184 ?_;exact wx1 trivial trivial (kX2 @hl @h4)
 have h4:¬ (400:Int)<l.length:=by omega
 refine sY func184 ntmps184 (kX2 @hl @h4) ?_;(repeat intro K hK);apply wr
 refine gF11 @h4 rfl @hl ?_;(repeat intro K hK);apply wr
 obtain ⟨I,hI⟩:∃ I:Nat->St->Prop,I=(fun kk ss=>∃ (i:Nat) ,i<=l.length/\kk=l.length-i/\(l.all (fun e=>evVal e.ev)=(l.drop i).all (fun e=>evVal e.ev))/\ss=⟨68,[(16,.int .i64 i),(15,.int .i64 l.length),(14,zBV l),(0,zBV l),(1,lv from_)],0,[],0⟩):=⟨_,rfl⟩
 refine lX I (id) (by rw [hI];exact ⟨0,by simp,rfl,rfl,rfl⟩) ?_
 intro kk ss hIk _
 rw [hI] at hIk;obtain ⟨i,hi,rfl,hx,rfl⟩:=hIk;refine au1 @hl ?_;(repeat intro K hK);apply wr
 refine zAC rfl (fun hh=>?_) (fun hh=>?_)
 ·simp at hh;obtain ⟨o,ho,hd,-,-⟩:=get_at hh;have hget:=zCQ ho;rw [hd,List.all_cons] at hx;refine au1 @hget ?_;(repeat intro K hK);apply wr
  cases hv:evVal o.ev with
  | false =>
   have hR:logD l from_=([],1900):=zGG (zNj h400 (by rw [hx,hv];rfl)) (by decide)
   rw [hR];exact wx1 (qX1 (zGE o.ev)) trivial @hv
  | true =>
   rw [hv,Bool.true_and] at hx
   (refine au1 @hv ?_;(repeat intro K hK);apply wr)
   repeat' ((first|(refine zAC rfl (fun h=>?_) (fun h=>?_)<;>(first|(simp [hv] at h;done)|(simp [hv] at h)|skip)<;>(first|(exfalso;omega)|skip))|refine cc1 (zGE o.ev) @hv ?_|exact rt1 @hv|fail)<;>(refine au1 @hv ?_;(repeat intro K hK);apply wr))
   exact aX (id) (by rw [hI];exact ⟨i+1,by omega,rfl,hx,rfl⟩) (zAA (n:=(i:Int)+1) (by omega) (by omega))
 simp at hh;rw [zBd hh] at hx;have hall:l.all (fun e=>evVal e.ev)=true:=hx.trans rfl
 have ho:=zTf l;refine au ?_;(repeat intro K hK);apply wr
 by_cases hor:ordD l=false\/firstOk from_ l=false
 ·have hR:logD l from_=([],1901):=zGG (zNk h400 hall hor) (by decide)
  rw [hR];have hne:l≠[]:=by rintro rfl;rcases hor with q|q<;>cases q
  obtain ⟨a,r,rfl⟩:∃ a r,l=a::r:=by cases l with|nil=>exact absurd rfl hne|cons a r=>exact ⟨a,r,rfl⟩
  have hg0:(ents (a::r))[0]? =some a.row:=rfl;have hpos:0<(ents (a::r)).length:=by rw [hl];simp
  simp only [firstOk] at hor;refine cc1 (ho) (kX3 @hpos @hg0 (getE hg0)) ?_;refine au ?_;(repeat intro K hK);apply wr
  have hct:(!ordD (a::r)||decide (a.at_<from_))=true:=by rcases hor with q|q<;>(try simp at q)<;>simp [q]
  refine gT10 @hct rfl ?_;(repeat intro K hK);apply wr
  refine zAB ?_;simp [hR]
 have hR:=zIB h400 hall hor;have hor1:ordD l=true:=by simpa using (fun z=>hor (.inl z))
 have hfo:firstOk from_ l=true:=by simpa using (fun z=>hor (.inr z))
 rw [hor1] at ho;refine zBe (α:=Unit) (fun _=>(⟨68,[(40,.bool false),(0,zBV l),(1,lv from_)],1,[],0⟩:St)) (fun _=>True) hK (fun _ hxhJ=>?_) (fun hJ=>?_)
 all_goals clear hK
 ·refine cF0 rfl ?_;have w1:IntKind.u64.wrap (l.length:Int)=l.length:=u64_in (by omega) (by omega)
  refine au1 (kX2 @hl @w1) ?_;(repeat intro K hK);apply wr
  refine cc (zDq l.length ⟨by omega,by omega⟩) ?_
  first|refine .inr ((zJQ 1 (putD l.length) (by simp [lookO]) (by decide) (by have:=zAS (l.length:Int);omega)).mono fun r nx' ob' hp=>?_)|refine (zJQ 1 (putD l.length) (by simp [lookO]) (by decide) (by have:=zAS (l.length:Int);omega)).mono fun r nx' ob' hp=>?_|refine ((zJQ 1 (putD l.length) (by simp [lookO]) (by decide) (by have:=zAS (l.length:Int);omega)).mono fun r nx' ob' hp=>?_).2
  simp only [aftI];obtain ⟨rfl,k1,hk,hkn,hkb,hki,hko⟩:=hp;simp;refine au1 @hl ?_;(repeat intro K hK);apply wr
  clear hko;obtain ⟨I,hI⟩:∃ I:Nat->St->Prop,I=(fun kk ss=>∃ (i:Nat) (fr:Int) (s:Str),i<=l.length/\kk=l.length-i/\(putD l.length++zBn from_ l=s++zBn fr (l.drop i)/\L64 fr/\s.length<=11+250*i/\firstOk fr (l.drop i)=true/\ordD (l.drop i)=true)/\ss=⟨68,[(48,.int .i64 i),(47,.int .i64 l.length),(46,zBV l),(8,.ptr 1 2 0 0),(1,lv fr)],3,[(1,some (bldO (.ptr 1 2 0 0) (.own 2))),(2,some (bufO s))],0⟩):=⟨_,rfl⟩
  refine lX1 I (fun x=>if x=2 then k1 else x) (by rw [hI];exact ⟨0,from_,(putD l.length),by simp,rfl,⟨rfl,hf,zAS _,hfo,hor1⟩,rfl⟩) (kX2 @hki @hkb) ?_
  intro kk ss hIk _
  rw [hI] at hIk;obtain ⟨i,fr,s,hi,rfl,hx,rfl⟩:=hIk;obtain ⟨hx1,hx2,hx3,hx4,hx5⟩:=hx;refine au ?_;(repeat intro K hK);apply wr
  refine zAC rfl (fun hh2=>?_) (fun hh2=>?_)
  ·simp at hh2;obtain ⟨o,ho,hd,-,hmem⟩:=get_at hh2;have hget:=zCQ ho;obtain ⟨hoa,hon⟩:=hE o hmem;rw [hd] at hx1 hx4 hx5;obtain ⟨hf2,ho2⟩:=zMc hx5;have hle:fr<=o.at_:=by simpa [firstOk] using hx4
   have hv:evVal o.ev=true:=List.all_eq_true.1 hall o hmem;have hk:=zS4 hv;have hdt:=zNE hv;have hw:IntKind.u64.wrap (o.at_-fr)=o.at_-fr:=u64_in (by omega) (by have:=hoa.2;have:=hx2.1;omega)
   have hp1:=zAS (o.at_-fr);have hp2:=zJr hv;refine au1 (kX2 @hget @hw) ?_;(repeat intro K hK);apply wr
   refine cc (zDq (o.at_-fr) ⟨by omega,by have:=hoa.2;have:=hx2.1;omega⟩) ?_
   first|refine .inr ((zFm 1 2 (.ptr 1 2 0 0) s (putD (o.at_-fr)) (by simp [lookO]) (by simp [lookO]) (.inr rfl) (by decide) (by decide) (by decide) (by omega)).mono fun r nx' ob' hp=>?_)|refine (zFm 1 2 (.ptr 1 2 0 0) s (putD (o.at_-fr)) (by simp [lookO]) (by simp [lookO]) (.inr rfl) (by decide) (by decide) (by decide) (by omega)).mono fun r nx' ob' hp=>?_|refine ((zFm 1 2 (.ptr 1 2 0 0) s (putD (o.at_-fr)) (by simp [lookO]) (by simp [lookO]) (.inr rfl) (by decide) (by decide) (by decide) (by omega)).mono fun r nx' ob' hp=>?_).2
   simp only [aftI];obtain ⟨rfl,k2,g0,g1,g2,g3,g4⟩:=hp;have g5:=g4 3 (by decide) (by decide) (by decide)
   simp [lookO] at g5;simp;refine au1 @g5 ?_;(repeat intro K hK);apply wr
   refine cc (zRa o.ev ⟨by omega,by omega⟩ hon (by omega)) ?_
   first|refine .inr ((zFm 1 k2 (.ptr 1 2 0 0) (s++putD (o.at_-fr)) (zCi o.ev) g3 g2 (.inr rfl) (by omega) (by omega) (by omega) (by simp;omega)).mono fun r nx' ob' hp=>?_)|refine (zFm 1 k2 (.ptr 1 2 0 0) (s++putD (o.at_-fr)) (zCi o.ev) g3 g2 (.inr rfl) (by omega) (by omega) (by omega) (by simp;omega)).mono fun r nx' ob' hp=>?_|refine ((zFm 1 k2 (.ptr 1 2 0 0) (s++putD (o.at_-fr)) (zCi o.ev) g3 g2 (.inr rfl) (by omega) (by omega) (by omega) (by simp;omega)).mono fun r nx' ob' hp=>?_).2
   simp only [aftI];obtain ⟨rfl,k3,j0,j1,j2,j3,j4⟩:=hp;simp;refine au ?_;(repeat intro K hK);apply wr
   exact aX (fun x=>if x=2 then k3 else x) (by rw [hI];exact ⟨i+1,o.at_,(s++putD (o.at_-fr)++zCi o.ev),by omega,rfl,⟨by rw [hx1,zBn];simp,hoa,by simp;omega,hf2,ho2⟩,rfl⟩) (kX3 (zAA (n:=(i:Int)+1) (by omega) (by omega)) @j3 @j2)
  simp at hh2;rw [zBd hh2,zBn,zWh] at hx1;rw [hx1] at hR;refine au ?_;(repeat intro K hK);apply wr
  first|refine .inr ((zKv 1 2 (.ptr 1 2 0 0) s (by simp [lookO]) (by simp [lookO])).mono fun r nx' ob' hp=>?_)|refine (zKv 1 2 (.ptr 1 2 0 0) s (by simp [lookO]) (by simp [lookO])).mono fun r nx' ob' hp=>?_|refine ((zKv 1 2 (.ptr 1 2 0 0) s (by simp [lookO]) (by simp [lookO])).mono fun r nx' ob' hp=>?_).2
  simp only [aftI];obtain ⟨rfl,rfl,rfl⟩:=hp;simp;refine au ?_;(repeat intro K hK);apply wr
  by_cases hs:65536<s.length
  ·rw [if_pos hs] at hR;rw [zGG hR (by decide)]
   exact wx1 trivial trivial @hs
  rw [if_neg hs] at hR;have hE2:logD l from_=(s,0):=by unfold logD;rw [if_pos hR,hx1]
  rw [hE2];have hs2:¬ (65536:Int)<s.length:=by omega
  refine gF10 @hs2 rfl ?_;(repeat intro K hK);apply wr
  first|refine .inr ((zKx 1 2 (.ptr 1 2 0 0) s (by simp [lookO]) (by simp [lookO])).mono fun r nx' ob' hp=>?_)|refine (zKx 1 2 (.ptr 1 2 0 0) s (by simp [lookO]) (by simp [lookO])).mono fun r nx' ob' hp=>?_|refine ((zKx 1 2 (.ptr 1 2 0 0) s (by simp [lookO]) (by simp [lookO])).mono fun r nx' ob' hp=>?_).2
  simp only [aftI];obtain rfl:=hp;simp;refine au ?_;(repeat intro K hK);apply wr
  refine zAB ?_;simp [hE2]
 rcases Nat.eq_zero_or_pos (ents l).length with hz|hpos
 ·refine cc1 (ho) @hz ?_;refine hJ () _ (id) (trivial) ⟨rfl,?_,?_,?_,by simp⟩
  ·simp [leT,ltV,lt1,ren,ren1]
  ·simp [leO,lt1,ren1]
  (simp;try omega)
 obtain ⟨a,ha0,-,-,-⟩:=get_at (show 0<l.length by omega)
 have hg0:=zCQ ha0;have hfa:¬ a.at_<from_:=by cases l with|nil=>cases ha0|cons b r=>cases ha0;simpa [firstOk] using hfo
 refine cc1 (ho) (kX4 @hpos @hg0 (getE hg0) @hfa) ?_;refine hJ () _ (id) (trivial) ⟨rfl,?_,?_,?_,by simp⟩
 ·simp [leT,ltV,lt1,ren,ren1]
 ·simp [leO,lt1,ren1]
 (simp;try omega)
structure OkG (g:SegD):Prop where
 f:L64 g.from_
 k:L64 g.known
 e:∀ e∈g.ents,OkT e
 n:g.ents.length<=50000
theorem zGh (g:SegD) (h:OkG g):zAD prog 134 [.st g.row] (.tup [.str (zAZ g).1,iv (zAZ g).2]):=by
 have hb:=zJZ g.ents g.known;have he:=zOs g.ents g.from_ h.f h.e (by have:=h.n;omega)
 have hxd:zAZ g=if (decide (g.known<g.from_)||zCI g.ents g.known)=true then ([],2400) else logD g.ents g.from_:=by unfold zAZ;simp
 rw [hxd];refine sX func134 ntmps134 ?_;intros;apply wr;refine cX (hb) ?_;intros;apply wr;refine zAC rfl (fun hx=>?_) (fun hx=>?_)
 ·rw [if_pos hx];exact wx trivial trivial
 rw [if_neg (by simp [hx])]
 exact wx (qX1 (he)) trivial
theorem zUZ (g:SegD) (h:OkG g):zAD prog 138 [.st g.row] (.bool (zDO g)):=by
 refine sZ func138 ntmps138 ?_;exact wx1 (qX1 (zGh g h)) trivial @zDO.eq_1
theorem zJg (g:SegD) (h:g.ents.length<=100000):zAD prog 135 [.st g.row] (.st g.row):=by
 refine sZ func135 ntmps135 ?_;exact wx (qX1 (zEe (ents g.ents) false 4 (.inl rfl) (by rw [zAn];exact h))) trivial
theorem zEJ (s:SndD) (h:∀ g∈s.queue,OkG g):zAD prog 81 [.st s.row] (.bool (zBR s)):=by
 have hl:=zCX s.queue;by_cases h0:s.base<1\/4611686018427387904<s.base\/8<s.queue.length
 ·have hE:zBR s=false:=by unfold zBR;rw [if_pos h0]
  rw [hE];have h1:s.base<1\/4611686018427387904<s.base\/(8:Int)<s.queue.length:=by omega
  refine sY func81 ntmps81 @hl ?_;intros;apply wr;have h2:(decide (s.base<1)||decide (4611686018427387904<s.base)||decide ((8:Int)<s.queue.length))=true:=by simpa [or_assoc] using h1
  refine gT10 @h2 rfl ?_;intros;apply wr;refine zAB ?_;simp [hE]
 obtain ⟨b1,b2,b3⟩:¬ s.base<1/\¬ 4611686018427387904<s.base/\¬ (8:Int)<s.queue.length:=by omega
 cases hq:s.queue with
 | nil =>
  have hE:zBR s=decide (s.known<=s.tail):=by unfold zBR;rw [if_neg h0];simp only [hq]
  have hz:(s.queue.length:Int)=0:=by rw [hq];rfl
  rw [hE];refine sZ func81 ntmps81 ?_
  (refine af1 (kX5 @hl @b1 @b2 @b3 @hz) ?_;intros;apply wr)
  repeat' ((first|(refine zAC rfl (fun h=>?_) (fun h=>?_)<;>(first|(simp [hl,b1,b2,b3,hz] at h;done)|(simp [hl,b1,b2,b3,hz] at h)|skip)<;>(first|(exfalso;omega)|skip))|(refine zAG 8 [0,1,3,7,15,0,32,127] [(7,([[],[0],[0,1],[0,1,2],[0,1,2,3],[],[5]],[])),(1,([],[]))] ?_)|exact rt1 (kX5 @hl @b1 @b2 @b3 @hz)|fail)<;>(refine af1 (kX5 @hl @b1 @b2 @b3 @hz) ?_;intros;apply wr))
 | cons g0 q =>
  have hE:zBR s=(decide (s.known<=g0.from_)&&chainOk g0.from_ s.queue&&decide (s.tail=lastAt g0.from_ s.queue)):=by unfold zBR;rw [if_neg h0];simp only [hq]
  have hg0:=zE4 (show s.queue[0]? =some g0 by rw [hq];rfl)
  have hpos:0<s.queue.length:=by rw [hq];simp
  have hz:¬ (s.queue.length:Int)=0:=by omega
  have hne:¬ s.queue=[]:=by rw [hq];simp
  clear hq;rw [hE];refine sY func81 ntmps81 (kX4 @hl @b1 @b2 @b3) ?_;intros;apply wr;refine gF01 rfl @hl ?_;intros;apply wr;refine gF11 @hne rfl (kX4 @hl @hpos @hg0 (getE hg0)) ?_;intros;apply wr;refine zAG 8 [0,1,3,7,15,0,32,127] [(7,([[],[0],[0,1],[0,1,2],[0,1,2,3],[],[5]],[])),(1,([],[]))] ?_;refine af1 (kX4 @hl @hpos @hg0 (getE hg0)) ?_;intros;apply wr;by_cases hk:g0.from_<s.known
  ·have hn:¬ s.known<=g0.from_:=by omega
   refine zDK @hk rfl ?_;intros;apply wr;refine zAB ?_;simp [hn]
  have hn:s.known<=g0.from_:=by omega
  refine zEM @hk rfl (kX4 @hl @hpos @hg0 (getE hg0)) ?_;intros;apply wr;obtain ⟨I,hI⟩:∃ I:Nat->St->Prop,I=(fun kk ss=>∃ (i:Nat) (a:Int),i<=s.queue.length/\kk=s.queue.length-i/\(chainOk g0.from_ s.queue=chainOk a (s.queue.drop i)/\lastAt g0.from_ s.queue=lastAt a (s.queue.drop i))/\ss=⟨65,[(45,.int .i64 i),(44,.int .i64 s.queue.length),(43,.sl 3 false (segs s.queue)),(1,.ptr 0 4 0 0),(3,lv a)],1,[(0,some ⟨54,4,true,false,[s.row]⟩)],0⟩):=⟨_,rfl⟩
  refine lX I (id) (by rw [hI];exact ⟨0,g0.from_,by simp,rfl,⟨rfl,rfl⟩,rfl⟩) ?_
  intro kk ss hIk _
  rw [hI] at hIk;obtain ⟨i,a,hi,rfl,hx,rfl⟩:=hIk;obtain ⟨hx1,hx2⟩:=hx;refine af1 @hl ?_;intros;apply wr;refine zAC rfl (fun hh=>?_) (fun hh=>?_)
  ·simp at hh;obtain ⟨g,hg,hd,-,hmem⟩:=get_at hh;have hget:=zE4 hg;rw [hd,chainOk] at hx1;rw [hd,lastAt] at hx2;refine af1 @hget ?_;intros;apply wr;refine cXf (zUZ g (h g hmem)) ?_;intros;apply wr;refine zAC rfl (fun hb=>?_) (fun hb=>?_)
   ·have hF:chainOk g0.from_ s.queue=false:=by
     rw [hx1];cases hs:zDO g<;>simp [hs] at hb ⊢
     intro z;exact absurd z hb
    refine af ?_;intros;apply wr;refine zAB ?_;simp [hF]
   have hF:chainOk g0.from_ s.queue=chainOk g.known (s.queue.drop (i+1)):=by
    rw [hx1];cases hs:zDO g<;>simp [hs] at hb ⊢
    simp [hb]
   refine af ?_;intros;apply wr;exact aX (id) (by rw [hI];exact ⟨i+1,g.known,by omega,rfl,⟨hF,hx2⟩,rfl⟩) (zAA (n:=(i:Int)+1) (by omega) (by omega))
  simp at hh;rw [zBd hh,chainOk] at hx1;rw [zBd hh,lastAt] at hx2;refine af ?_;intros;apply wr;refine zAB ?_;simp [hx1,hx2,hn];rfl
theorem zD1 (s:SndD) (h:∀ g∈s.queue,g.ents.length<=100000) (hn:s.queue.length<=1000):zAD prog 133 [.st s.row] (.st [lv s.base,lv s.tail,lv s.known,.new 150 3 (segs s.queue)]):=by
 have hl:=zCX s.queue;have hw:IntKind.i64.wrap ((s.queue.length:Int)+1)=s.queue.length+1:=zAA (by omega) (by omega)
 refine sZ func133 ntmps133 ?_;refine aum1 (kX3 @hl @hw @maxLen.eq_1) ?_;intros;apply wr;obtain ⟨I,hI⟩:∃ I:Nat->St->Prop,I=(fun kk ss=>∃ (i:Nat) ,i<=s.queue.length/\kk=s.queue.length-i/\(True)/\ss=⟨27,[(14,.int .i64 i),(13,.int .i64 s.queue.length),(12,.sl 3 false (segs s.queue)),(1,.ptr 0 4 0 0),(2,.ptr 1 4 0 0),(3,.own 2)],3,[(0,some ⟨54,4,true,false,[s.row]⟩),(1,some ⟨54,4,true,false,[[lv 0,lv 0,lv 0,.sl 0 true []]]⟩),(2,some ⟨150,3,false,false,segs (s.queue.take i)⟩)],0⟩):=⟨_,rfl⟩
 refine lX I (id) (by rw [hI];exact ⟨0,by simp,rfl,trivial,rfl⟩) ?_
 intro kk ss hIk _
 rw [hI] at hIk;obtain ⟨i,hi,rfl,hx,rfl⟩:=hIk;refine au1 @hl ?_;intros;apply wr;refine zAC rfl (fun hh=>?_) (fun hh=>?_)
 ·simp at hh;obtain ⟨g,hg,-,ht,hmem⟩:=get_at hh;have hget:=zE4 hg;have hlt:(segs (s.queue.take i)).length=i:=by rw [zCX,zWS];omega
  refine au1 @hget ?_;intros;apply wr;refine cc (zJg g (h g hmem)) ?_;have hts:segs (s.queue.take (i+1))=segs (s.queue.take i)++[[lv g.from_,lv g.known,zBV g.ents]]:=by rw [ht,zCW];rfl
  refine aum1 (kX2 @hlt @maxLen.eq_1) ?_;intros;apply wr;exact aX (fun x=>if x=2 then 8 else x) (by rw [hI];exact ⟨i+1,by omega,rfl,trivial,rfl⟩) (kX2 (zAA (n:=(i:Int)+1) (by omega) (by omega)) @hts)
 simp at hh;rw [zGW hh];refine au ?_;intros;apply wr;refine zAB ?_;simp
end Go.Proofs.YthjpcmecgjfilaaGreat
end
