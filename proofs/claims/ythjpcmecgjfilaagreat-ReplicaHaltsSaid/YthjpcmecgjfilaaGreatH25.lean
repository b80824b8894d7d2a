/- A part of the proof of ReplicaHalts. -/
import Derived.Test.YthjpcmecgjfilaaGreatH12
set_option linter.unusedSimpArgs false
set_option linter.unusedVariables false
set_option maxHeartbeats 16000000
set_option maxRecDepth 100000
section
namespace Go.Proofs.YthjpcmecgjfilaaGreat
open Go.Ab Go.RowKit Tryz
theorem or128f:∀ k:Fin 256,ior .u8 (k.val:Int) 128=(k.val:Int) % 128+128:=by decide +kernel
theorem or128 (x:Int):ior .u8 (IntKind.u8.wrap x) 128=x % 128+128:=by
 have e:IntKind.u8.wrap x=x % 256:=by rw [IntKind.wrap_u8]
 have h:=or128f ⟨(x % 256).toNat,by omega⟩
 simp only at h;rw [show (((x % 256).toNat:Nat):Int)=x % 256 by omega] at h
 rw [e,h];omega
theorem zJ6 {k:Nat} (h:k<256):((UInt8.ofNat k).toNat:Int)=k:=by rw [UInt8.toNat_ofNat'];omega
theorem zFC (a:Str) (b:UInt8):zAL a++[[V.int .u8 (b.toNat:Int)]]=zAL (a++[b]):=by simp [zAL]
theorem zIC {k n:Nat} (h:n<128):putu k n=[UInt8.ofNat n]:=by cases k<;>simp [putu,h]
theorem zMV:∀ k n:Nat,(putu k n).length<=k+1
 | 0,n=>by simp [putu]
 | k+1,n=>by unfold putu;split<;>simp;exact zMV k _
theorem zAS (n:Int):(putD n).length<=11:=zMV _ _
theorem fd128 (x:Int):x.fdiv 128=x / 128:=zWC _ (by decide)
theorem fdsh7 (x:Int):x.fdiv (2 ^ min 7 IntKind.u64.bits)=x / 128:=fd128 x
theorem zDo (n:Int) (h:L64 n):zAD prog 85 [lv n] (.str (putD n)):=by
 refine sX func85 ntmps85 ?_;intros;apply wr;refine zAT 3 5 1 (by decide) rfl ?_
 obtain ⟨I,hI⟩:∃ I:Nat->St->Prop,I=(fun kk ss=>∃ (i:Nat) (x:Int) (out:Str),i<=10/\kk=10-i/\(out++putu (10-i) x.toNat=putD n/\0<=x/\x.toNat<2 ^ (70-7*i)/\out.length<=i)/\ss=⟨20,[(0,lv x),(3,.own 0)],1,[(0,some ⟨5,1,false,false,zAL out⟩)],0⟩):=⟨_,rfl⟩
 refine lX I (id) (by rw [hI];exact ⟨0,n,[],by simp,rfl,⟨rfl,h.1,by have:=h.2;simp;omega,by simp⟩,rfl⟩) ?_
 intro kk ss hIk _
 rw [hI] at hIk;obtain ⟨i,x,out,hi,rfl,hx,rfl⟩:=hIk;obtain ⟨hx1,hx2,hx3,hx4⟩:=hx;refine au ?_;intros;apply wr;have hbl:(zAL out).length=out.length:=by simp [zAL]
 have hi10:out.length<=10:=by omega
 refine zAC rfl (fun hh=>?_) (fun hh=>?_)
 ·simp at hh;have hlt:i<10:=by
   rcases Nat.lt_or_ge i 10 with q|q
   ·exact q
   rw [show 70-7*i=0 by omega] at hx3;omega
  have hst:putu (10-i) x.toNat=UInt8.ofNat (x.toNat % 128+128)::putu (10-(i+1)) (x.toNat / 128):=by
   rw [show 10-i=(10-(i+1))+1 by omega,putu,if_neg (by omega)]
  rw [hst] at hx1;have hb:x % 128+128=((UInt8.ofNat (x.toNat % 128+128)).toNat:Int):=by rw [zJ6 (by omega)];omega
  have hpow:x.toNat / 128<2 ^ (70-7*(i+1)):=by
   rw [Nat.div_lt_iff_lt_mul (by decide),show (128:Nat)=2 ^ 7 from rfl,<- Nat.pow_add,show 70-7*(i+1)+7=70-7*i by omega];exact hx3
  have hdv:(x / 128).toNat=x.toNat / 128:=by omega
  generalize UInt8.ofNat (x.toNat % 128+128)=b at *
  refine au1 (kX6 @or128 @hb @hbl @fd128 @maxLen.eq_1 @zFC) ?_;intros;apply wr;exact aX (fun x=>if x=0 then 2 else x) (by rw [hI];exact ⟨i+1,(x / 128),(out++[b]),by omega,rfl,⟨by rw [hdv];simpa using hx1,by omega,by rw [hdv];exact hpow,by simp;omega⟩,rfl⟩) (kX3 (zAA (n:=(i:Int)+1) (by omega) (by omega)) @zFC @fdsh7)
 simp at hh;rw [zIC (by omega)] at hx1
 have hb:IntKind.u8.wrap x=((UInt8.ofNat x.toNat).toNat:Int):=by rw [zJ6 (by omega),IntKind.wrap_u8];omega
 generalize UInt8.ofNat x.toNat=b at *
 have hB:=zFB (putD n);have hS:=zFD (putD n);refine au1 (kX7 @hb @hbl @maxLen.eq_1 @zFC @hx1 @hB @hS) ?_;intros;apply wr;refine zAB ?_;simp [hx1,hB,hS]
theorem zIV (e:EvD):zAD prog 73 [.st e.row] (.bool (evVal e)):=by
 refine sZ func73 ntmps73 ?_;exact wx1 trivial trivial @evVal.eq_1
theorem zRJ (e:EvD) (hk:L64 e.kind) (hn:W32 e.n) (hd:e.data.length<=1000000):zAD prog 253 [.st e.row] (.str (zCd e)):=by
 have w1:IntKind.u64.wrap e.kind=e.kind:=u64_in hk.1 hk.2;have w2:IntKind.u64.wrap e.n=e.n:=u64_in hn.1 (by have:=hn.2;omega)
 have w3:IntKind.u64.wrap (e.data.length:Int)=e.data.length:=u64_in (by omega) (by omega)
 have p1:=zAS e.kind;have p2:=zAS e.n;have p3:=zAS (e.data.length:Int);refine sZ func253 ntmps253 ?_
 (refine af1 (kX4 @w1 @w2 @w3 @zCd.eq_1) ?_;intros;apply wr)
 repeat' ((first|(refine zAC rfl (fun h=>?_) (fun h=>?_)<;>(first|(simp [w1,w2,w3,zCd] at h;done)|(simp [w1,w2,w3,zCd] at h)|skip)<;>(first|(exfalso;omega)|skip))|refine cc1 (zDo e.kind hk) (kX4 @w1 @w2 @w3 @zCd.eq_1) ?_|refine cc1 (zDo e.n ⟨hn.1,by have:=hn.2;omega⟩) (kX4 @w1 @w2 @w3 @zCd.eq_1) ?_|refine cc1 (zDo e.data.length ⟨by omega,by omega⟩) (kX4 @w1 @w2 @w3 @zCd.eq_1) ?_|(refine zAE 9 [0,1,3,7,15,0,32,127,255] [(7,([[],[0],[0,1],[0,1,2],[0,1,2,3],[],[5]],[(6,4)])),(1,([],[])),(1,([],[]))] ?_)|exact rt1 (kX4 @w1 @w2 @w3 @zCd.eq_1)|fail)<;>(refine af1 (kX4 @w1 @w2 @w3 @zCd.eq_1) ?_;intros;apply wr))
end Go.Proofs.YthjpcmecgjfilaaGreat
end
