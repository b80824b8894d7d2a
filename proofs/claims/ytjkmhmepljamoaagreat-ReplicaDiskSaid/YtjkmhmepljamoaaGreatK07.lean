/- A part of the proof of ReplicaDisk. -/
import Derived.Test.YtjkmhmepljamoaaGreatK04
set_option linter.all false
set_option maxHeartbeats 16000000
set_option maxRecDepth 100000
section
namespace Go.Proofs.YtjkmhmepljamoaaGreat
open Go.Ab Tryz
@[simp] theorem wl0:IntKind.u64.wrap 0=0:=by decide
@[simp] theorem wl4:IntKind.u64.wrap 4=4:=by decide
@[simp] theorem wl8:IntKind.u64.wrap 8=8:=by decide
@[simp] theorem wl16:IntKind.u64.wrap 16=16:=by decide
@[simp] theorem wl20:IntKind.u64.wrap 20=20:=by decide
@[simp] theorem wl24:IntKind.u64.wrap 24=24:=by decide
@[simp] theorem wi16:IntKind.i64.wrap 16=16:=by decide
@[simp] theorem b32:IntKind.u32.bits=32:=rfl
@[simp] theorem bi32:IntKind.i32.bits=32:=rfl
theorem Fj:AC prog 325 [.int .i64 8] (.int .u32 255):=by
 refine sX func325 ntmps325 ?_;refine C3 ?_;intros;apply wr;refine ar ?_;simp;try decide
theorem Pm:AC prog 325 [.int .i64 4] (.int .u32 15):=by
 refine sX func325 ntmps325 ?_;refine C3 ?_;intros;apply wr;refine ar ?_;simp;try decide
theorem Ty:AC prog 325 [.int .i64 16] (.int .u32 65535):=by
 refine sX func325 ntmps325 ?_;refine C3 ?_;intros;apply wr;refine ar ?_;simp;try decide
theorem GZ(n:Nat)(h:n<4294967296):IntKind.u32.wrap (n:Int)=n:=by rw[IntKind.wrap_u32];omega
theorem Dy(x:Int):(BitVec.ofInt 32 x).toNat=(x%4294967296).toNat:=by
 rw[BitVec.toNat_ofInt];rfl
theorem AV(x:Int)(k B:Nat)(hk:k<=32)(hB:B=2^k):IntKind.u32.wrap ((BitVec.ofInt 32 x &&& BitVec.ofNat 32 (B-1)).toNat:Int)=x%(B:Int):=by
 have hle:B<=4294967296:=by rw[hB];exact Nat.pow_le_pow_right (by omega) hk
 have hpos:0<B:=by rw[hB];exact Nat.two_pow_pos k
 have e:(BitVec.ofInt 32 x &&& BitVec.ofNat 32 (B-1)).toNat=(x%(B:Int)).toNat:=by
  rw[BitVec.toNat_and,Dy,BitVec.toNat_ofNat,Nat.mod_eq_of_lt (show B-1<2^32 by omega),hB,Nat.and_two_pow_sub_one_eq_mod,<- hB];have hd:(B:Int) ∣ 4294967296:=by
   have:B ∣ 4294967296:=by rw[hB];exact Nat.pow_dvd_pow 2 hk
   exact Int.ofNat_dvd.2 this
  have h1:=Int.emod_emod_of_dvd x hd;have h2:=Int.emod_nonneg x (show(4294967296:Int)≠0 by omega);have:((x%4294967296).toNat%B:Nat)=((x%4294967296)%(B:Int)).toNat:=by
   have:((x%4294967296).toNat:Int)=x%4294967296:=by omega
   rw[<- this];rfl
  rw[this,h1]
 have h3:=Int.emod_nonneg x (show(B:Int)≠0 by omega);have h4:=Int.emod_lt_of_pos x (show(0:Int)<B by omega);rw[e,GZ _ (by omega)];omega
theorem Oy(x t i:Nat)(h:x%2^t=0)(hi:i<t):x.testBit i=false:=by
 have:x=2^t*(x/2^t):=by have:=Nat.div_add_mod x (2^t);omega
 rw[this,Nat.testBit_two_pow_mul];simp;omega
theorem sf(low n A B C:Nat)(hA:A=2^low)(hB:B=2^n)(hC:C=(B-1)*A)(hn:low+n<=32)(w v:Int)(h0:0<=w)(h1:w<4294967296)(hw:w.toNat%(A*B)=0):
  IntKind.u32.wrap ((BitVec.ofInt 32 (IntKind.u32.wrap ((BitVec.ofInt 32 w &&& ~~~BitVec.ofInt 32 (IntKind.u32.wrap (C:Int))).toNat:Int)) ||| BitVec.ofInt 32 (IntKind.u32.wrap (IntKind.u32.wrap ((BitVec.ofInt 32 v &&& BitVec.ofNat 32 (B-1)).toNat:Int)*(A:Int)))).toNat:Int)=w+v%(B:Int)*A:=by
 have hAB:A*B=2^(low+n):=by rw[hA,hB,Nat.pow_add]
 have hAB32:A*B<=4294967296:=by rw[hAB];exact Nat.pow_le_pow_right (by omega) hn
 have hApos:0<A:=by rw[hA];exact Nat.two_pow_pos _
 have hBpos:0<B:=by rw[hB];exact Nat.two_pow_pos _
 obtain⟨W,rfl⟩:∃W:Nat,w=W:=⟨w.toNat,by omega⟩;simp only[Int.toNat_natCast]at hw;rw[AV v n B (by omega) hB];have h3:=Int.emod_nonneg v (show(B:Int)≠0 by omega);have h4:=Int.emod_lt_of_pos v (show(0:Int)<B by omega);obtain⟨F,hF⟩:∃F:Nat,v%(B:Int)=F:=⟨(v%(B:Int)).toNat,by omega⟩;rw[hF]at h4 ⊢;have hFB:F<B:=by omega
 have hFA:F*A<A*B:=by rw[Nat.mul_comm F A];exact Nat.mul_lt_mul_of_pos_left hFB hApos
 have hCl:C<A*B:=by rw[hC,Nat.mul_comm];exact Nat.mul_lt_mul_of_pos_left (by omega) hApos
 have hC2:IntKind.u32.wrap (C:Int)=C:=GZ C (by omega);have eFA:((F:Int)*(A:Int))=((F*A:Nat):Int):=by push_cast;rfl
 rw[hC2,eFA,GZ (F*A) (by omega)];have hb:∀m:Nat,BitVec.ofInt 32 (m:Int)=BitVec.ofNat 32 m:=fun m=>by simp
 rw[hb W,hb C,hb (F*A)];have hand:BitVec.ofNat 32 W &&& ~~~BitVec.ofNat 32 C=BitVec.ofNat 32 W:=by
  apply BitVec.eq_of_getLsbD_eq;intro i hi;simp only[BitVec.getLsbD_and,BitVec.getLsbD_not,BitVec.getLsbD_ofNat,hi,decide_true,Bool.true_and];by_cases hlt:i<low+n
  ·rw[Oy W (low+n) i (by rw[<- hAB];exact hw) hlt];rfl
  have:C.testBit i=false:=Nat.testBit_lt_two_pow (Nat.lt_of_lt_of_le (by rw[<- hAB];exact hCl) (Nat.pow_le_pow_right (by omega) (by omega)));rw[this];simp
 rw[hand,BitVec.toNat_ofNat,Nat.mod_eq_of_lt (show W<2^32 by omega),GZ W (by omega),hb W,BitVec.toNat_or,BitVec.toNat_ofNat,BitVec.toNat_ofNat,Nat.mod_eq_of_lt (show W<2^32 by omega),Nat.mod_eq_of_lt (show F*A<2^32 by omega)];have hWd:W=(W/(A*B)) <<< (low+n):=by
  rw[Nat.shiftLeft_eq,<- hAB,Nat.mul_comm];have:=Nat.div_add_mod W (A*B);omega
 have hor:W ||| F*A=W+F*A:=by
  rw[hWd,<- Nat.shiftLeft_add_eq_or_of_lt (by rw[<- hAB];exact hFA)]
 have hsum:W+F*A<4294967296:=by
  have hW:W=A*B*(W/(A*B)):=by have:=Nat.div_add_mod W (A*B);omega
  have h32:4294967296=A*B*(4294967296/(A*B)):=by
   have hd:A*B ∣ 4294967296:=by rw[hAB];exact Nat.pow_dvd_pow 2 hn
   exact(Nat.mul_div_cancel' hd).symm
  have h1':W<4294967296:=by omega
  have hq:W/(A*B)<4294967296/(A*B):=Nat.div_lt_of_lt_mul (by rw[<- h32];exact h1')
  calc W+F*A<W+A*B:=by omega
   _=A*B*(W/(A*B)+1):=by rw[Nat.mul_add,Nat.mul_one,<- hW]
   _<=A*B*(4294967296/(A*B)):=Nat.mul_le_mul_left _ hq
   _=4294967296:=h32.symm
 rw[hor,GZ _ hsum]
 push_cast;rfl
theorem TV(w:Int):AC prog 298 [.int .u32 w,.int .i64 24,.int .i64 8] (.int .u32 (w/16777216%256)):=by
 refine sX func298 ntmps298 ?_;refine C3 ?_;refine cX (Fj) ?_;intros;apply wr;refine ar ?_;simp;rw[gU _ (by omega)];exact AV (w/16777216) 8 256 (by omega) (by decide)
theorem TU(w:Int):AC prog 298 [.int .u32 w,.int .i64 20,.int .i64 4] (.int .u32 (w/1048576%16)):=by
 refine sX func298 ntmps298 ?_;refine C3 ?_;refine cX (Pm) ?_;intros;apply wr;refine ar ?_;simp;rw[gU _ (by omega)];exact AV (w/1048576) 4 16 (by omega) (by decide)
theorem RI(w:Int):AC prog 298 [.int .u32 w,.int .i64 16,.int .i64 4] (.int .u32 (w/65536%16)):=by
 refine sX func298 ntmps298 ?_;refine C3 ?_;refine cX (Pm) ?_;intros;apply wr;refine ar ?_;simp;rw[gU _ (by omega)];exact AV (w/65536) 4 16 (by omega) (by decide)
theorem RH(w:Int):AC prog 298 [.int .u32 w,.int .i64 0,.int .i64 16] (.int .u32 (w%65536)):=by
 refine sX func298 ntmps298 ?_;refine C3 ?_;refine cX (Ty) ?_;intros;apply wr;refine ar ?_;simp;try rw[gU _ (by omega),Int.ediv_one]
 exact AV w 16 65536 (by omega) (by decide)
theorem ext_ok(x:Int)(h0:0<=x)(h1:x<65536):AC prog 300 [.int .u32 x,.int .i64 16] (.int .u32 (if x<32768 then x else x+4294901760)):=by
 refine sX func300 ntmps300 ?_;refine C3 ?_;refine C3 ?_;intros;apply wr;refine ar ?_;simp;simp only[IntKind.wrap_u32,IntKind.wrap_i32];rw[gU _ (by omega)];split<;>omega
end Go.Proofs.YtjkmhmepljamoaaGreat
end
