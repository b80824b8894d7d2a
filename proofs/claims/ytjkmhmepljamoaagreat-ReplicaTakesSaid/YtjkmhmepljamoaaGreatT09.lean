/- A part of the proof of ReplicaTakes. -/
import Derived.Test.YtjkmhmepljamoaaGreatT08
set_option linter.all false
set_option maxHeartbeats 16000000
set_option maxRecDepth 100000
section
namespace Go.Proofs.YtjkmhmepljamoaaGreat
open Go.Ab Tryz
@[simp] theorem wl0:IntKind.u64.wrap 0=0:=by decide
@[simp] theorem wl4:IntKind.u64.wrap 4=4:=by decide
@[simp] theorem wl8:IntKind.u64.wrap 8=8:=by decide
@[simp] theorem wl16:IntKind.u64.wrap 16=16:=by decide
@[simp] theorem wl20:IntKind.u64.wrap 20=20:=by decide
@[simp] theorem wl24:IntKind.u64.wrap 24=24:=by decide
@[simp] theorem wi16:IntKind.i64.wrap 16=16:=by decide
@[simp] theorem b32:IntKind.u32.bits=32:=rfl
@[simp] theorem bi32:IntKind.i32.bits=32:=rfl
theorem Fa:AC prog 325 [.int .i64 8] (.int .u32 255):=by
 refine sX func325 ntmps325 ?_;refine CX ?_;intros;apply wr;refine ar ?_;simp;try decide
theorem P5:AC prog 325 [.int .i64 4] (.int .u32 15):=by
 refine sX func325 ntmps325 ?_;refine CX ?_;intros;apply wr;refine ar ?_;simp;try decide
theorem Tc:AC prog 325 [.int .i64 16] (.int .u32 65535):=by
 refine sX func325 ntmps325 ?_;refine CX ?_;intros;apply wr;refine ar ?_;simp;try decide
theorem Of(n:Nat)(h:n<4294967296):IntKind.u32.wrap (n:Int)=n:=by rw[IntKind.wrap_u32];omega
theorem Du(x:Int):(BitVec.ofInt 32 x).toNat=(x%4294967296).toNat:=by
 rw[BitVec.toNat_ofInt];rfl
theorem AW(x:Int)(k B:Nat)(hk:k<=32)(hB:B=2^k):IntKind.u32.wrap ((BitVec.ofInt 32 x &&& BitVec.ofNat 32 (B-1)).toNat:Int)=x%(B:Int):=by
 have hle:B<=4294967296:=by rw[hB];exact Nat.pow_le_pow_right (by omega) hk
 have hpos:0<B:=by rw[hB];exact Nat.two_pow_pos k
 have e:(BitVec.ofInt 32 x &&& BitVec.ofNat 32 (B-1)).toNat=(x%(B:Int)).toNat:=by
  rw[BitVec.toNat_and,Du,BitVec.toNat_ofNat,Nat.mod_eq_of_lt (show B-1<2^32 by omega),hB,Nat.and_two_pow_sub_one_eq_mod,<- hB];have hd:(B:Int) ∣ 4294967296:=by
   have:B ∣ 4294967296:=by rw[hB];exact Nat.pow_dvd_pow 2 hk
   exact Int.ofNat_dvd.2 this
  have h1:=Int.emod_emod_of_dvd x hd;have h2:=Int.emod_nonneg x (show(4294967296:Int)≠0 by omega);have:((x%4294967296).toNat%B:Nat)=((x%4294967296)%(B:Int)).toNat:=by
   have:((x%4294967296).toNat:Int)=x%4294967296:=by omega
   rw[<- this];rfl
  rw[this,h1]
 have h3:=Int.emod_nonneg x (show(B:Int)≠0 by omega);have h4:=Int.emod_lt_of_pos x (show(0:Int)<B by omega);rw[e,Of _ (by omega)];omega
theorem Sy(w:Int):AC prog 298 [.int .u32 w,.int .i64 24,.int .i64 8] (.int .u32 (w/16777216%256)):=by
 refine sX func298 ntmps298 ?_;refine CX ?_;refine cX (Fa) ?_;intros;apply wr;refine ar ?_;simp;rw[eS _ (by omega)];exact AW (w/16777216) 8 256 (by omega) (by decide)
theorem Sx(w:Int):AC prog 298 [.int .u32 w,.int .i64 20,.int .i64 4] (.int .u32 (w/1048576%16)):=by
 refine sX func298 ntmps298 ?_;refine CX ?_;refine cX (P5) ?_;intros;apply wr;refine ar ?_;simp;rw[eS _ (by omega)];exact AW (w/1048576) 4 16 (by omega) (by decide)
theorem Qn(w:Int):AC prog 298 [.int .u32 w,.int .i64 16,.int .i64 4] (.int .u32 (w/65536%16)):=by
 refine sX func298 ntmps298 ?_;refine CX ?_;refine cX (P5) ?_;intros;apply wr;refine ar ?_;simp;rw[eS _ (by omega)];exact AW (w/65536) 4 16 (by omega) (by decide)
theorem Qm(w:Int):AC prog 298 [.int .u32 w,.int .i64 0,.int .i64 16] (.int .u32 (w%65536)):=by
 refine sX func298 ntmps298 ?_;refine CX ?_;refine cX (Tc) ?_;intros;apply wr;refine ar ?_;simp;try rw[eS _ (by omega),Int.ediv_one]
 exact AW w 16 65536 (by omega) (by decide)
theorem ext_ok(x:Int)(h0:0<=x)(h1:x<65536):AC prog 300 [.int .u32 x,.int .i64 16] (.int .u32 (if x<32768 then x else x+4294901760)):=by
 refine sX func300 ntmps300 ?_;refine CX ?_;refine CX ?_;intros;apply wr;refine ar ?_;simp;simp only[IntKind.wrap_u32,IntKind.wrap_i32];rw[eS _ (by omega)];split<;>omega
end Go.Proofs.YtjkmhmepljamoaaGreat
end
