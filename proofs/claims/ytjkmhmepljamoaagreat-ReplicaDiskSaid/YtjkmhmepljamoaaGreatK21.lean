/- A part of the proof of ReplicaDisk. -/
import Derived.Test.YtjkmhmepljamoaaGreatK20
set_option linter.all false
set_option maxHeartbeats 16000000
set_option maxRecDepth 100000
section
namespace Go.Proofs.YtjkmhmepljamoaaGreat
open Go.Ab Go.RowKit Tryz
def I7(x:Int):Int:=x%2+x/2%2+x/4%2+x/8%2+x/16%2+x/32%2+x/64%2+x/128%2
theorem popf:∀k:Fin 256,(((([0,1,1,2,1,2,2,3,1,2,2,3,2,3,3,4,1,2,2,3,2,3,3,4,2,3,3,4,3,4,4,5,1,2,2,3,2,3,3,4,2,3,3,4,3,4,4,5,2,3,3,4,3,4,4,5,3,4,4,5,4,5,5,6,1,2,2,3,2,3,3,4,2,3,3,4,3,4,4,5,2,3,3,4,3,4,4,5,3,4,4,5,4,5,5,6,2,3,3,4,3,4,4,5,3,4,4,5,4,5,5,6,3,4,4,5,4,5,5,6,4,5,5,6,5,6,6,7,1,2,2,3,2,3,3,4,2,3,3,4,3,4,4,5,2,3,3,4,3,4,4,5,3,4,4,5,4,5,5,6,2,3,3,4,3,4,4,5,3,4,4,5,4,5,5,6,3,4,4,5,4,5,5,6,4,5,5,6,5,6,6,7,2,3,3,4,3,4,4,5,3,4,4,5,4,5,5,6,3,4,4,5,4,5,5,6,4,5,5,6,5,6,6,7,3,4,4,5,4,5,5,6,4,5,5,6,5,6,6,7,4,5,5,6,5,6,6,7,5,6,6,7,6,7,7,8]:List UInt8))[k.val]?.getD 0).toNat:Int)=I7 (k.val:Int):=by decide +kernel
theorem QF{x:Int}(h0:0<=x)(h1:x<256):(((([0,1,1,2,1,2,2,3,1,2,2,3,2,3,3,4,1,2,2,3,2,3,3,4,2,3,3,4,3,4,4,5,1,2,2,3,2,3,3,4,2,3,3,4,3,4,4,5,2,3,3,4,3,4,4,5,3,4,4,5,4,5,5,6,1,2,2,3,2,3,3,4,2,3,3,4,3,4,4,5,2,3,3,4,3,4,4,5,3,4,4,5,4,5,5,6,2,3,3,4,3,4,4,5,3,4,4,5,4,5,5,6,3,4,4,5,4,5,5,6,4,5,5,6,5,6,6,7,1,2,2,3,2,3,3,4,2,3,3,4,3,4,4,5,2,3,3,4,3,4,4,5,3,4,4,5,4,5,5,6,2,3,3,4,3,4,4,5,3,4,4,5,4,5,5,6,3,4,4,5,4,5,5,6,4,5,5,6,5,6,6,7,2,3,3,4,3,4,4,5,3,4,4,5,4,5,5,6,3,4,4,5,4,5,5,6,4,5,5,6,5,6,6,7,3,4,4,5,4,5,5,6,4,5,5,6,5,6,6,7,4,5,5,6,5,6,6,7,5,6,6,7,6,7,7,8]:List UInt8))[x.toNat]?.getD 0).toNat:Int)=I7 x:=by
 have h:=popf ⟨x.toNat,by omega⟩;rwa[show((⟨x.toNat,by omega⟩:Fin 256).val:Int)=x by simp;omega]at h
theorem Hw(x:Int):0<=I7 x/\I7 x<=8:=by unfold I7;omega
theorem pb0(g:Int):g%256%2=g%2:=by omega
theorem pb1(g:Int):g%256/2%2=g/2%2:=by omega
theorem pb2(g:Int):g%256/4%2=g/4%2:=by omega
theorem pb3(g:Int):g%256/8%2=g/8%2:=by omega
theorem pb4(g:Int):g%256/16%2=g/16%2:=by omega
theorem pb5(g:Int):g%256/32%2=g/32%2:=by omega
theorem pb6(g:Int):g%256/64%2=g/64%2:=by omega
theorem pb7(g:Int):g%256/128%2=g/128%2:=by omega
theorem pb9(g:Int):g/256/2%2=g/512%2:=by omega
theorem pb10(g:Int):g/256/4%2=g/1024%2:=by omega
theorem pb11(g:Int):g/256/8%2=g/2048%2:=by omega
theorem pb12(g:Int):g/256/16%2=g/4096%2:=by omega
theorem pb13(g:Int):g/256/32%2=g/8192%2:=by omega
theorem pb14(g:Int):g/256/64%2=g/16384%2:=by omega
theorem pb15(g:Int):g/256/128%2=g/32768%2:=by omega
theorem pb17(g:Int):g/65536/2%2=g/131072%2:=by omega
theorem pb18(g:Int):g/65536/4%2=g/262144%2:=by omega
theorem pb19(g:Int):g/65536/8%2=g/524288%2:=by omega
theorem pb20(g:Int):g/65536/16%2=g/1048576%2:=by omega
theorem pb21(g:Int):g/65536/32%2=g/2097152%2:=by omega
theorem pb22(g:Int):g/65536/64%2=g/4194304%2:=by omega
theorem pb23(g:Int):g/65536/128%2=g/8388608%2:=by omega
theorem pb25(g:Int):g/16777216/2%2=g/33554432%2:=by omega
theorem pb26(g:Int):g/16777216/4%2=g/67108864%2:=by omega
theorem pb27(g:Int):g/16777216/8%2=g/134217728%2:=by omega
theorem pb28(g:Int):g/16777216/16%2=g/268435456%2:=by omega
theorem pb29(g:Int):g/16777216/32%2=g/536870912%2:=by omega
theorem pb30(g:Int):g/16777216/64%2=g/1073741824%2:=by omega
theorem pb31(g:Int):g/16777216/128%2=g/2147483648%2:=by omega
theorem MW{g:Int}(h:W32 g):I7 (g/16777216)+I7 (g/65536%256)+I7 (g/256%256)+I7 (g%256)=countB g:=by
 have e:countB g=g%2+g/2%2+g/4%2+g/8%2+g/16%2+g/32%2+g/64%2+g/128%2+g/256%2+g/512%2+g/1024%2+g/2048%2+g/4096%2+g/8192%2+g/16384%2+g/32768%2+g/65536%2+g/131072%2+g/262144%2+g/524288%2+g/1048576%2+g/2097152%2+g/4194304%2+g/8388608%2+g/16777216%2+g/33554432%2+g/67108864%2+g/134217728%2+g/268435456%2+g/536870912%2+g/1073741824%2+g/2147483648%2:=by simp[countB,List.range,List.range.loop]
 rw[e];unfold I7;simp only[pb0,pb1,pb2,pb3,pb4,pb5,pb6,pb7,pb9,pb10,pb11,pb12,pb13,pb14,pb15,pb17,pb18,pb19,pb20,pb21,pb22,pb23,pb25,pb26,pb27,pb28,pb29,pb30,pb31];clear e;generalize g%2=x0;generalize g/2%2=x1;generalize g/4%2=x2;generalize g/8%2=x3;generalize g/16%2=x4;generalize g/32%2=x5;generalize g/64%2=x6;generalize g/128%2=x7;generalize g/256%2=x8;generalize g/512%2=x9;generalize g/1024%2=x10;generalize g/2048%2=x11;generalize g/4096%2=x12;generalize g/8192%2=x13;generalize g/16384%2=x14;generalize g/32768%2=x15;generalize g/65536%2=x16;generalize g/131072%2=x17;generalize g/262144%2=x18;generalize g/524288%2=x19;generalize g/1048576%2=x20;generalize g/2097152%2=x21;generalize g/4194304%2=x22;generalize g/8388608%2=x23;generalize g/16777216%2=x24;generalize g/33554432%2=x25;generalize g/67108864%2=x26;generalize g/134217728%2=x27;generalize g/268435456%2=x28;generalize g/536870912%2=x29;generalize g/1073741824%2=x30;generalize g/2147483648%2=x31;omega
theorem Ee{g:Int}(h:W32 g):0<=countB g/\countB g<=32:=by
 rw[<- MW h];have:=Hw (g/16777216);have:=Hw (g/65536%256);have:=Hw (g/256%256);have:=Hw (g%256);omega
theorem u8_in{n:Int}(h0:0<=n:=by omega)(h1:n<256:=by omega):IntKind.u8.wrap n=n:=by rw[IntKind.wrap_u8];omega
theorem cT(g:Int)(h:W32 g):AC prog 330 [uv g] (iv (countB g)):=by
 have h0:=h.1;have h1:=h.2;have q1:=QF (x:=g/16777216) (by omega) (by omega);have q2:=QF (x:=g/65536%256) (by omega) (by omega);have q3:=QF (x:=g/256%256) (by omega) (by omega);have q4:=QF (x:=g%256) (by omega) (by omega);have r1:=Hw (g/16777216);have r2:=Hw (g/65536%256);have r3:=Hw (g/256%256);have r4:=Hw (g%256);have e1:IntKind.u8.wrap (I7 (g/16777216)+I7 (g/65536%256))=I7 (g/16777216)+I7 (g/65536%256):=u8_in;have e2:IntKind.u8.wrap (I7 (g/16777216)+I7 (g/65536%256)+I7 (g/256%256))=I7 (g/16777216)+I7 (g/65536%256)+I7 (g/256%256):=u8_in;have e3:IntKind.u8.wrap (I7 (g/16777216)+I7 (g/65536%256)+I7 (g/256%256)+I7 (g%256))=countB g:=by rw[MW h];have:=Ee h;exact u8_in
 have e4:IntKind.i64.wrap (countB g)=countB g:=by have:=Ee h;exact AA
 refine sZ func330 ntmps330 ?_
 (refine af1 (ZI @IF @Du @Bi @Cb @q1 @q2 @q3 @q4 @e1 @e2 @e3 @e4) ?_;intros;apply wr)
 repeat' ((first|(refine AB rfl (fun h=>?_) (fun h=>?_)<;>(first|(simp[IF,Du,Bi,Cb,q1,q2,q3,q4,e1,e2,e3,e4]at h;done)|(simp[IF,Du,Bi,Cb,q1,q2,q3,q4,e1,e2,e3,e4]at h)|skip)<;>(first|(exfalso;omega)|skip))|(refine AD 19 [0,1,3,0,8,24,56,127,0,256,768,1792,4095,0,8192,24576,65535,131071,262143] [(16,([[],[0],[0,1],[],[3],[3,4],[3,4,5],[0,1,2,3,4,5,6],[],[8],[8,9],[8,9,10],[0,1,2,3,4,5,6,7,8,9,10,11],[],[13],[13,14]],[])),(1,([],[])),(1,([],[])),(1,([],[]))] ?_)|exact rt1 (ZI @IF @Du @Bi @Cb @q1 @q2 @q3 @q4 @e1 @e2 @e3 @e4)|fail)<;>(refine af1 (ZI @IF @Du @Bi @Cb @q1 @q2 @q3 @q4 @e1 @e2 @e3 @e4) ?_;intros;apply wr))
theorem MH(t g:Int)(hw:W32 g):AC prog 309 [.st [uv t,uv g]] (iv (countB g)):=by
 refine sZ func309 ntmps309 ?_;exact wx (qX1 (cT g hw)) trivial
theorem Qu(t g:Int)(hw:W32 g):AC prog 294 [.st [uv t,uv g]] (.bool (Bf t g)):=by
 have e:IntKind.u32.wrap (countB g)=countB g:=by have:=Ee hw;exact u32_in
 refine sZ func294 ntmps294 ?_
 (refine af1 (kX2 @e @Bf.eq_1) ?_;intros;apply wr)
 repeat' ((first|(refine AB rfl (fun h=>?_) (fun h=>?_)<;>(first|(simp[e,Bf]at h;done)|(simp[e,Bf]at h)|skip)<;>(first|(exfalso;omega)|skip))|refine cc1 (MH t g hw) (kX2 @e @Bf.eq_1) ?_|(refine AD 7 [0,1,3,0,8,31,63] [(5,([[],[0],[0,1],[],[3]],[(4,1)])),(1,([],[])),(1,([],[]))] ?_)|exact rt1 (kX2 @e @Bf.eq_1)|fail)<;>(refine af1 (kX2 @e @Bf.eq_1) ?_;intros;apply wr))
theorem WQ(t g p:Int)(hw:W32 g):AC prog 245 [.st [uv t,uv g],iv p] (uv (MG t g p)):=by
 have e:IntKind.u32.wrap (countB g)=countB g:=by have:=Ee hw;exact u32_in
 refine sZ func245 ntmps245 ?_;exact wx1 (qX1 (MH t g hw)) trivial (kX2 @e @MG.eq_1)
end Go.Proofs.YtjkmhmepljamoaaGreat
end
