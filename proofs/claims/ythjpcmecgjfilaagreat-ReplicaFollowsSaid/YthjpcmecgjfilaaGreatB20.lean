/- A part of the proof of ReplicaFollows. -/
import Derived.Test.YthjpcmecgjfilaaGreatB11
import Derived.Test.YthjpcmecgjfilaaGreatB14
import Derived.Test.YthjpcmecgjfilaaGreatB15
import Derived.Test.YthjpcmecgjfilaaGreatB19
import Derived.Shelf.Strings.Repeat
set_option linter.unusedSimpArgs false
set_option linter.unusedVariables false
set_option maxHeartbeats 16000000
set_option maxRecDepth 100000
section
namespace Go.Proofs.YthjpcmecgjfilaaGreat
open Go.Ab Go.RowKit Tryz
theorem u8_of (w:Int):((UInt8.ofNat (w % 256).toNat).toNat:Int)=IntKind.u8.wrap w:=by rw [UInt8.toNat_ofNat',IntKind.wrap_u8];omega
theorem zOE (w:Int):zAN (zB3 w)=[[.int .u8 (IntKind.u8.wrap w)],[.int .u8 (IntKind.u8.wrap (w / 256))],[.int .u8 (IntKind.u8.wrap (w / 65536))],[.int .u8 (IntKind.u8.wrap (w / 16777216))]]:=by
 simp only [zAN,zB3,zWb,List.map_nil,u8_of]
@[simp] theorem bytesX_nil:zAN []=[]:=rfl
@[simp] theorem putW_zero (l:List Int) (o:Nat) (s:Str):putW l o s 0=l:=rfl
theorem zNQ (a b:Str):zAN (a++b)=zAN a++zAN b:=by simp [zAN]
theorem zJ0 (l:List Int):(l.flatMap zB3).length=4*l.length:=by
 induction l with
 | nil=>rfl
 | cons a r ih=>rw [List.flatMap_cons,zWL,ih];simp [zB3];omega
theorem zNa (x:Int):x.fdiv 256=x / 256:=zWQ _ (by decide)
theorem zFR (x:Int):x.fdiv 65536=x / 65536:=zWQ _ (by decide)
theorem zB5 (x:Int):x.fdiv 16777216=x / 16777216:=zWQ _ (by decide)
theorem zV0 (l:List Int) (hb:l.length<=1024):zAD prog 288 [memV l] (.str (l.flatMap zB3)):=by
 have e3:=zAM .u32 l;have w1:IntKind.i64.wrap (4*(l.length:Int))=4*l.length:=zAA (by omega) (by omega)
 have hb0:zAN []=[]:=rfl;refine sY func288 ntmps288 (kX3 @e3 @w1 @maxLen.eq_1) ?_;intros;apply wr;obtain ⟨I,hI⟩:∃ I:Nat->St->Prop,I=(fun kk ss=>∃ (i:Nat) (x:Str),i<=l.length/\kk=l.length-i/\(x=(l.take i).flatMap zB3/\x.length=4*i)/\ss=⟨33,[(12,.int .i64 i),(11,.int .i64 l.length),(10,memV l),(3,.own 0)],1,[(0,some ⟨5,1,false,false,zAN x⟩)],0⟩):=⟨_,rfl⟩
 refine lX I (id) (by rw [hI];exact ⟨0,[],by simp,rfl,⟨by simp,rfl⟩,rfl⟩) ?_
 intro kk ss hIk _
 rw [hI] at hIk;obtain ⟨i,x,hi,rfl,hx,rfl⟩:=hIk;obtain ⟨hx1,hx2⟩:=hx;refine au ?_;intros;apply wr;refine zAC rfl (fun hh=>?_) (fun hh=>?_)
 ·simp at hh;obtain ⟨w,hw⟩:∃ w,l[i]? =some w:=⟨_,zWH hh⟩;have hget:=zBp (k:=.u32) hw;have hnx:(l.take (i+1)).flatMap zB3=x++zB3 w:=by
   rw [List.take_add_one,hw,List.flatMap_append,<- hx1];simp
  have hrow:zAN (x++zB3 w)=zAN x++[[.int .u8 (IntKind.u8.wrap w)],[.int .u8 (IntKind.u8.wrap (w / 256))],[.int .u8 (IntKind.u8.wrap (w / 65536))],[.int .u8 (IntKind.u8.wrap (w / 16777216))]]:=by rw [zNQ,zOE]
  have hbl:(zAN x).length=4*i:=by simp [zAN,hx2]
  refine au1 (kX7 @hget @hbl @zNa @zFR @zB5 @e3 @maxLen.eq_1) ?_;intros;apply wr;exact aX (fun x=>if x=0 then 2 else x) (by rw [hI];exact ⟨i+1,(x++zB3 w),by omega,rfl,⟨hnx.symm,by rw [zWL,hx2];rfl⟩,rfl⟩) (kX2 (zAA (n:=(i:Int)+1) (by omega) (by omega)) @hrow)
 simp at hh;have hi:l.take i=l:=List.take_of_length_le (by omega)
 rw [hi] at hx1;refine au1 (zDz x) ?_;intros;apply wr;refine zAB ?_;simp [hx1,zD0]
theorem zFT (l:List Int) (f:Int):zAD prog 287 [memV l,iv f] (.bool (decide (0<=f)&&decide (f<pagesD l))):=by
 refine sZ func287 ntmps287 ?_;exact wx (qX1 (zBv l)) trivial
theorem zU3 (l:List Int) (a b:Nat):((ints .u32 l).take a).drop b=ints .u32 ((l.take a).drop b):=by simp [ints,List.map_take,List.map_drop]
theorem zGO {l:List Int} {f:Int} (h0:0<=f) (h1:f<pagesD l):((l.take (f*32+32).toNat).drop (f*32).toNat).length=32:=by
 have:=zB6 (l:=l) (by omega)
 simp only [zWT,zWS];omega
theorem zLT (l:List Int) (f:Int) (h0:0<=f) (h1:f<pagesD l):zAD prog 231 [memV l,iv f] (.tup [.str (zBb l f),.bool true]):=by
 have hp:=zAc l;have hl:=zB6 (l:=l) (by omega)
 have e3:=zAM .u32 l;have hh:=zFT l f;rw [show (decide (0<=f)&&decide (f<pagesD l))=true by simp [h0,h1]] at hh
 have w1:IntKind.i64.wrap (f*32)=f*32:=zAA (by omega) (by omega)
 have w2:IntKind.i64.wrap (f*32+32)=f*32+32:=zAA (by omega) (by omega)
 have ht:=zV0 ((l.take (f*32+32).toNat).drop (f*32).toNat) (by rw [zGO h0 h1];omega)
 refine sZ func231 ntmps231 ?_;exact wx1 (qX2 (hh) (ht)) trivial (kX5 @e3 @w1 @w2 @zU3 @zBb.eq_1)
theorem zIk (a b:Int):ior .u32 a b=ior .u32 b a:=by unfold ior;rw [BitVec.or_comm]
theorem or4 (a b c d:UInt8):ior .u32 (ior .u32 (ior .u32 (a.toNat:Int) ((b.toNat:Int)*256)) ((c.toNat:Int)*65536)) ((d.toNat:Int)*16777216)=(a.toNat:Int)+b.toNat*256+c.toNat*65536+d.toNat*16777216:=by
 have:=a.toNat_lt;have:=b.toNat_lt;have:=c.toNat_lt;have:=d.toNat_lt;have q1:ior .u32 (a.toNat:Int) ((b.toNat:Int)*256)=(b.toNat:Int)*256+a.toNat:=by
  rw [zIk];exact zLR _ _ 8 (by omega) (by omega) (by omega) (by omega) (by omega) (by omega)
 have q2:ior .u32 ((b.toNat:Int)*256+a.toNat) ((c.toNat:Int)*65536)=(c.toNat:Int)*65536+((b.toNat:Int)*256+a.toNat):=by
  rw [zIk];exact zLR _ _ 16 (by omega) (by omega) (by omega) (by omega) (by omega) (by omega)
 have q3:ior .u32 ((c.toNat:Int)*65536+((b.toNat:Int)*256+a.toNat)) ((d.toNat:Int)*16777216)=(d.toNat:Int)*16777216+((c.toNat:Int)*65536+((b.toNat:Int)*256+a.toNat)):=by
  rw [zIk];exact zLR _ _ 24 (by omega) (by omega) (by omega) (by omega) (by omega) (by omega)
 rw [q1,q2,q3];omega
theorem zTs (a:UInt8):IntKind.u32.wrap (a.toNat:Int)=a.toNat:=by have:=a.toNat_lt;rw [IntKind.wrap_u32];omega
theorem zV5 (a:UInt8):IntKind.u32.wrap ((a.toNat:Int)*256)=(a.toNat:Int)*256:=by have:=a.toNat_lt;rw [IntKind.wrap_u32];omega
theorem zV6 (a:UInt8):IntKind.u32.wrap ((a.toNat:Int)*65536)=(a.toNat:Int)*65536:=by have:=a.toNat_lt;rw [IntKind.wrap_u32];omega
theorem zV7 (a:UInt8):IntKind.u32.wrap ((a.toNat:Int)*16777216)=(a.toNat:Int)*16777216:=by have:=a.toNat_lt;rw [IntKind.wrap_u32];omega
theorem zGQ (l:List Int) (o:Nat) (s:Str) (n:Nat):(putW l o s n).length=l.length:=by
 induction n with
 | zero=>rfl
 | succ n ih=>rw [putW,List.length_set,ih]
theorem zFg (l:List Int) (f:Int) (s:Str) (h0:0<=f) (h1:f<pagesD l) (hs:s.length=128):zAD prog 229 [memV l,iv f,.str s] (.tup [memV (zBO l f s),.bool true]):=by
 have hp:=zAc l;have hl:=zB6 (l:=l) (by omega)
 have e3:=zAM .u32 l;have hh:=zFT l f;rw [show (decide (0<=f)&&decide (f<pagesD l))=true by simp [h0,h1]] at hh
 have w1:IntKind.i64.wrap (f*32)=f*32:=zAA (by omega) (by omega)
 have hcl:=zCD (ints .u32 l) false 1 (.inl rfl) (by rw [e3];omega)
 refine sX func229 ntmps229 ?_;intros;apply wr;refine cn (hcl) ?_;refine au ?_;intros;apply wr;refine cZ (hh) @hs @hs ?_;intros;apply wr;refine gF11 @hs rfl @w1 ?_;intros;apply wr;obtain ⟨I,hI⟩:∃ I:Nat->St->Prop,I=(fun kk ss=>∃ (i:Nat) ,i<=32/\kk=32-i/\(True)/\ss=⟨61,[(26,.int .i64 i),(2,.str s),(8,.own 0),(9,.int .i64 (f*32))],1,[(0,some ⟨25,1,false,false,ints .u32 (putW l (f*32).toNat s i)⟩)],0⟩):=⟨_,rfl⟩
 refine lX I (id) (by rw [hI];exact ⟨0,by simp,rfl,trivial,rfl⟩) ?_
 intro kk ss hIk _
 rw [hI] at hIk;obtain ⟨i,hi,rfl,hx,rfl⟩:=hIk;refine au ?_;intros;apply wr;refine zAC rfl (fun hi=>?_) (fun hi=>?_)
 ·simp at hi;have g1:IntKind.i64.wrap (4*(i:Int))=4*i:=zAA (by omega) (by omega)
  have g2:IntKind.i64.wrap (4*(i:Int)+4)=4*i+4:=zAA (by omega) (by omega)
  have g3:(4*(i:Int)).toNat=4*i:=by omega
  have g4:(4*(i:Int)+4).toNat=4*i+4:=by omega
  have g5:IntKind.i64.wrap (f*32+i)=f*32+i:=zAA (by omega) (by omega)
  have g6:(f*32+(i:Int)).toNat=(f*32).toNat+i:=by omega
  obtain ⟨a,b,c,d,hq⟩:∃ a b c d,(s.take (4*i+4)).drop (4*i)=[a,b,c,d]:=by
   have hlen:((s.take (4*i+4)).drop (4*i)).length=4:=by simp;omega
   match (s.take (4*i+4)).drop (4*i),hlen with
   | [a,b,c,d],_=>exact ⟨a,b,c,d,rfl⟩
  have hk:∀ k,k<4->s.getD (4*i+k) 0=[a,b,c,d].getD k 0:=fun k hk=>by
   rw [<- hq,zWF,zWF,zWf,zWY,if_pos (by omega)]
  have hw4:zDZ s i=(a.toNat:Int)+b.toNat*256+c.toNat*65536+d.toNat*16777216:=by
   unfold zDZ;rw [show s.getD (4*i) 0=a from hk 0 (by omega),hk 1 (by omega),hk 2 (by omega),hk 3 (by omega)]
   rfl
  have hpl:=zGQ l (f*32).toNat s i;have hpl':=zAM .u32 (putW l (f*32).toNat s i);obtain ⟨w0,hw0⟩:∃ w0,(putW l (f*32).toNat s i)[(f*32).toNat+i]? =some w0:=⟨_,zWH (by omega)⟩
  have hw1:=zBp (k:=.u32) hw0;have hset:=ints_set .u32 (putW l (f*32).toNat s i) ((f*32).toNat+i) (zDZ s i);rw [show (putW l (f*32).toNat s i).set ((f*32).toNat+i) (zDZ s i)=putW l (f*32).toNat s (i+1) from rfl,hw4] at hset
  have hor:=or4 a b c d;refine au1 (kX6 @g1 @g2 @g3 @g4 @hs @hq) ?_;intros;apply wr;refine zAG 24 [0,0,0,6,0,16,48,0,128,384,896,2032,0,4096,12288,28672,65520,0,131072,393216,917504,2097136,4194303,8388607] [(22,([[],[],[],[1,2],[],[4],[4,5],[],[7],[7,8],[7,8,9],[4,5,6,7,8,9,10],[],[12],[12,13],[12,13,14],[4,5,6,7,8,9,10,11,12,13,14,15],[],[17],[17,18],[17,18,19],[4,5,6,7,8,9,10,11,12,13,14,15,16,17,18,19,20]],[])),(1,([],[])),(1,([],[]))] ?_;refine af1 (kX11 @g5 @g6 @hpl @hpl' @hor @zTs @zV5 @zV6 @zV7 @hw1 @hset) ?_;intros;apply wr;refine af ?_;intros;apply wr;exact aX (id) (by rw [hI];exact ⟨i+1,by omega,rfl,trivial,rfl⟩) (kX3 (zAA (n:=(i:Int)+1) (by omega) (by omega)) @hw1 @hset)
 simp at hi;refine af ?_;intros;apply wr;refine zAI ?_;refine zAB ?_;simp;have e:i=32:=by omega
 subst e;rfl
theorem zGX {C D E G:Prop} (c:C) (d:D) (e:E) (t:C->D->E->G:=by intro c d e;(refine af1 e ?_;intros;apply wr);repeat' ((first|(refine zAC rfl (fun h=>?_) (fun h=>?_)<;>(first|(simp [e] at h;done)|(simp [e] at h)|skip)<;>(first|(exfalso;omega)|skip))|((first|refine .inl ⟨1,_,d.1,?_⟩|refine ⟨1,_,d.1,?_⟩);simp [aftC,aftE,noX,noXc,noX1,e];first|refine And.intro zAO ?_|skip)|((first|refine .inl ⟨1,_,d.2.1,?_⟩|refine ⟨1,_,d.2.1,?_⟩);simp [aftC,aftE,noX,noXc,noX1,e];first|refine And.intro zAO ?_|skip)|refine cc1 c.1 e ?_|refine cc1 c.2.1 e ?_|refine cc1 c.2.2.1 e ?_|refine cc1 c.2.2.2.1 e ?_|refine cc1 c.2.2.2.2.1 e ?_|refine cc1 c.2.2.2.2.2.1 e ?_|(refine zAG 7 [0,0,2,6,14,1,63] [(6,([[],[],[1],[1,2],[1,2,3],[0]],[(2,5),(3,5),(4,5)])),(1,([],[]))] ?_)|exact rt1 e|fail)<;>(refine af1 e ?_;intros;apply wr))):G:=t c d e
theorem zNU (s:Str):zAD prog 290 [.st [.str s]] (.bool (!decide (s=[]))):=by
 refine sZ func290 ntmps290 ?_;exact wx trivial trivial
theorem zV4 (s:Str) (n:Int) (h0:0<=n) (h1:n<=255):zAD prog 174 [.st [.str s],.int .u8 n] (.tup [.st [.str (zDv s (UInt8.ofNat n.toNat)).1],.bool (zDv s (UInt8.ofNat n.toNat)).2]):=by
 have hb:zBq [.int .u8 n]:=⟨UInt8.ofNat n.toNat,by simp;omega⟩
 refine sZ func174 ntmps174 ?_;exact wx1 trivial trivial (kX4 @zDv.eq_1 @maxLen.eq_1 @hb @zDF.eq_1)
theorem zRV (s:Str) (p:Int) (hl:s.length<=1000):zAD prog 241 [.st [.str s],iv p] (.tup [.st [.str (zHZ s p).1],uv (zHZ s p).2]):=by
 by_cases h0:p=0
 ·subst h0;cases s with
  | nil =>
   refine sX func241 ntmps241 ?_;intros;apply wr;have k:keyH []=4294967295:=rfl;exact zGX trivial trivial (kX2 @zHZ.eq_1 @k)
  | cons b r =>
   have w:=zTs b;have k:keyH (b::r)=b.toNat:=rfl;have hr:((r.length:Int)+1).toNat=r.length+1:=by omega
   refine sZ func241 ntmps241 ?_;exact zGX trivial trivial (kX4 @w @hr @zHZ.eq_1 @k)
 by_cases h1:p=1
 ·subst h1;have w:IntKind.u32.wrap (s.length:Int)=s.length:=u32_in (by omega) (by omega)
  refine sZ func241 ntmps241 ?_;exact zGX trivial trivial (kX2 @w @zHZ.eq_1)
 refine sZ func241 ntmps241 ?_;exact zGX trivial trivial (kX3 @h0 @h1 @zHZ.eq_1)
theorem arm_ok (t:TimD) (v:Int):zAD prog 246 [.st t.row,uv v] (.st (armD v).row):=by
 refine sZ func246 ntmps246 ?_;exact wx1 trivial trivial @armD.eq_1
theorem zUr (t:TimD):zAD prog 173 [.st t.row] (.tup [.st (zDe t).1.row,.bool (zDe t).2]):=by
 refine sZ func173 ntmps173 ?_;exact wx1 trivial trivial @zDe.eq_1
theorem zS0 (t:TimD):zAD prog 242 [.st t.row] (uv (zV1 t)):=by
 refine sZ func242 ntmps242 ?_;exact wx1 trivial trivial (kX2 @zV1.eq_1 @b2w.eq_1)
theorem zOB (t:TimD):zAD prog 289 [.st t.row] (.bool t.fired):=by
 refine sZ func289 ntmps289 ?_;exact wx trivial trivial
theorem zRZ (d:DskD) (p:Int):zAD prog 243 [.st d.row,iv p] (uv (zRY d p)):=by
 refine sZ func243 ntmps243 ?_;exact wx1 trivial trivial @zRY.eq_1
theorem zH1 (d:DskD):zAD prog 291 [.st d.row] (.bool (zBm d)):=by
 refine sZ func291 ntmps291 ?_;exact wx1 trivial trivial @zBm.eq_1
theorem zIK (d:DskD) (k:Int):zAD prog 46 [.st d.row,lv k] (.tup [.st (zB9 d k).1.row,.bool (zB9 d k).2]):=by
 refine sZ func46 ntmps46 ?_;exact wx1 trivial trivial @zB9.eq_1
theorem zR6 (n:NicD) (p:Int):zAD prog 244 [.st n.row,iv p] (uv (zR5 n p)):=by
 refine sZ func244 ntmps244 ?_;exact wx1 trivial trivial (kX3 @zR5.eq_1 @b2w.eq_1 @u32c)
theorem zNr (n:NicD):zAD prog 292 [.st n.row] (.bool n.received):=by
 refine sZ func292 ntmps292 ?_;exact wx trivial trivial
theorem zCb (l:List Int) (f:Int) (h:W32 f):zAD prog 228 [memV l,uv f] (.bool (decide (f<pagesD l))):=by
 have e1:IntKind.u64.wrap f=f:=u64_in h.1 (by have:=h.2;omega)
 have e2:IntKind.u64.wrap (pagesD l)=pagesD l:=u64_in (zAc l).1 (by have:=zAc l;omega)
 refine sZ func228 ntmps228 ?_;exact wx1 (qX1 (zBv l)) trivial (kX2 @e1 @e2)
theorem zC6 (l:List Int) (f:Int) (h:W32 f):zAD prog 230 [memV l,uv f] (.bool (decide (f<pagesD l))):=by
 have e1:IntKind.u64.wrap f=f:=u64_in h.1 (by have:=h.2;omega)
 have e2:IntKind.u64.wrap (pagesD l)=pagesD l:=u64_in (zAc l).1 (by have:=zAc l;omega)
 refine sZ func230 ntmps230 ?_;exact wx1 (qX1 (zBv l)) trivial (kX2 @e1 @e2)
theorem zFE {C D E G:Prop} (c:C) (d:D) (e:E) (t:C->D->E->G:=by intro c d e;(refine af1 e ?_;intros;apply wr);repeat' ((first|(refine zAC rfl (fun h=>?_) (fun h=>?_)<;>(first|(simp [e] at h;done)|(simp [e] at h)|skip)<;>(first|(exfalso;omega)|skip))|((first|refine .inl ⟨1,_,d.1,?_⟩|refine ⟨1,_,d.1,?_⟩);simp [aftC,aftE,noX,noXc,noX1,e];first|refine And.intro zAO ?_|skip)|((first|refine .inl ⟨1,_,d.2.1,?_⟩|refine ⟨1,_,d.2.1,?_⟩);simp [aftC,aftE,noX,noXc,noX1,e];first|refine And.intro zAO ?_|skip)|refine cc1 c.1 e ?_|refine cc1 c.2.1 e ?_|refine cc1 c.2.2.1 e ?_|refine cc1 c.2.2.2.1 e ?_|refine cc1 c.2.2.2.2.1 e ?_|refine cc1 c.2.2.2.2.2.1 e ?_|(refine zBX (.node 2 3 (.leaf [0,1,2,3,4] (bN [0,0,2,7,15]) [(3,([[],[],[1]],[(0,2)])),(1,([],[])),(1,([],[]))]) (.leaf [0,1,3,2,4] (bN [0,0,1,7,15]) [(3,([[],[],[0]],[(1,2)])),(1,([],[])),(1,([],[]))])) (by kernel_rfl) (by kernel_rfl) ?_;simp only [PT.run];repeat' (with_reducible apply And.intro);all_goals (simp only [zB0,zWb,List.map_nil,zWV,zWk]))|exact rt1 e|fail)<;>(refine af1 e ?_;intros;apply wr))):G:=t c d e
theorem zCB {C D E G:Prop} (c:C) (d:D) (e:E) (t:C->D->E->G:=by intro c d e;(refine af1 e ?_;intros;apply wr);repeat' ((first|(refine zAC rfl (fun h=>?_) (fun h=>?_)<;>(first|(simp [e] at h;done)|(simp [e] at h)|skip)<;>(first|(exfalso;omega)|skip))|((first|refine .inl ⟨1,_,d.1,?_⟩|refine ⟨1,_,d.1,?_⟩);simp [aftC,aftE,noX,noXc,noX1,e];first|refine And.intro zAO ?_|skip)|((first|refine .inl ⟨1,_,d.2.1,?_⟩|refine ⟨1,_,d.2.1,?_⟩);simp [aftC,aftE,noX,noXc,noX1,e];first|refine And.intro zAO ?_|skip)|refine cc1 c.1 e ?_|refine cc1 c.2.1 e ?_|refine cc1 c.2.2.1 e ?_|refine cc1 c.2.2.2.1 e ?_|refine cc1 c.2.2.2.2.1 e ?_|refine cc1 c.2.2.2.2.2.1 e ?_|(refine zAG 6 [0,0,2,7,15,31] [(3,([[],[],[1]],[(0,2)])),(1,([],[])),(1,([],[])),(1,([],[]))] ?_)|exact rt1 e|fail)<;>(refine af1 e ?_;intros;apply wr))):G:=t c d e
theorem zFD {C D E G:Prop} (c:C) (d:D) (e:E) (t:C->D->E->G:=by intro c d e;(refine af1 e ?_;intros;apply wr);repeat' ((first|(refine zAC rfl (fun h=>?_) (fun h=>?_)<;>(first|(simp [e] at h;done)|(simp [e] at h)|skip)<;>(first|(exfalso;omega)|skip))|((first|refine .inl ⟨1,_,d.1,?_⟩|refine ⟨1,_,d.1,?_⟩);simp [aftC,aftE,noX,noXc,noX1,e];first|refine And.intro zAO ?_|skip)|((first|refine .inl ⟨1,_,d.2.1,?_⟩|refine ⟨1,_,d.2.1,?_⟩);simp [aftC,aftE,noX,noXc,noX1,e];first|refine And.intro zAO ?_|skip)|refine cc1 c.1 e ?_|refine cc1 c.2.1 e ?_|refine cc1 c.2.2.1 e ?_|refine cc1 c.2.2.2.1 e ?_|refine cc1 c.2.2.2.2.1 e ?_|refine cc1 c.2.2.2.2.2.1 e ?_|(refine zAG 7 [0,0,0,0,14,31,63] [(5,([[],[],[],[],[1,2,3]],[(0,4)])),(1,([],[])),(1,([],[]))] ?_)|exact rt1 e|fail)<;>(refine af1 e ?_;intros;apply wr))):G:=t c d e
theorem zFC {C D E G:Prop} (c:C) (d:D) (e:E) (t:C->D->E->G:=by intro c d e;(refine af1 e ?_;intros;apply wr);repeat' ((first|(refine zAC rfl (fun h=>?_) (fun h=>?_)<;>(first|(simp [e] at h;done)|(simp [e] at h)|skip)<;>(first|(exfalso;omega)|skip))|((first|refine .inl ⟨1,_,d.1,?_⟩|refine ⟨1,_,d.1,?_⟩);simp [aftC,aftE,noX,noXc,noX1,e];first|refine And.intro zAO ?_|skip)|((first|refine .inl ⟨1,_,d.2.1,?_⟩|refine ⟨1,_,d.2.1,?_⟩);simp [aftC,aftE,noX,noXc,noX1,e];first|refine And.intro zAO ?_|skip)|refine cc1 c.1 e ?_|refine cc1 c.2.1 e ?_|refine cc1 c.2.2.1 e ?_|refine cc1 c.2.2.2.1 e ?_|refine cc1 c.2.2.2.2.1 e ?_|refine cc1 c.2.2.2.2.2.1 e ?_|(refine zAG (rid:=2) 6 [0,0,2,7,15,31] [(3,([[],[],[1]],[(0,2)])),(1,([],[])),(1,([],[])),(1,([],[]))] ?_)|(refine zAG (rid:=4) 16 [0,0,2,6,0,0,0,64,224,496,1023,2047,4095,4095,8191,32767] [(10,([[],[],[1],[1,2],[],[],[],[6],[5,6,7],[4,5,6,7,8]],[])),(1,([],[])),(1,([],[])),(3,([[],[],[0]],[])),(1,([],[]))] ?_)|exact rt1 e|fail)<;>(refine af1 e ?_;intros;apply wr))):G:=t c d e
abbrev zLS (l:List OutD):V:=.sl 4 false (outs l)
theorem zSE (o:OutD):outs [o]=[o.row]:=rfl
theorem zRv (d:DskD) (l:List Int) (k t:Int) (hf:W32 d.frame):zAD prog 309 [.st d.row,memV l,iv k,lv t] (.tup [.st (zBQ d l k t).1.row,zLS (zBQ d l k t).2]):=by
 have hp:=zAc l;by_cases h1:d.state=0
 ·by_cases h2:d.blocks<=d.block
  ·have hE:zBQ d l k t=({d with state:=3},[]):=by unfold zBQ;rw [if_neg (by omega),if_pos (.inl h2)]
   rw [hE];refine sZ func309 ntmps309 ?_;exact zFE trivial trivial (kX2 @h1 @h2)
  by_cases h3:d.frame<pagesD l
  ·have hE:zBQ d l k t=({d with state:=1,cmd:=k,opBlock:=d.block,opFrame:=d.frame,opData:=if k=2 then zBb l d.frame else []},
    [(zB9 {d with state:=1,cmd:=k,opBlock:=d.block,opFrame:=d.frame,opData:=if k=2 then zBb l d.frame else []} t).1]):=by
    unfold zBQ;rw [if_neg (by omega),if_neg (by omega)]
   rw [hE];have w1:IntKind.i64.wrap d.frame=d.frame:=zAA (by have:=hf.1;omega) (by omega)
   have hP:=zLT l d.frame hf.1 h3;by_cases hk:k=2
   ·have hr:=zIK {d with state:=1,cmd:=k,opBlock:=d.block,opFrame:=d.frame,opData:=zBb l d.frame} t
    simp only [hk,if_true] at hr ⊢;refine sZ func309 ntmps309 ?_;exact zFE (qX3 (zCb l d.frame hf) (hP) (hr)) trivial (kX6 @h1 @h2 @h3 @w1 @zSE @u32c)
   have hr:=zIK {d with state:=1,cmd:=k,opBlock:=d.block,opFrame:=d.frame,opData:=[]} t
   simp only [hk,if_false] at hr ⊢;refine sZ func309 ntmps309 ?_;exact zFE (qX2 (zCb l d.frame hf) (hr)) trivial (kX7 @h1 @h2 @h3 @hk @w1 @zSE @u32c)
  have hE:zBQ d l k t=({d with state:=3},[]):=by unfold zBQ;rw [if_neg (by omega),if_pos (.inr (by omega))]
  rw [hE];refine sZ func309 ntmps309 ?_;exact zFE (qX1 (zCb l d.frame hf)) trivial (kX3 @h1 @h2 @h3)
 have hE:zBQ d l k t=(d,[]):=by unfold zBQ;rw [if_pos h1]
 rw [hE];refine sZ func309 ntmps309 ?_;exact zFE trivial trivial @h1
theorem zOp (d:DskD) (l:List Int) (p v t:Int) (hf:W32 d.frame) (hv:W32 v):zAD prog 247 [.st d.row,memV l,iv p,uv v,lv t] (.tup [.st (zBI d l p v t).1.row,zLS (zBI d l p v t).2]):=by
 have w1:IntKind.i64.wrap v=v:=zAA (by have:=hv.1;omega) (by have:=hv.2;omega)
 have hi:=zRv d l v t hf;by_cases h4:p=4
 ·subst h4;refine sZ func247 ntmps247 ?_;exact wx1 trivial trivial @zBI.eq_1
 by_cases h5:p=5
 ·subst h5;refine sZ func247 ntmps247 ?_;exact wx1 trivial trivial @zBI.eq_1
 by_cases h6:p=6
 ·subst h6;by_cases h1:v=1\/v=2
  ·have hE:zBI d l 6 v t=zBQ d l v t:=by simp [zBI,h1]
   rw [hE];generalize zBQ d l v t=R at *
   refine sZ func247 ntmps247 ?_;exact wx1 (qX1 (hi)) trivial @w1
  have n1:¬ v=1:=fun q=>h1 (.inl q)
  have n2:¬ v=2:=fun q=>h1 (.inr q)
  refine sZ func247 ntmps247 ?_;exact wx1 (qX1 (zH1 d)) trivial (kX3 @n1 @n2 @zBI.eq_1)
 refine sZ func247 ntmps247 ?_;exact wx1 trivial trivial (kX4 @h4 @h5 @h6 @zBI.eq_1)
theorem zLe (l:List Int) (f:Int) (s:Str) (h0:0<=f) (h1:f<pagesD l) (hs:¬ s.length=128):zAD prog 229 [memV l,iv f,.str s] (.tup [memV l,.bool false]):=by
 have hp:=zAc l;have hl:=zB6 (l:=l) (by omega)
 have hh:=zFT l f;rw [show (decide (0<=f)&&decide (f<pagesD l))=true by simp [h0,h1]] at hh
 have hs':¬ (s.length:Int)=128:=by omega
 refine sZ func229 ntmps229 ?_
 (refine af1 @hs' ?_;intros;apply wr)
 repeat' ((first|(refine zAC rfl (fun h=>?_) (fun h=>?_)<;>(first|(simp [hs'] at h;done)|(simp [hs'] at h)|skip)<;>(first|(exfalso;omega)|skip))|((first|refine .inl ⟨1,_,zCD (ints .u32 l) false 1 (.inl rfl) (by rw [zAM];omega),?_⟩|refine ⟨1,_,zCD (ints .u32 l) false 1 (.inl rfl) (by rw [zAM];omega),?_⟩);simp [aftC,aftE,noX,noXc,noX1,hs'];first|refine And.intro zAO ?_|skip)|refine cc1 (hh) @hs' ?_|(refine zAG 24 [0,0,0,6,0,16,48,0,128,384,896,2032,0,4096,12288,28672,65520,0,131072,393216,917504,2097136,4194303,8388607] [(22,([[],[],[],[1,2],[],[4],[4,5],[],[7],[7,8],[7,8,9],[4,5,6,7,8,9,10],[],[12],[12,13],[12,13,14],[4,5,6,7,8,9,10,11,12,13,14,15],[],[17],[17,18],[17,18,19],[4,5,6,7,8,9,10,11,12,13,14,15,16,17,18,19,20]],[])),(1,([],[])),(1,([],[]))] ?_)|exact rt1 @hs'|fail)<;>(refine af1 @hs' ?_;intros;apply wr))
theorem zK2 (d:DskD) (l:List Int) (e:EvD) (hf:W32 d.opFrame) (hn:W32 e.n) (hb:l.length<=100000) :
  zAD prog 175 [.st d.row,memV l,.st e.row] (.tup [.st (zAJ d l e).1.row,memV (zAJ d l e).2.1,.bool (zAJ d l e).2.2]):=by
 have hp:=zAc l;have hcl:=zCD (ints .u32 l) false 1 (.inl rfl) (by rw [zAM];exact hb)
 by_cases h1:d.state≠1\/e.kind≠4\/1<e.n
 ·have hE:zAJ d l e=(d,l,false):=by unfold zAJ;rw [if_pos h1]
  rw [hE];rcases h1 with h1|h1|h1
  ·refine sZ func175 ntmps175 ?_;exact zCB (qX1 (hcl)) trivial @h1
  ·refine sZ func175 ntmps175 ?_;exact zCB (qX1 (hcl)) trivial @h1
  refine sZ func175 ntmps175 ?_;exact zCB (qX1 (hcl)) trivial @h1
 have s1:d.state=1:=by omega
 have s2:e.kind=4:=by omega
 have s3:¬ 1<e.n:=by omega
 by_cases h2:e.n=1/\d.cmd=1
 ·obtain ⟨h2,h3⟩:=h2;by_cases h4:d.opFrame<pagesD l
  ·have w1:IntKind.i64.wrap d.opFrame=d.opFrame:=zAA (by have:=hf.1;omega) (by omega)
   by_cases h5:e.data.length=128
   ·have hE:zAJ d l e=(doneD d e.n,zBO l d.opFrame e.data,true):=by
     unfold zAJ;rw [if_neg h1,if_pos ⟨h2,h3⟩,if_pos ⟨h4,h5⟩]
    rw [hE];refine sZ func175 ntmps175 ?_;exact zCB (qX3 (hcl) (zCb l d.opFrame hf) (zFg l d.opFrame e.data hf.1 h4 h5)) trivial (kX7 @s1 @s2 @h2 @h3 @h4 @w1 @doneD.eq_1)
   have hE:zAJ d l e=(d,l,false):=by
    unfold zAJ;rw [if_neg h1,if_pos ⟨h2,h3⟩,if_neg (fun q=>h5 q.2)]
   rw [hE];refine sZ func175 ntmps175 ?_;exact zCB (qX3 (hcl) (zCb l d.opFrame hf) (zLe l d.opFrame e.data hf.1 h4 h5)) trivial (kX6 @s1 @s2 @h2 @h3 @h4 @w1)
  have hE:zAJ d l e=(d,l,false):=by
   unfold zAJ;rw [if_neg h1,if_pos ⟨h2,h3⟩,if_neg (fun q=>h4 q.1)]
  rw [hE];refine sZ func175 ntmps175 ?_;exact zCB (qX2 (hcl) (zCb l d.opFrame hf)) trivial (kX5 @s1 @s2 @h2 @h3 @h4)
 by_cases h6:e.data=[]
 ·have hE:zAJ d l e=(doneD d e.n,l,true):=by unfold zAJ;rw [if_neg h1,if_neg h2,if_pos h6]
  rw [hE];by_cases h7:e.n=1
  ·have h8:¬ d.cmd=1:=fun q=>h2 ⟨h7,q⟩
   refine sZ func175 ntmps175 ?_;exact zCB (qX1 (hcl)) trivial (kX6 @s1 @s2 @h6 @h7 @h8 @doneD.eq_1)
  refine sZ func175 ntmps175 ?_;exact zCB (qX1 (hcl)) trivial (kX6 @s1 @s2 @s3 @h6 @h7 @doneD.eq_1)
 have hE:zAJ d l e=(d,l,false):=by unfold zAJ;rw [if_neg h1,if_neg h2,if_neg h6]
 rw [hE];by_cases h7:e.n=1
 ·have h8:¬ d.cmd=1:=fun q=>h2 ⟨h7,q⟩
  refine sZ func175 ntmps175 ?_;exact zCB (qX1 (hcl)) trivial (kX5 @s1 @s2 @h6 @h7 @h8)
 refine sZ func175 ntmps175 ?_;exact zCB (qX1 (hcl)) trivial (kX5 @s1 @s2 @s3 @h6 @h7)
theorem zG5 {l:List Int} {f:Int} (h0:0<=f) (h1:f<pagesD l):(zBb l f).length=128:=by
 unfold zBb;rw [zJ0,zGO h0 h1]
def zF5 (n:NicD) (l:List Int) (t:Int):List OutD:=if 1<=n.len/\n.len<=128/\n.frame<pagesD l then [⟨2,t,0,(zBb l n.frame).take n.len.toNat⟩] else []
theorem zVl (n:NicD) (l:List Int) (t:Int) (hf:W32 n.frame) (hl:W32 n.len):zAD prog 310 [.st n.row,memV l,lv t] (zLS (zF5 n l t)):=by
 have hp:=zAc l;by_cases h1:n.len<1
 ·have hE:zF5 n l t=[]:=by unfold zF5;rw [if_neg (by omega)]
  rw [hE];refine sZ func310 ntmps310 ?_;exact wx1 trivial trivial @h1
 by_cases h2:128<n.len
 ·have hE:zF5 n l t=[]:=by unfold zF5;rw [if_neg (by omega)]
  rw [hE];refine sZ func310 ntmps310 ?_;exact wx1 trivial trivial (kX2 @h1 @h2)
 by_cases h3:n.frame<pagesD l
 ·have hE:zF5 n l t=[⟨2,t,0,(zBb l n.frame).take n.len.toNat⟩]:=by unfold zF5;rw [if_pos (by omega)]
  rw [hE];have w1:IntKind.i64.wrap n.frame=n.frame:=zAA (by have:=hf.1;omega) (by omega)
  have hL:=zG5 hf.1 h3;refine sZ func310 ntmps310 ?_;exact wx1 (qX2 (zC6 l n.frame hf) (zLT l n.frame hf.1 h3)) trivial (kX6 @h1 @h2 @h3 @w1 @hL @zSE)
 have hE:zF5 n l t=[]:=by unfold zF5;rw [if_neg (by omega)]
 rw [hE];refine sZ func310 ntmps310 ?_;exact wx1 (qX1 (zC6 l n.frame hf)) trivial (kX3 @h1 @h2 @h3)
theorem zPj (n:NicD) (l:List Int) (p v t:Int) (hf:W32 n.frame) (hl:W32 n.len):zAD prog 248 [.st n.row,memV l,iv p,uv v,lv t] (.tup [.st (zAb n l p v t).1.row,zLS (zAb n l p v t).2]):=by
 have hs:=zVl n l t hf hl;by_cases h7:p=7
 ·subst h7;refine sZ func248 ntmps248 ?_;exact zFD trivial trivial @zAb.eq_1
 by_cases h8:p=8
 ·subst h8;refine sZ func248 ntmps248 ?_;exact zFD trivial trivial @zAb.eq_1
 by_cases h9:p=9
 ·subst h9;by_cases h1:v=1
  ·subst h1;have hE:zAb n l 9 1 t=(n,zF5 n l t):=by simp [zAb,zF5]
   rw [hE];generalize zF5 n l t=R at *
   refine sZ func248 ntmps248 ?_
   (refine af ?_;intros;apply wr)
   repeat' ((first|(refine zAC rfl (fun h=>?_) (fun h=>?_)<;>(first|(simp at h;done)|(simp at h)|skip)<;>(first|(exfalso;omega)|skip))|refine cc (hs) ?_|(refine zAG 7 [0,0,0,0,14,31,63] [(5,([[],[],[],[],[1,2,3]],[(0,4)])),(1,([],[])),(1,([],[]))] ?_)|exact rt|fail)<;>(refine af ?_;intros;apply wr))
  by_cases h2:v=2
  ·subst h2;refine sZ func248 ntmps248 ?_;exact zFD (qX1 (zC6 l n.frame hf)) trivial @zAb.eq_1
  refine sZ func248 ntmps248 ?_;exact zFD trivial trivial (kX3 @h1 @h2 @zAb.eq_1)
 refine sZ func248 ntmps248 ?_;exact zFD trivial trivial (kX4 @h7 @h8 @h9 @zAb.eq_1)
theorem zNs (n:NicD) (l:List Int) (s:Str) (hf:W32 n.buffer) (hs:s.length<=100000) (hb:l.length<=100000) :
  zAD prog 176 [.st n.row,memV l,.str s] (.tup [.st (zAY n l s).1.row,memV (zAY n l s).2.1,.bool (zAY n l s).2.2]):=by
 have hp:=zAc l;have hcl:=zCD (ints .u32 l) false 1 (.inl rfl) (by rw [zAM];exact hb)
 by_cases h1:n.posted=true
 ·by_cases h2:s.length<1
  ·have hE:zAY n l s=(n,l,false):=by unfold zAY;rw [if_neg (by omega)]
   rw [hE];have h2':(s.length:Int)<1:=by omega
   refine sZ func176 ntmps176 ?_;exact zFC (qX1 (hcl)) trivial (kX2 @h1 @h2')
  have h2':¬ (s.length:Int)<1:=by omega
  by_cases h3:128<s.length
  ·have hE:zAY n l s=(n,l,false):=by unfold zAY;rw [if_neg (by omega)]
   rw [hE];have h3':128<(s.length:Int):=by omega
   refine sZ func176 ntmps176 ?_;exact zFC (qX1 (hcl)) trivial (kX3 @h1 @h2' @h3')
  have h3':¬ 128<(s.length:Int):=by omega
  by_cases h4:n.buffer<pagesD l
  ·have hE:zAY n l s=({n with posted:=false,buffer:=0,received:=true,got:=s.length},zBO l n.buffer (s++(zBb l n.buffer).drop s.length),true):=by
    unfold zAY;rw [if_pos ⟨h1,by omega,by omega,h4⟩]
   rw [hE];have w1:IntKind.i64.wrap n.buffer=n.buffer:=zAA (by have:=hf.1;omega) (by omega)
   have w2:IntKind.u32.wrap (s.length:Int)=s.length:=u32_in (by omega) (by omega)
   have hL:=zG5 hf.1 h4;have hT:(zBb l n.buffer).take 128=zBb l n.buffer:=List.take_of_length_le (by omega)
   have hS:=zFg l n.buffer (s++(zBb l n.buffer).drop s.length) hf.1 h4 (by simp [hL];omega)
   refine sZ func176 ntmps176 ?_;exact zFC (qX3 (zC6 l n.buffer hf) (zLT l n.buffer hf.1 h4) (hS)) trivial (kX9 @h1 @h2' @h3' @h4 @w1 @w2 @hL @hT @u32c)
  have hE:zAY n l s=(n,l,false):=by unfold zAY;rw [if_neg (by omega)]
  rw [hE];refine sZ func176 ntmps176 ?_;exact zFC (qX2 (hcl) (zC6 l n.buffer hf)) trivial (kX4 @h1 @h2' @h3' @h4)
 have hE:zAY n l s=(n,l,false):=by unfold zAY;rw [if_neg (fun q=>h1 q.1)]
 rw [hE];refine sZ func176 ntmps176 ?_;exact zFC (qX1 (hcl)) trivial @h1
def popB (x:Int):Int:=x % 2+x / 2 % 2+x / 4 % 2+x / 8 % 2+x / 16 % 2+x / 32 % 2+x / 64 % 2+x / 128 % 2
theorem popf:∀ k:Fin 256,(((([0,1,1,2,1,2,2,3,1,2,2,3,2,3,3,4,1,2,2,3,2,3,3,4,2,3,3,4,3,4,4,5,1,2,2,3,2,3,3,4,2,3,3,4,3,4,4,5,2,3,3,4,3,4,4,5,3,4,4,5,4,5,5,6,1,2,2,3,2,3,3,4,2,3,3,4,3,4,4,5,2,3,3,4,3,4,4,5,3,4,4,5,4,5,5,6,2,3,3,4,3,4,4,5,3,4,4,5,4,5,5,6,3,4,4,5,4,5,5,6,4,5,5,6,5,6,6,7,1,2,2,3,2,3,3,4,2,3,3,4,3,4,4,5,2,3,3,4,3,4,4,5,3,4,4,5,4,5,5,6,2,3,3,4,3,4,4,5,3,4,4,5,4,5,5,6,3,4,4,5,4,5,5,6,4,5,5,6,5,6,6,7,2,3,3,4,3,4,4,5,3,4,4,5,4,5,5,6,3,4,4,5,4,5,5,6,4,5,5,6,5,6,6,7,3,4,4,5,4,5,5,6,4,5,5,6,5,6,6,7,4,5,5,6,5,6,6,7,5,6,6,7,6,7,7,8]:List UInt8))[k.val]?.getD 0).toNat:Int)=popB (k.val:Int):=by decide +kernel
theorem zMh {x:Int} (h0:0<=x) (h1:x<256):(((([0,1,1,2,1,2,2,3,1,2,2,3,2,3,3,4,1,2,2,3,2,3,3,4,2,3,3,4,3,4,4,5,1,2,2,3,2,3,3,4,2,3,3,4,3,4,4,5,2,3,3,4,3,4,4,5,3,4,4,5,4,5,5,6,1,2,2,3,2,3,3,4,2,3,3,4,3,4,4,5,2,3,3,4,3,4,4,5,3,4,4,5,4,5,5,6,2,3,3,4,3,4,4,5,3,4,4,5,4,5,5,6,3,4,4,5,4,5,5,6,4,5,5,6,5,6,6,7,1,2,2,3,2,3,3,4,2,3,3,4,3,4,4,5,2,3,3,4,3,4,4,5,3,4,4,5,4,5,5,6,2,3,3,4,3,4,4,5,3,4,4,5,4,5,5,6,3,4,4,5,4,5,5,6,4,5,5,6,5,6,6,7,2,3,3,4,3,4,4,5,3,4,4,5,4,5,5,6,3,4,4,5,4,5,5,6,4,5,5,6,5,6,6,7,3,4,4,5,4,5,5,6,4,5,5,6,5,6,6,7,4,5,5,6,5,6,6,7,5,6,6,7,6,7,7,8]:List UInt8))[x.toNat]?.getD 0).toNat:Int)=popB x:=by
 have h:=popf ⟨x.toNat,by omega⟩
 rwa [show ((⟨x.toNat,by omega⟩:Fin 256).val:Int)=x by simp;omega] at h
theorem zFw (x:Int):0<=popB x/\popB x<=8:=by unfold popB;omega
theorem pb0 (g:Int):g % 256 % 2=g % 2:=by omega
theorem pb1 (g:Int):g % 256 / 2 % 2=g / 2 % 2:=by omega
theorem pb2 (g:Int):g % 256 / 4 % 2=g / 4 % 2:=by omega
theorem pb3 (g:Int):g % 256 / 8 % 2=g / 8 % 2:=by omega
theorem pb4 (g:Int):g % 256 / 16 % 2=g / 16 % 2:=by omega
theorem pb5 (g:Int):g % 256 / 32 % 2=g / 32 % 2:=by omega
theorem pb6 (g:Int):g % 256 / 64 % 2=g / 64 % 2:=by omega
theorem pb7 (g:Int):g % 256 / 128 % 2=g / 128 % 2:=by omega
theorem pb9 (g:Int):g / 256 / 2 % 2=g / 512 % 2:=by omega
theorem pb10 (g:Int):g / 256 / 4 % 2=g / 1024 % 2:=by omega
theorem pb11 (g:Int):g / 256 / 8 % 2=g / 2048 % 2:=by omega
theorem pb12 (g:Int):g / 256 / 16 % 2=g / 4096 % 2:=by omega
theorem pb13 (g:Int):g / 256 / 32 % 2=g / 8192 % 2:=by omega
theorem pb14 (g:Int):g / 256 / 64 % 2=g / 16384 % 2:=by omega
theorem pb15 (g:Int):g / 256 / 128 % 2=g / 32768 % 2:=by omega
theorem pb17 (g:Int):g / 65536 / 2 % 2=g / 131072 % 2:=by omega
theorem pb18 (g:Int):g / 65536 / 4 % 2=g / 262144 % 2:=by omega
theorem pb19 (g:Int):g / 65536 / 8 % 2=g / 524288 % 2:=by omega
theorem pb20 (g:Int):g / 65536 / 16 % 2=g / 1048576 % 2:=by omega
theorem pb21 (g:Int):g / 65536 / 32 % 2=g / 2097152 % 2:=by omega
theorem pb22 (g:Int):g / 65536 / 64 % 2=g / 4194304 % 2:=by omega
theorem pb23 (g:Int):g / 65536 / 128 % 2=g / 8388608 % 2:=by omega
theorem pb25 (g:Int):g / 16777216 / 2 % 2=g / 33554432 % 2:=by omega
theorem pb26 (g:Int):g / 16777216 / 4 % 2=g / 67108864 % 2:=by omega
theorem pb27 (g:Int):g / 16777216 / 8 % 2=g / 134217728 % 2:=by omega
theorem pb28 (g:Int):g / 16777216 / 16 % 2=g / 268435456 % 2:=by omega
theorem pb29 (g:Int):g / 16777216 / 32 % 2=g / 536870912 % 2:=by omega
theorem pb30 (g:Int):g / 16777216 / 64 % 2=g / 1073741824 % 2:=by omega
theorem pb31 (g:Int):g / 16777216 / 128 % 2=g / 2147483648 % 2:=by omega
theorem zJj {g:Int} (h:W32 g):popB (g / 16777216)+popB (g / 65536 % 256)+popB (g / 256 % 256)+popB (g % 256)=countB g:=by
 have e:countB g=g % 2+g / 2 % 2+g / 4 % 2+g / 8 % 2+g / 16 % 2+g / 32 % 2+g / 64 % 2+g / 128 % 2+g / 256 % 2+g / 512 % 2+g / 1024 % 2+g / 2048 % 2+g / 4096 % 2+g / 8192 % 2+g / 16384 % 2+g / 32768 % 2+g / 65536 % 2+g / 131072 % 2+g / 262144 % 2+g / 524288 % 2+g / 1048576 % 2+g / 2097152 % 2+g / 4194304 % 2+g / 8388608 % 2+g / 16777216 % 2+g / 33554432 % 2+g / 67108864 % 2+g / 134217728 % 2+g / 268435456 % 2+g / 536870912 % 2+g / 1073741824 % 2+g / 2147483648 % 2:=by simp [countB,List.range,List.range.loop]
 rw [e];unfold popB;simp only [pb0,pb1,pb2,pb3,pb4,pb5,pb6,pb7,pb9,pb10,pb11,pb12,pb13,pb14,pb15,pb17,pb18,pb19,pb20,pb21,pb22,pb23,pb25,pb26,pb27,pb28,pb29,pb30,pb31];clear e;generalize g % 2=x0;generalize g / 2 % 2=x1;generalize g / 4 % 2=x2;generalize g / 8 % 2=x3;generalize g / 16 % 2=x4;generalize g / 32 % 2=x5;generalize g / 64 % 2=x6;generalize g / 128 % 2=x7;generalize g / 256 % 2=x8;generalize g / 512 % 2=x9;generalize g / 1024 % 2=x10;generalize g / 2048 % 2=x11;generalize g / 4096 % 2=x12;generalize g / 8192 % 2=x13;generalize g / 16384 % 2=x14;generalize g / 32768 % 2=x15;generalize g / 65536 % 2=x16;generalize g / 131072 % 2=x17;generalize g / 262144 % 2=x18;generalize g / 524288 % 2=x19;generalize g / 1048576 % 2=x20;generalize g / 2097152 % 2=x21;generalize g / 4194304 % 2=x22;generalize g / 8388608 % 2=x23;generalize g / 16777216 % 2=x24;generalize g / 33554432 % 2=x25;generalize g / 67108864 % 2=x26;generalize g / 134217728 % 2=x27;generalize g / 268435456 % 2=x28;generalize g / 536870912 % 2=x29;generalize g / 1073741824 % 2=x30;generalize g / 2147483648 % 2=x31;omega
theorem zD2 {g:Int} (h:W32 g):0<=countB g/\countB g<=32:=by
 rw [<- zJj h];have:=zFw (g / 16777216);have:=zFw (g / 65536 % 256);have:=zFw (g / 256 % 256);have:=zFw (g % 256);omega
theorem u8_in {n:Int} (h0:0<=n) (h1:n<256):IntKind.u8.wrap n=n:=by rw [IntKind.wrap_u8];omega
theorem zVG (g:Int) (h:W32 g):zAD prog 329 [uv g] (iv (countB g)):=by
 have h0:=h.1;have h1:=h.2;have q1:=zMh (x:=g / 16777216) (by omega) (by omega)
 have q2:=zMh (x:=g / 65536 % 256) (by omega) (by omega)
 have q3:=zMh (x:=g / 256 % 256) (by omega) (by omega)
 have q4:=zMh (x:=g % 256) (by omega) (by omega)
 have r1:=zFw (g / 16777216);have r2:=zFw (g / 65536 % 256);have r3:=zFw (g / 256 % 256);have r4:=zFw (g % 256);have e1:IntKind.u8.wrap (popB (g / 16777216)+popB (g / 65536 % 256))=popB (g / 16777216)+popB (g / 65536 % 256):=u8_in (by omega) (by omega)
 have e2:IntKind.u8.wrap (popB (g / 16777216)+popB (g / 65536 % 256)+popB (g / 256 % 256))=popB (g / 16777216)+popB (g / 65536 % 256)+popB (g / 256 % 256):=u8_in (by omega) (by omega)
 have e3:IntKind.u8.wrap (popB (g / 16777216)+popB (g / 65536 % 256)+popB (g / 256 % 256)+popB (g % 256))=countB g:=by rw [zJj h];have:=zD2 h;exact u8_in (by omega) (by omega)
 have e4:IntKind.i64.wrap (countB g)=countB g:=by have:=zD2 h;exact zAA (by omega) (by omega)
 refine sZ func329 ntmps329 ?_
 (refine af1 (kX12 @zNa @zFR @zB5 @zBo @q1 @q2 @q3 @q4 @e1 @e2 @e3 @e4) ?_;intros;apply wr)
 repeat' ((first|(refine zAC rfl (fun h=>?_) (fun h=>?_)<;>(first|(simp [zNa,zFR,zB5,zBo,q1,q2,q3,q4,e1,e2,e3,e4] at h;done)|(simp [zNa,zFR,zB5,zBo,q1,q2,q3,q4,e1,e2,e3,e4] at h)|skip)<;>(first|(exfalso;omega)|skip))|(refine zAG 19 [0,1,3,0,8,24,56,127,0,256,768,1792,4095,0,8192,24576,65535,131071,262143] [(16,([[],[0],[0,1],[],[3],[3,4],[3,4,5],[0,1,2,3,4,5,6],[],[8],[8,9],[8,9,10],[0,1,2,3,4,5,6,7,8,9,10,11],[],[13],[13,14]],[])),(1,([],[])),(1,([],[])),(1,([],[]))] ?_)|exact rt1 (kX12 @zNa @zFR @zB5 @zBo @q1 @q2 @q3 @q4 @e1 @e2 @e3 @e4)|fail)<;>(refine af1 (kX12 @zNa @zFR @zB5 @zBo @q1 @q2 @q3 @q4 @e1 @e2 @e3 @e4) ?_;intros;apply wr))
theorem zJX (t g:Int) (hw:W32 g):zAD prog 308 [.st [uv t,uv g]] (iv (countB g)):=by
 refine sZ func308 ntmps308 ?_;exact wx (qX1 (zVG g hw)) trivial
theorem zNP (t g:Int) (hw:W32 g):zAD prog 293 [.st [uv t,uv g]] (.bool (zA9 t g)):=by
 have e:IntKind.u32.wrap (countB g)=countB g:=by have:=zD2 hw;exact u32_in (by omega) (by omega)
 refine sZ func293 ntmps293 ?_
 (refine af1 (kX2 @e @zA9.eq_1) ?_;intros;apply wr)
 repeat' ((first|(refine zAC rfl (fun h=>?_) (fun h=>?_)<;>(first|(simp [e,zA9] at h;done)|(simp [e,zA9] at h)|skip)<;>(first|(exfalso;omega)|skip))|refine cc1 (zJX t g hw) (kX2 @e @zA9.eq_1) ?_|(refine zAG 7 [0,1,3,0,8,31,63] [(5,([[],[0],[0,1],[],[3]],[(4,1)])),(1,([],[])),(1,([],[]))] ?_)|exact rt1 (kX2 @e @zA9.eq_1)|fail)<;>(refine af1 (kX2 @e @zA9.eq_1) ?_;intros;apply wr))
theorem zRJ (t g p:Int) (hw:W32 g):zAD prog 245 [.st [uv t,uv g],iv p] (uv (zRI t g p)):=by
 have e:IntKind.u32.wrap (countB g)=countB g:=by have:=zD2 hw;exact u32_in (by omega) (by omega)
 refine sZ func245 ntmps245 ?_;exact wx1 (qX1 (zJX t g hw)) trivial (kX2 @e @zRI.eq_1)
end Go.Proofs.YthjpcmecgjfilaaGreat
end
section
namespace Go.Proofs.YthjpcmecgjfilaaGreat
open Go.Ab Go.RowKit Tryz
open Go.Proofs (Any.strings_Repeat)
theorem zEK {C D E G:Prop} (c:C) (d:D) (e:E) (t:C->D->E->G:=by intro c d e;(refine af1 e ?_;intros;apply wr);repeat' ((first|(refine zAC rfl (fun h=>?_) (fun h=>?_)<;>(first|(simp [e] at h;done)|(simp [e] at h)|skip)<;>(first|(exfalso;omega)|skip))|((first|refine .inl ⟨1,_,d.1,?_⟩|refine ⟨1,_,d.1,?_⟩);simp [aftC,aftE,noX,noXc,noX1,e];first|refine And.intro zAO ?_|skip)|((first|refine .inl ⟨1,_,d.2.1,?_⟩|refine ⟨1,_,d.2.1,?_⟩);simp [aftC,aftE,noX,noXc,noX1,e];first|refine And.intro zAO ?_|skip)|refine cc1 c.1 e ?_|refine cc1 c.2.1 e ?_|refine cc1 c.2.2.1 e ?_|refine cc1 c.2.2.2.1 e ?_|refine cc1 c.2.2.2.2.1 e ?_|refine cc1 c.2.2.2.2.2.1 e ?_|(refine zAG (rid:=2) 5 [0,0,2,7,15] [(3,([[],[],[1]],[(0,2)])),(1,([],[])),(1,([],[]))] ?_)|(refine zAG (rid:=12) 5 [0,0,2,7,15] [(3,([[],[],[1]],[(0,2)])),(1,([],[])),(1,([],[]))] ?_)|exact rt1 e|fail)<;>(refine af1 e ?_;intros;apply wr))):G:=t c d e
theorem bldX:Builder.Extra prog repLays_ren:={sizeBuilder:=by kernel_rfl,liesBuilder:=by kernel_rfl,t5:=Tryz.underlying5,a5:=Tryz.isAgg5,z5:=Tryz.sizeOf5,v5:=Tryz.zeroValue5,infoByte:=by kernel_rfl,cellsByte:=by kernel_rfl,sizeByte:=by kernel_rfl,neB5:=by decide}
theorem vals2 {a b:Value} {vals:Array Value} (hs:vals.size=2) (h0:vals.getD 0 undef=a) (h1:vals.getD 1 undef=b):vals=#[a,b]:=by
 apply Array.ext
 ·simpa using hs
 intro i hi hi'
 have:i=0\/i=1:=by simp at hi';omega
 rcases this with rfl|rfl
 ·simpa [Array.getD,hi] using h0
 simpa [Array.getD,hi] using h1
theorem zSY (n:Nat):Lib.repeatL ([0]:Str) n=List.replicate n 0:=by
 induction n with
 | zero=>rfl
 | succ n ih=>simp [Lib.repeatL,List.replicate_succ,ih]
theorem rep_ok:zAD prog 311 [.str [0],iv 128] (.str zFG):=by
 refine ⟨by kernel_rfl,fun w Xa vals M hXa hs hrr=>?_⟩
 obtain rfl:=vals2 hs (zDD (hrr 0 _ rfl)) (zCC (hrr 1 _ rfl));have h:=Any.strings_Repeat repLays bldX ⟨[0].toArray⟩ 128 w (by omega) (by simp [ByteArray.size])
 refine h.mono ?_;rintro e w' ⟨rfl,hb⟩;have he:Lib.repeatL (⟨[0].toArray⟩:ByteArray).data.toList 128=zFG:=zSY 128
 rw [he];refine ⟨_,rfl,hb,fun M n' hM=>⟨.str _ _,fun id o ho=>?_,fun id id' o o' g ho=>?_⟩⟩
 ·simp [V.fcells,V.cells,obsL,lookO] at ho
 simp [V.fcells,V.cells,obsL,lookO] at ho
theorem pow_in {v:Int} (h0:0<=v) (h1:v<32):IntKind.u32.wrap (1*2 ^ min v.toNat 32)=2 ^ v.toNat:=by
 have h:∀ k:Fin 32,IntKind.u32.wrap (1*2 ^ min k.val 32)=2 ^ k.val:=by decide +kernel
 exact h ⟨v.toNat,by omega⟩
theorem zOS (t g:Int) (l:List Int) (p v:Int) (hg:W32 g) (hv:W32 v) (hb:l.length<=100000) :
  zAD prog 249 [.st [uv t,uv g],memV l,iv p,uv v] (.tup [.st [uv t,uv (zA8 g l p v).1],memV (zA8 g l p v).2]):=by
 have hp:=zAc l;have hcl:=zCD (ints .u32 l) false 1 (.inl rfl) (by rw [zAM];exact hb)
 by_cases h32:32<=v
 ·have hE:zA8 g l p v=(g,l):=by unfold zA8;rw [if_pos h32]
  rw [hE];refine sZ func249 ntmps249 ?_;exact zEK (qX1 (hcl)) trivial @h32
 have hpw:=pow_in hv.1 (by omega:v<32)
 simp at hpw;have hw1:IntKind.i64.wrap v=v:=zAA (by have:=hv.1;omega) (by omega)
 have hia:=zRo hg v.toNat (by omega)
 by_cases h10:p=10
 ·subst h10;by_cases hpg:v<pagesD l
  ·by_cases hbit:g / 2 ^ v.toNat % 2=0
   ·have hE:zA8 g l 10 v=(ior .u32 g (2 ^ v.toNat),zBO l v zFG):=by unfold zA8;rw [if_neg h32,if_pos rfl,if_pos ⟨hpg,hbit⟩]
    rw [hE];refine sZ func249 ntmps249 ?_;exact zEK (qX3 (zBv l) (rep_ok) (zFg l v zFG hv.1 hpg (by simp [zFG]))) trivial (kX6 @h32 @hpw @hw1 @hia @hpg @hbit)
   have hE:zA8 g l 10 v=(g,l):=by unfold zA8;rw [if_neg h32,if_pos rfl,if_neg (fun q=>hbit q.2)]
   rw [hE];refine sZ func249 ntmps249 ?_;exact zEK (qX2 (zBv l) (hcl)) trivial (kX6 @h32 @hpw @hw1 @hia @hpg @hbit)
  have hE:zA8 g l 10 v=(g,l):=by unfold zA8;rw [if_neg h32,if_pos rfl,if_neg (fun q=>hpg q.1)]
  rw [hE];refine sZ func249 ntmps249 ?_;exact zEK (qX2 (zBv l) (hcl)) trivial (kX4 @h32 @hpw @hw1 @hpg)
 by_cases h11:p=11
 ·subst h11;have hE:zA8 g l 11 v=(zCn .u32 g (2 ^ v.toNat),l):=by unfold zA8;rw [if_neg h32];simp
  rw [hE];refine sZ func249 ntmps249 ?_;exact zEK (qX1 (hcl)) trivial (kX2 @h32 @hpw)
 have hE:zA8 g l p v=(g,l):=by unfold zA8;rw [if_neg h32,if_neg h10,if_neg h11]
 rw [hE];refine sZ func249 ntmps249 ?_;exact zEK (qX1 (hcl)) trivial (kX4 @h32 @hpw @h10 @h11)
end Go.Proofs.YthjpcmecgjfilaaGreat
end
section
namespace Go.Proofs.YthjpcmecgjfilaaGreat
open Go.Ab Go.RowKit Tryz
theorem zEx (l:List Int) (o:Nat) (t:Str):∀ n k:Nat,(putW l o t n)[k]? =if o<=k/\k<o+n/\k<l.length then some (zDZ t (k-o)) else l[k]?
 | 0,k=>by rw [if_neg (by omega)];rfl
 | n+1,k=>by
  rw [putW,List.getElem?_set,zGQ,zEx l o t n k];by_cases h:o+n=k
  ·subst h;rw [if_pos rfl];by_cases hl:o+n<l.length
   ·rw [if_pos hl,if_pos (by omega),Nat.add_sub_cancel_left]
   rw [if_neg hl,if_neg (by omega),List.getElem?_eq_none (by omega)]
  rw [if_neg h];by_cases h2:o<=k/\k<o+n/\k<l.length
  ·rw [if_pos h2,if_pos (by omega)]
  rw [if_neg h2,if_neg (by omega)]
theorem zMx (t:Str) (n k:Nat) (b:UInt8) (hn:n<t.length):(t.set n b).getD k 0=if k=n then b else t.getD k 0:=by
 simp only [zWF,List.getElem?_set];by_cases h:n=k
 ·subst h;simp [hn]
 rw [if_neg h,if_neg (fun q=>h q.symm)]
theorem zQy (t:Str) (n:Nat) (b:UInt8) (hn:n<t.length):zDZ (t.set n b) (n / 4)=putB (zDZ t (n / 4)) ((n % 4:Nat):Int) b.toNat:=by
 have b0:=(t.getD (4*(n / 4)) 0).toNat_lt;have b1:=(t.getD (4*(n / 4)+1) 0).toNat_lt;have b2:=(t.getD (4*(n / 4)+2) 0).toNat_lt;have b3:=(t.getD (4*(n / 4)+3) 0).toNat_lt;have bb:=b.toNat_lt;have h4:n % 4=0\/n % 4=1\/n % 4=2\/n % 4=3:=by omega
 unfold putB byteAt zDZ;simp only [zMx t n _ b hn];rcases h4 with h|h|h|h
 ·rw [if_pos (by omega),if_neg (by omega),if_neg (by omega),if_neg (by omega),h]
  generalize (t.getD (4*(n / 4)) 0).toNat=x0 at *
  generalize (t.getD (4*(n / 4)+1) 0).toNat=x1 at *
  generalize (t.getD (4*(n / 4)+2) 0).toNat=x2 at *
  generalize (t.getD (4*(n / 4)+3) 0).toNat=x3 at *
  generalize b.toNat=y at *
  simp;omega
 ·rw [if_neg (by omega),if_pos (by omega),if_neg (by omega),if_neg (by omega),h]
  generalize (t.getD (4*(n / 4)) 0).toNat=x0 at *
  generalize (t.getD (4*(n / 4)+1) 0).toNat=x1 at *
  generalize (t.getD (4*(n / 4)+2) 0).toNat=x2 at *
  generalize (t.getD (4*(n / 4)+3) 0).toNat=x3 at *
  generalize b.toNat=y at *
  simp;omega
 ·rw [if_neg (by omega),if_neg (by omega),if_pos (by omega),if_neg (by omega),h]
  generalize (t.getD (4*(n / 4)) 0).toNat=x0 at *
  generalize (t.getD (4*(n / 4)+1) 0).toNat=x1 at *
  generalize (t.getD (4*(n / 4)+2) 0).toNat=x2 at *
  generalize (t.getD (4*(n / 4)+3) 0).toNat=x3 at *
  generalize b.toNat=y at *
  simp;omega
 rw [if_neg (by omega),if_neg (by omega),if_neg (by omega),if_pos (by omega),h]
 generalize (t.getD (4*(n / 4)) 0).toNat=x0 at *
 generalize (t.getD (4*(n / 4)+1) 0).toNat=x1 at *
 generalize (t.getD (4*(n / 4)+2) 0).toNat=x2 at *
 generalize (t.getD (4*(n / 4)+3) 0).toNat=x3 at *
 generalize b.toNat=y at *
 simp;omega
theorem zQx (t:Str) (n i:Nat) (b:UInt8) (hn:n<t.length) (hi:i≠n / 4):zDZ (t.set n b) i=zDZ t i:=by
 unfold zDZ;simp only [zMx t n _ b hn];rw [if_neg (by omega),if_neg (by omega),if_neg (by omega),if_neg (by omega)]
theorem zSP (l:List Int) (o:Nat) (t:Str) (n:Nat) (b:UInt8) (ht:t.length=128) (hn:n<128):(putW l o t 32).set (o+n / 4) (putB (zDZ t (n / 4)) ((n % 4:Nat):Int) b.toNat)=putW l o (t.set n b) 32:=by
 apply List.ext_getElem?;intro k;rw [List.getElem?_set,zGQ,zEx,zEx];by_cases h:o+n / 4=k
 ·subst h;rw [if_pos rfl];by_cases hl:o+n / 4<l.length
  ·rw [if_pos hl,if_pos (by omega),Nat.add_sub_cancel_left,zQy t n b (by omega)]
  rw [if_neg hl,if_neg (by omega),List.getElem?_eq_none (by omega)]
 rw [if_neg h];by_cases h2:o<=k/\k<o+32/\k<l.length
 ·rw [if_pos h2,if_pos h2,zQx t n (k-o) b (by omega) (by omega)]
 rw [if_neg h2,if_neg h2]
theorem zS5 {w:Int} (h:W32 w):(w % 256).toNat+(w / 256 % 256).toNat*256+(w / 65536 % 256).toNat*65536+(w / 16777216 % 256).toNat*16777216=w:=by
 have h0:=h.1;have h1:=h.2;omega
theorem zDf:∀ (P:List Int) (i k:Nat),k<4->(P.flatMap zB3).getD (4*i+k) 0=((P[i]?).map fun w=>(zB3 w).getD k 0).getD 0
 | [],i,k,_=>by simp
 | w::P,0,k,h=>by
  have hl:(zB3 w).length=4:=rfl;simp only [List.flatMap_cons,Nat.mul_zero,zWi,zWF,zWc,Option.map_some,Option.getD_some];rw [zWZ (by omega)]
 | w::P,i+1,k,h=>by
  have hl:(zB3 w).length=4:=rfl;have e:=zDf P i k h;simp only [List.flatMap_cons,zWF,List.getElem?_cons_succ] at e ⊢;rw [zWX (by omega),show 4*(i+1)+k-(zB3 w).length=4*i+k by omega,e]
theorem zOG {P:List Int} (hP:OkW P) {i:Nat} {w:Int} (h:P[i]? =some w):zDZ (P.flatMap zB3) i=w:=by
 have hw:W32 w:=hP w (zWO h);have e:=zS5 hw;have f0:=zDf P i 0 (by omega)
 have f1:=zDf P i 1 (by omega)
 have f2:=zDf P i 2 (by omega)
 have f3:=zDf P i 3 (by omega)
 rw [h] at f0 f1 f2 f3;simp only [Option.map_some,Option.getD_some,Nat.add_zero] at f0 f1 f2 f3;unfold zDZ;rw [f0,f1,f2,f3];have u:∀ x:Int,(UInt8.ofNat (x % 256).toNat).toNat=(x % 256).toNat:=fun x=>by rw [UInt8.toNat_ofNat'];omega
 simp only [zB3,zWV,zWk,u];omega
theorem zPx {l:List Int} (hl:OkW l) {f:Int} (h0:0<=f) (h1:f<pagesD l):putW l (f*32).toNat (zBb l f) 32=l:=by
 have hp:=zGO h0 h1;apply List.ext_getElem?;intro k;rw [zEx];by_cases h2:(f*32).toNat<=k/\k<(f*32).toNat+32/\k<l.length
 ·rw [if_pos h2,zWH h2.2.2]
  congr 1
  have hk:((l.take (f*32+32).toNat).drop (f*32).toNat)[k-(f*32).toNat]? =some l[k]:=by
   rw [zWf,zWY,if_pos (by omega),show (f*32).toNat+(k-(f*32).toNat)=k by omega,zWH h2.2.2]
  exact zOG (fun x hx=>hl x (List.mem_of_mem_take (List.mem_of_mem_drop hx))) hk
 rw [if_neg h2]
def zFS (l:List Int) (f:Int) (s:Str):Nat->List Int
 | 0=>l
 | n+1=>zBi (zFS l f s n) (f*128+n) 1 ((s.getD n 0).toNat:Int)
theorem zJx (l:List Int) (f:Int) (s:Str):∀ n,(zFS l f s n).length=l.length
 | 0=>rfl
 | n+1=>by unfold zFS zBi;rw [List.length_set,zJx l f s n]
theorem zPt {l:List Int} {f:Int} (h0:0<=f) (h1:f<pagesD l):(zBb l f).length=128:=by
 unfold zBb;rw [zJ0,zGO h0 h1]
theorem zMA {l:List Int} (hl:OkW l) {f:Int} (h0:0<=f) (h1:f<pagesD l) (hin:f*32+32<=l.length) (s:Str):∀ n:Nat,n<=s.length->n<=128->zFS l f s n=putW l (f*32).toNat (s.take n++(zBb l f).drop n) 32
 | 0,_,_=>by rw [List.take_zero,zWj,List.drop_zero,zPx hl h0 h1];rfl
 | n+1,hs,hn=>by
  have ih:=zMA hl h0 h1 hin s n (by omega) (by omega)
  have hB:=zPt h0 h1;have ht:(s.take n++(zBb l f).drop n).length=128:=by rw [zWL,zWS,zWT,hB];omega
  have hset:s.take (n+1)++(zBb l f).drop (n+1)=(s.take n++(zBb l f).drop n).set n (s.getD n 0):=by
   apply List.ext_getElem?;intro k;rw [List.getElem?_set,ht,List.getElem?_append,List.getElem?_append];simp only [zWS,zWY,zWf,zWF];by_cases hk:n=k
   ·subst hk;rw [if_pos (by omega),if_pos (by omega),if_pos rfl,if_pos (by omega),zWH (by omega)];rfl
   rw [if_neg hk];by_cases hk2:k<n
   ·rw [if_pos (by omega),if_pos (by omega),if_pos (by omega),if_pos (by omega)]
   rw [if_neg (by omega),if_neg (by omega)]
   congr 1;omega
  have hw:wAt (putW l (f*32).toNat (s.take n++(zBb l f).drop n) 32) ((f*128+n) / 4)=zDZ (s.take n++(zBb l f).drop n) (n / 4):=by
   unfold wAt;rw [zWF,zEx,if_pos (by omega),Option.getD_some]
   congr 1;omega
  have hm:(f*128+(n:Int)) % 4=((n % 4:Nat):Int):=by omega
  have hd:((f*128+(n:Int)) / 4).toNat=(f*32).toNat+n / 4:=by omega
  rw [zFS,ih];unfold zBi;rw [if_pos rfl,hw,hm,hd,zSP _ _ _ n _ ht (by omega),hset]
end Go.Proofs.YthjpcmecgjfilaaGreat
end
