/- A part of the proof of ReplicaFollows. -/
import Derived.Test.YthjpcmecgjfilaaGreatB22
set_option linter.unusedSimpArgs false
set_option linter.unusedVariables false
set_option maxHeartbeats 16000000
set_option maxRecDepth 100000
section
namespace Go.Proofs.YthjpcmecgjfilaaGreat.As
open Go.Ab Go.RowKit Tryz
theorem zSu (l:List (Str × Int)) (i:Nat) (h:i<l.length):(zC3 l)[i]? =some [.str l[i].1,.int .u32 l[i].2]:=by simp [zC3,h]
theorem zFI (l:List (Str × Int)) (s:Str) (hl:l.length<=1000000):zAD prog 114 [.sl 2 false (zC3 l),.str s] (.tup [.int .u32 ((zER s l).getD 0),.bool (zER s l).isSome]):=by
 have hll:=zKb l;refine sX func114 ntmps114 ?_;intros;apply wr;obtain ⟨I,hI⟩:∃ I:Nat->St->Prop,I=(fun kk ss=>∃ (i:Nat) ,i<=l.length/\kk=l.length-i/\(zER s l=zER s (l.drop i))/\ss=⟨25,[(6,.int .i64 i),(0,.sl 2 false (zC3 l)),(1,.str s)],0,[],0⟩):=⟨_,rfl⟩
 refine lX I (id) (by rw [hI];exact ⟨0,by simp,rfl,rfl,rfl⟩) ?_
 intro kk ss hIk _
 rw [hI] at hIk;obtain ⟨i,hi,rfl,hx,rfl⟩:=hIk;have hw:IntKind.i64.wrap ((i:Int)+1)=((i+1:Nat):Int):=by rw [zAA (by omega) (by omega)];omega
 refine au1 @hll ?_;intros;apply wr;by_cases hi':i<l.length
 ·obtain ⟨z,hz⟩:∃ z,z=l[i]:=⟨_,rfl⟩;have hget:(zC3 l)[i]? =some [.str z.1,.int .u32 z.2]:=by rw [hz];exact zSu _ i hi'
  have hdr:l.drop i=z::l.drop (i+1):=by rw [zWo hi',hz]
  rw [hdr,zER] at hx;refine gT11 @hi' rfl (kX2 @hget @hll) ?_;intros;apply wr;by_cases he:z.1=s
  ·rw [if_pos he] at hx;refine gT11 @he rfl (kX2 @hget @hll) ?_;intros;apply wr;refine zAB ?_;simp [hx]
  rw [if_neg he] at hx;refine gF10 @he rfl ?_;intros;apply wr;exact aX (id) (by rw [hI];exact ⟨i+1,by omega,rfl,hx,rfl⟩) (kX2 (zAA (n:=(i:Int)+1) (by omega) (by omega)) @hw)
 have:i=l.length:=by omega
 subst this;rw [List.drop_length] at hx;refine gF00 rfl ?_;intros;apply wr;refine zAB ?_;simp [hx,zER]
def numX (s:Str):Int × Bool :=
 if 2<s.length/\s.getD 0 0=48/\s.getD 1 0=120 then
  (if 10<s.length then (0,false) else match digs 16 (s.drop 2) 0 with
   | some n=>((n:Int),true)
   | none=>(0,false))
 else if s.length-(if s.getD 0 0=45 then 1 else 0)<1\/10<s.length-(if s.getD 0 0=45 then 1 else 0) then (0,false)
 else match digs 10 (s.drop (if s.getD 0 0=45 then 1 else 0)) 0 with
  | none=>(0,false)
  | some n=>if s.getD 0 0=45 then (-(n:Int),decide (-2147483648<=-(n:Int))&&decide (-(n:Int)<=4294967295)) else ((n:Int),decide (-2147483648<=(n:Int))&&decide ((n:Int)<=4294967295))
abbrev numXV (s:Str):V:=.tup [.int .i64 (numX s).1,.bool (numX s).2]
theorem u8_of {c:UInt8} {k:Nat} (h:c.toNat=k):c=UInt8.ofNat k:=by
 rw [<- h];simp
set_option maxHeartbeats 32000000 in
theorem zKF (s:Str) (hsl:s.length<=1000000):zAD prog 264 [.str s] (numXV s):=by
 refine sX func264 ntmps264 ?_;intros;apply wr;refine zAC rfl (fun hc=>?_) (fun hc=>?_)
 ·have h:2<s.length/\s.getD 0 0=48/\s.getD 1 0=120:=by
   simp at hc;rw [zWF,zWF];refine ⟨by omega,?_,?_⟩<;>(apply UInt8.toNat_inj.1;simp;omega)
  clear hc;refine au ?_;intros;apply wr;refine zAC rfl (fun h10=>?_) (fun h10=>?_)
  ·simp at h10;have hn:numX s=(0,false):=by unfold numX;rw [if_pos h,if_pos (by omega)]
   refine au ?_;intros;apply wr;refine zAB ?_;simp [hn]
  simp at h10;have hl10:¬ 10<s.length:=by omega
  refine au ?_;intros;apply wr;obtain ⟨I,hI⟩:∃ I:Nat->St->Prop,I=(fun kk ss=>∃ (i:Nat) (x:Nat),i<=(s.length-2)/\kk=(s.length-2)-i/\(digs 16 (s.drop 2) 0=digs 16 (s.drop (i+2)) x/\x<16 ^ i)/\ss=⟨116,[(5,.int .i64 ((i:Int)+2)),(4,.int .i64 x),(0,.str s)],0,[],0⟩):=⟨_,rfl⟩
  refine lX I (id) (by rw [hI];exact ⟨0,0,by simp,rfl,⟨rfl,by simp⟩,rfl⟩) ?_
  intro kk ss hIk _
  rw [hI] at hIk;obtain ⟨i,x,hi,rfl,hx,rfl⟩:=hIk;have hw:IntKind.i64.wrap ((i:Int)+2+1)=(i:Int)+1+2:=by rw [zAA (by omega) (by omega)];omega
  refine au ?_;intros;apply wr;refine zAC rfl (fun hi'=>?_) (fun hi'=>?_)
  ·simp at hi';have hpw:16 ^ i*16<=16 ^ 10:=by rw [<- Nat.pow_succ];exact Nat.pow_le_pow_right (by omega) (by omega)
   have hpc:16 ^ 10<=1099511627776:=by decide
   obtain ⟨hx1,hx2⟩:=hx;have hstep:=zGf (base:=16) (s:=s) (i:=i+2) (x:=x) (by omega)
   rw [<- hx1] at hstep;rw [zWF] at hstep;generalize hcd:s[i+2]?.getD 0=c at hstep;have hcu:(c.toNat:Int)<=255:=by have:=c.toNat_lt;omega
   have htn:((i:Int)+2).toNat=i+2:=by omega
   have hcp:i+2<s.length:=by omega
   refine au1 (kX2 @htn @hcd) ?_;intros;apply wr;refine cX (digit_ok c) ?_;intros;apply wr;cases hdg:digB c with
   | true =>
    have hdr:48<=c.toNat/\c.toNat<=57:=by simpa [digB] using hdg
    have hd:dig 16 c=some (c.toNat-48):=by unfold dig;rw [if_pos hdr]
    rw [hd] at hstep;have w1:IntKind.i64.wrap (IntKind.u8.wrap ((c.toNat:Int)-48))=((c.toNat-48:Nat):Int):=by rw [IntKind.wrap_u8,zAA (by omega) (by omega)];omega
    generalize hdd:c.toNat-48=d at hstep w1;have hd9:d<=9:=by omega
    have hxn:IntKind.i64.wrap (IntKind.i64.wrap (16*(x:Int))+(d:Int))=((x*16+d:Nat):Int):=by
     rw [zAA (n:=16*(x:Int)) (by omega) (by omega),zAA (by omega) (by omega)];omega
    refine gT01 rfl (kX5 @htn @hcd @w1 @hxn @hw) ?_;intros;apply wr;exact aX (id) (by rw [hI];exact ⟨i+1,(x*16+d),by omega,rfl,⟨by rw [show i+1+2=i+2+1 by omega];exact hstep,by rw [Nat.pow_succ];omega⟩,rfl⟩) (kX3 (zAA (n:=(i:Int)+1) (by omega) (by omega)) @hw @hxn)
   | false =>
    refine gF01 rfl (kX2 @htn @hcd) ?_;intros;apply wr;refine zAC rfl (fun hl=>?_) (fun hl=>?_)
    ·have hdr:97<=c.toNat/\c.toNat<=102:=by simp at hl;omega
     have hd:dig 16 c=some (c.toNat-87):=by unfold dig;rw [if_neg (by omega),if_pos ⟨rfl,hdr⟩]
     rw [hd] at hstep;have w1:IntKind.i64.wrap (IntKind.u8.wrap ((c.toNat:Int)-97))=((c.toNat-97:Nat):Int):=by rw [IntKind.wrap_u8,zAA (by omega) (by omega)];omega
     have hdd:c.toNat-87=c.toNat-97+10:=by omega
     rw [hdd] at hstep;generalize hde:c.toNat-97=d at hstep w1;have hd9:d<=5:=by omega
     have hxn:IntKind.i64.wrap (IntKind.i64.wrap (IntKind.i64.wrap (16*(x:Int))+(d:Int))+10)=((x*16+(d+10):Nat):Int):=by
      rw [zAA (n:=16*(x:Int)) (by omega) (by omega),zAA (n:=16*(x:Int)+d) (by omega) (by omega),zAA (by omega) (by omega)];omega
     refine au1 (kX5 @htn @hcd @w1 @hxn @hw) ?_;intros;apply wr;exact aX (id) (by rw [hI];exact ⟨i+1,(x*16+(d+10)),by omega,rfl,⟨by rw [show i+1+2=i+2+1 by omega];exact hstep,by rw [Nat.pow_succ];omega⟩,rfl⟩) (kX3 (zAA (n:=(i:Int)+1) (by omega) (by omega)) @hw @hxn)
    have hdr:¬ (97<=c.toNat/\c.toNat<=102):=by
     intro q
     simp at hl;omega
    have hdr2:¬ (48<=c.toNat/\c.toNat<=57):=by
     intro q
     simp [digB,q] at hdg
    have hd:dig 16 c=none:=by unfold dig;rw [if_neg hdr2,if_neg (fun q=>hdr q.2)]
    rw [hd] at hstep;have hn:numX s=(0,false):=by unfold numX;rw [if_pos h,if_neg hl10,hstep]
    refine au ?_;intros;apply wr;refine zAB ?_;simp [hn]
  simp at hi';have hie:i=s.length-2:=by omega
  obtain ⟨hx1,_⟩:=hx;rw [hie,show s.length-2+2=s.length by omega,List.drop_length] at hx1
  have hn:numX s=((x:Int),true):=by unfold numX;rw [if_pos h,if_neg hl10,hx1];rfl
  refine au ?_;intros;apply wr;refine zAB ?_;simp [hn]
 have h:¬ (2<s.length/\s.getD 0 0=48/\s.getD 1 0=120):=by
  rintro ⟨q1,q2,q3⟩
  rw [zWF] at q2 q3;have q1':(2:Int)<(s.length:Int):=by omega
  simp [q1',q2,q3] at hc
 clear hc;refine au ?_;intros;apply wr;by_cases hm:s.getD 0 0=45
 ·have hl0:0<s.length:=by
   rcases Nat.eq_zero_or_pos s.length with q|q
   ·have:s=[]:=zWP q;subst this;simp at hm
   exact q
  have hm':=hm;rw [zWF] at hm';have hb:(((s[0]?.getD 0).toNat:Nat):Int)=45:=by rw [hm'];rfl
  refine zAC rfl (fun _=>?_) (fun q=>by exfalso;simp [hb] at q;rw [q] at hl0;simp at hl0)
  refine au1 @hm' ?_;intros;apply wr;have hsub:IntKind.i64.wrap ((s.length:Int)-1)=(s.length:Int)-1:=zAA (by omega) (by omega)
  refine au1 @hsub ?_;intros;apply wr;by_cases hlen:s.length-1<1\/10<s.length-1
  ·have hn:numX s=(0,false):=by unfold numX;rw [if_neg h,if_pos hm,if_pos hlen]
   refine zAC rfl (fun _=>?_) (fun q=>by simp [hsub] at q;omega)
   refine au ?_;intros;apply wr;refine zAB ?_;simp [hn]
  refine zAC rfl (fun q=>by simp [hsub] at q;omega) (fun _=>?_)
  refine au ?_;intros;apply wr;obtain ⟨I,hI⟩:∃ I:Nat->St->Prop,I=(fun kk ss=>∃ (i:Nat) (x:Nat),i<=(s.length-1)/\kk=(s.length-1)-i/\(digs 10 (s.drop 1) 0=digs 10 (s.drop (i+1)) x/\x<10 ^ i)/\ss=⟨116,[(8,.int .i64 (((i:Int)+1))),(7,.int .i64 x),(6,.int .i64 1),(0,.str s)],0,[],0⟩):=⟨_,rfl⟩
  refine lX I (id) (by rw [hI];exact ⟨0,0,by simp,rfl,⟨by simp,by simp⟩,rfl⟩) ?_
  intro kk ss hIk _
  rw [hI] at hIk;obtain ⟨i,x,hi,rfl,hx,rfl⟩:=hIk;have hw:IntKind.i64.wrap (((i:Int)+1)+1)=(i:Int)+1+1:=zAA (by omega) (by omega)
  refine au ?_;intros;apply wr;refine zAC rfl (fun hi'=>?_) (fun hi'=>?_)
  ·simp at hi';have hpw:10 ^ i*10<=10 ^ 10:=by rw [<- Nat.pow_succ];exact Nat.pow_le_pow_right (by omega) (by omega)
   have hpc:10 ^ 10<=1099511627776:=by decide
   obtain ⟨hx1,hx2⟩:=hx;have hstep:=zGf (base:=10) (s:=s) (i:=i+1) (x:=x) (by omega)
   rw [<- hx1] at hstep;rw [zWF] at hstep;generalize hcd:s[i+1]?.getD 0=c at hstep;have hcu:(c.toNat:Int)<=255:=by have:=c.toNat_lt;omega
   have htn:((i:Int)+1).toNat=i+1:=by omega
   have hcp:i+1<s.length:=by omega
   refine au1 (kX2 @htn @hcd) ?_;intros;apply wr;refine cX (digit_ok c) ?_;intros;apply wr;cases hdg:digB c with
   | true =>
    have hdr:48<=c.toNat/\c.toNat<=57:=by simpa [digB] using hdg
    have hd:dig 10 c=some (c.toNat-48):=by unfold dig;rw [if_pos hdr]
    rw [hd] at hstep;have w1:IntKind.i64.wrap (IntKind.u8.wrap ((c.toNat:Int)-48))=((c.toNat-48:Nat):Int):=by rw [IntKind.wrap_u8,zAA (by omega) (by omega)];omega
    generalize hdd:c.toNat-48=d at hstep w1;have hd9:d<=9:=by omega
    have hxn:IntKind.i64.wrap (IntKind.i64.wrap (10*(x:Int))+(d:Int))=((x*10+d:Nat):Int):=by
     rw [zAA (n:=10*(x:Int)) (by omega) (by omega),zAA (by omega) (by omega)];omega
    refine gF01 rfl (kX5 @htn @hcd @w1 @hxn @hw) ?_;intros;apply wr;exact aX (id) (by rw [hI];exact ⟨i+1,(x*10+d),by omega,rfl,⟨by exact hstep,by rw [Nat.pow_succ];omega⟩,rfl⟩) (kX3 (zAA (n:=(i:Int)+1) (by omega) (by omega)) @hw @hxn)
   | false =>
    have hdr2:¬ (48<=c.toNat/\c.toNat<=57):=by
     intro q
     simp [digB,q] at hdg
    have hd:dig 10 c=none:=by unfold dig;rw [if_neg hdr2,if_neg (fun q=>by omega)]
    rw [hd] at hstep;have hn:numX s=(0,false):=by unfold numX;rw [if_neg h,if_pos hm,if_neg hlen,hstep]
    refine gT00 rfl ?_;intros;apply wr;refine zAB ?_;simp [hn]
  simp at hi';have hie:i=s.length-1:=by omega
  obtain ⟨hx1,hx2⟩:=hx;rw [show i+1=s.length by omega,List.drop_length] at hx1
  have hp10:10 ^ i<=10 ^ 10:=Nat.pow_le_pow_right (by omega) (by omega)
  have hpc:(10:Nat) ^ 10=10000000000:=by decide
  simp only [digs] at hx1;refine au ?_;intros;apply wr;have hng:IntKind.i64.wrap (-(x:Int))=-(x:Int):=zAA (by omega) (by omega)
  have hn:numX s=(-(x:Int),decide (-2147483648<=-(x:Int))&&decide (-(x:Int)<=4294967295)):=by unfold numX;rw [if_neg h,if_pos hm,if_neg hlen,hx1];simp only [if_pos hm]
  refine gT01 rfl @hng ?_;intros;apply wr;refine zAB ?_;simp [hn]
  try (rw [Bool.eq_iff_iff];simp;try omega)
 have hm':=hm;rw [zWF] at hm';refine zAC rfl (fun q=>?_) (fun _=>?_)
 ·exfalso
  simp at q;exact hm' (UInt8.toNat_inj.1 (by simp;omega))
 refine au1 @hm' ?_;intros;apply wr;have hsub:IntKind.i64.wrap ((s.length:Int))=(s.length:Int):=zAA (by omega) (by omega)
 refine au1 @hsub ?_;intros;apply wr;by_cases hlen:s.length-0<1\/10<s.length-0
 ·have hn:numX s=(0,false):=by unfold numX;rw [if_neg h,if_neg hm,if_pos hlen]
  refine zAC rfl (fun _=>?_) (fun q=>by simp [hsub] at q;omega)
  refine au ?_;intros;apply wr;refine zAB ?_;simp [hn]
 refine zAC rfl (fun q=>by simp [hsub] at q;omega) (fun _=>?_)
 refine au ?_;intros;apply wr;obtain ⟨I,hI⟩:∃ I:Nat->St->Prop,I=(fun kk ss=>∃ (i:Nat) (x:Nat),i<=(s.length-0)/\kk=(s.length-0)-i/\(digs 10 (s.drop 0) 0=digs 10 (s.drop (i)) x/\x<10 ^ i)/\ss=⟨116,[(8,.int .i64 ((i:Int))),(7,.int .i64 x),(6,.int .i64 0),(0,.str s)],0,[],0⟩):=⟨_,rfl⟩
 refine lX I (id) (by rw [hI];exact ⟨0,0,by simp,rfl,⟨by simp,by simp⟩,rfl⟩) ?_
 intro kk ss hIk _
 rw [hI] at hIk;obtain ⟨i,x,hi,rfl,hx,rfl⟩:=hIk;have hw:IntKind.i64.wrap ((i:Int)+1)=(i:Int)+1:=zAA (by omega) (by omega)
 refine au ?_;intros;apply wr;refine zAC rfl (fun hi'=>?_) (fun hi'=>?_)
 ·simp at hi';have hpw:10 ^ i*10<=10 ^ 10:=by rw [<- Nat.pow_succ];exact Nat.pow_le_pow_right (by omega) (by omega)
  have hpc:10 ^ 10<=1099511627776:=by decide
  obtain ⟨hx1,hx2⟩:=hx;have hstep:=zGf (base:=10) (s:=s) (i:=i) (x:=x) (by omega)
  rw [<- hx1] at hstep;rw [zWF] at hstep;generalize hcd:s[i]?.getD 0=c at hstep;have hcu:(c.toNat:Int)<=255:=by have:=c.toNat_lt;omega
  have htn:((i:Int)+0).toNat=i:=by omega
  have hcp:i<s.length:=by omega
  refine au1 (kX2 @htn @hcd) ?_;intros;apply wr;refine cX (digit_ok c) ?_;intros;apply wr;cases hdg:digB c with
  | true =>
   have hdr:48<=c.toNat/\c.toNat<=57:=by simpa [digB] using hdg
   have hd:dig 10 c=some (c.toNat-48):=by unfold dig;rw [if_pos hdr]
   rw [hd] at hstep;have w1:IntKind.i64.wrap (IntKind.u8.wrap ((c.toNat:Int)-48))=((c.toNat-48:Nat):Int):=by rw [IntKind.wrap_u8,zAA (by omega) (by omega)];omega
   generalize hdd:c.toNat-48=d at hstep w1;have hd9:d<=9:=by omega
   have hxn:IntKind.i64.wrap (IntKind.i64.wrap (10*(x:Int))+(d:Int))=((x*10+d:Nat):Int):=by
    rw [zAA (n:=10*(x:Int)) (by omega) (by omega),zAA (by omega) (by omega)];omega
   refine gF01 rfl (kX5 @htn @hcd @w1 @hxn @hw) ?_;intros;apply wr;exact aX (id) (by rw [hI];exact ⟨i+1,(x*10+d),by omega,rfl,⟨by exact hstep,by rw [Nat.pow_succ];omega⟩,rfl⟩) (kX3 (zAA (n:=(i:Int)+1) (by omega) (by omega)) @hw @hxn)
  | false =>
   have hdr2:¬ (48<=c.toNat/\c.toNat<=57):=by
    intro q
    simp [digB,q] at hdg
   have hd:dig 10 c=none:=by unfold dig;rw [if_neg hdr2,if_neg (fun q=>by omega)]
   rw [hd] at hstep;have hn:numX s=(0,false):=by unfold numX;rw [if_neg h,if_neg hm,if_neg hlen,hstep]
   refine gT00 rfl ?_;intros;apply wr;refine zAB ?_;simp [hn]
 simp at hi';have hie:i=s.length-0:=by omega
 obtain ⟨hx1,hx2⟩:=hx;rw [show i=s.length by omega,List.drop_length] at hx1
 have hp10:10 ^ i<=10 ^ 10:=Nat.pow_le_pow_right (by omega) (by omega)
 have hpc:(10:Nat) ^ 10=10000000000:=by decide
 simp only [digs] at hx1;refine au ?_;intros;apply wr;have hn:numX s=((x:Int),decide (-2147483648<=(x:Int))&&decide ((x:Int)<=4294967295)):=by unfold numX;rw [if_neg h,if_neg hm,if_neg hlen,hx1];simp only [if_neg hm]
 refine gF00 rfl ?_;intros;apply wr;refine zAB ?_;simp [hn]
 try (rw [Bool.eq_iff_iff];simp;try omega)
def zC5 (s:Str):List Str:=(zAi s).dropLast++(if (zAi s).getLast?.getD []=[] then [] else [(zAi s).getLast?.getD []])
theorem zPX {s:Str} {xs:List Str} {y:Str} (h:xs++[y]=zAi s):zC5 s=xs++(if y=[] then [] else [y]):=by
 unfold zC5;rw [<- h];simp
set_option maxHeartbeats 16000000 in
theorem zIn (s:Str) (hl:s.length<=1000000):zAD prog 159 [.str s] (.new 9 1 (strs (zC5 s))):=by
 refine sX func159 ntmps159 ?_;intros;apply wr;refine zAT 3 9 1 (by decide) rfl ?_
 obtain ⟨I,hI⟩:∃ I:Nat->St->Prop,I=(fun kk ss=>∃ (i:Nat) (f:Nat) (xs:List Str),i<=s.length/\kk=s.length-i/\(f<=i/\xs++zIl ((s.take i).drop f) (zAi (s.drop i))=zAi s/\xs.length<=i)/\ss=⟨36,[(5,.int .i64 i),(4,.int .i64 f),(3,.own 0),(0,.str s)],1,[(0,some ⟨9,1,false,false,strs xs⟩)],0⟩):=⟨_,rfl⟩
 refine lX I (id) (by rw [hI];exact ⟨0,0,[],by simp,rfl,⟨zWN _,by simp [zKA],zWN _⟩,rfl⟩) ?_
 intro kk ss hIk _
 rw [hI] at hIk;obtain ⟨i,f,xs,hi,rfl,hx,rfl⟩:=hIk;obtain ⟨hf,hxs,hxl⟩:=hx;have hsl:=zCA xs;have hmx:(strs xs).length+1<=maxLen:=by rw [zCA];simp [maxLen];omega
 have hw:IntKind.i64.wrap ((i:Int)+1)=((i+1:Nat):Int):=by rw [zAA (by omega) (by omega)];omega
 have hm16:(xs.length+1)*16<=140737488355328:=by omega
 refine au ?_;intros;apply wr;by_cases hi':i<s.length
 ·obtain ⟨c,hc⟩:∃ c,c=s.getD i 0:=⟨_,rfl⟩;have hcc:s[i]?.getD 0=c:=by rw [hc,zWF]
  have hdr:s.drop i=c::s.drop (i+1):=by rw [zWo hi',hc,zWF,zWH hi'];rfl
  rw [hdr] at hxs;refine gT11 @hi' rfl @hcc ?_;intros;apply wr;by_cases h10:c=10
  ·subst h10;rw [zPV] at hxs;have hxa:(xs++[(s.take i).drop f])++zIl ((s.take (i+1)).drop (i+1)) (zAi (s.drop (i+1)))=zAi s:=by
    have e0:(s.take (i+1)).drop (i+1)=[]:=List.drop_eq_nil_of_le (by simp;omega)
    rw [e0,zKA,zWW];exact hxs
   have hone:=zM4 xs ((s.take i).drop f);refine gT01 rfl (kX5 @hw @hsl @hmx @hm16 @hone) ?_;intros;apply wr;exact aX (fun x=>if x=0 then 2 else x) (by rw [hI];exact ⟨i+1,(i+1),(xs++[(s.take i).drop f]),by omega,rfl,⟨zWN _,hxa,by simp;omega⟩,rfl⟩) (kX2 (zAA (n:=(i:Int)+1) (by omega) (by omega)) @hw)
  have hne:¬ ((c.toNat:Int)=10):=by
   intro e
   apply h10;have:c.toNat=(10:UInt8).toNat:=by simp;omega
   exact UInt8.toNat_inj.1 this
  rw [zNh _ _ _ h10,hc,<- zHk hf hi'] at hxs;refine gF10 @hne rfl ?_;intros;apply wr;exact aX (id) (by rw [hI];exact ⟨i+1,f,xs,by omega,rfl,⟨by omega,hxs,by omega⟩,rfl⟩) (kX2 (zAA (n:=(i:Int)+1) (by omega) (by omega)) @hw)
 have hil:i=s.length:=by omega
 subst hil;rw [List.drop_length,List.take_length] at hxs;simp only [zAi,zIl,zWh] at hxs;have hr:=zPX hxs;have hone:=zM4 xs (s.drop f);by_cases hfl:f<s.length
 ·have hne:¬ s.drop f=[]:=by
   intro e
   have:=congrArg List.length e;simp at this;omega
  rw [if_neg hne] at hr;refine gF00 rfl ?_;intros;apply wr;refine gT11 @hfl rfl (kX4 @hsl @hmx @hm16 @hone) ?_;intros;apply wr;refine zAB ?_;simp [hr]
 have he:s.drop f=[]:=List.drop_eq_nil_of_le (by omega)
 rw [if_pos he] at hr;refine gF00 rfl ?_;intros;apply wr;refine gF10 @hfl rfl ?_;intros;apply wr;refine zAB ?_;simp [hr]
abbrev Tok:=Int × Str × Bool
def zB1 (c:UInt8):Bool:=letB c||digB c||decide (c.toNat=95)
def zQY (c:UInt8):Bool:=decide (c.toNat=44)||decide (c.toNat=58)||decide (c.toNat=40)||decide (c.toNat=41)||decide (c.toNat=46)
def tokR (g:Bool):Str->Option (List Tok)
 | []=>some []
 | c::s =>
  if c.toNat=32 then tokR true s
  else if letB c=true then (tokR false (s.dropWhile zB1)).map ((1,c::s.takeWhile zB1,g)::·)
  else if digB c=true\/c.toNat=45 then (tokR false (s.dropWhile zB1)).map ((2,c::s.takeWhile zB1,g)::·)
  else if zQY c=true then (tokR false s).map ((3,[c],g)::·)
  else none
termination_by s=>s.length
decreasing_by
 all_goals simp
 all_goals (have:=(List.dropWhile_suffix (l:=s) zB1).length_le;omega)
theorem zQj (g:Bool):tokR g []=some []:=by rw [tokR]
theorem zM8 (g:Bool) (c:UInt8) (s:Str):tokR g (c::s)=if c.toNat=32 then tokR true s
  else if letB c=true then (tokR false (s.dropWhile zB1)).map ((1,c::s.takeWhile zB1,g)::·)
  else if digB c=true\/c.toNat=45 then (tokR false (s.dropWhile zB1)).map ((2,c::s.takeWhile zB1,g)::·)
  else if zQY c=true then (tokR false s).map ((3,[c],g)::·)
  else none:=by rw [tokR]
abbrev tokV (t:Tok):List V:=[.int .i64 t.1,.str t.2.1,.bool t.2.2]
def zBj (l:List Tok):List (List V):=l.map tokV
@[simp] theorem toksV_nil:zBj []=[]:=rfl
theorem zKd (l:List Tok):(zBj l).length=l.length:=by simp [zBj]
theorem zHP (l:List Tok) (k:Int) (t:Str) (g:Bool):zBj l++[[.int .i64 k,.str t,.bool g]]=zBj (l++[(k,t,g)]):=by simp [zBj]
theorem zJJ (P:UInt8->Bool):∀ x:Str,x.take (x.takeWhile P).length=x.takeWhile P/\x.drop (x.takeWhile P).length=x.dropWhile P/\(x.takeWhile P).length<=x.length/\(∀ j,j<(x.takeWhile P).length->P (x.getD j 0)=true)/\((x.takeWhile P).length<x.length->P (x.getD (x.takeWhile P).length 0)=false)
 | []=>by simp
 | c::x=>by
  obtain ⟨h1,h2,h3,h4,h5⟩:=zJJ P x;by_cases hc:P c=true
  ·simp only [List.takeWhile_cons,List.dropWhile_cons,hc,if_true,zWU,List.take_succ_cons,List.drop_succ_cons,h1,h2,true_and];refine ⟨by omega,fun j hj=>?_,fun h=>?_⟩
   ·cases j with
    | zero=>simpa using hc
    | succ j=>simpa using h4 j (by omega)
   simpa using h5 (by omega)
  simp [List.takeWhile_cons,List.dropWhile_cons,hc]
def zFi (s:Str):V:=match tokR true s with
 | some l=>.tup [.sl 3 false (zBj l),.bool true]
 | none=>.tup [.sl 3 true [],.bool false]
theorem zLI {l:List Tok} {t:Tok} {o:Option (List Tok)}:(o.map (t::·)).map (l++·)=o.map ((l++[t])++·):=by
 cases o<;>simp
set_option maxHeartbeats 32000000 in
theorem zQk (s:Str) (hsl:s.length<=1000000):zAD prog 204 [.str s] (zFi s):=by
 refine sX func204 ntmps204 ?_;intros;apply wr;refine zAT 4 327 3 (by decide) rfl ?_
 obtain ⟨I,hI⟩:∃ I:Nat->St->Prop,I=(fun kk ss=>∃ (i:Nat) (p:Nat) (g:Bool) (l:List Tok),i<=s.length/\kk=s.length-i/\(i<=p/\p<=s.length/\tokR true s=(tokR g (s.drop p)).map (l++·)/\l.length<=p)/\ss=⟨131,[(6,.int .i64 p),(5,.bool g),(4,.own 0),(0,.str s)],1,[(0,some ⟨327,3,false,false,zBj l⟩)],0⟩):=⟨_,rfl⟩
 refine lX I (id) (by rw [hI];exact ⟨0,0,true,[],by simp,rfl,⟨zWN _,Nat.zero_le _,by simp,zWN _⟩,rfl⟩) ?_
 intro kk ss hIk _
 rw [hI] at hIk;obtain ⟨i,p,g,l,hi,rfl,hx,rfl⟩:=hIk;obtain ⟨hip,hpl,hx,hll⟩:=hx;have htl:=zKd l;have hmx:(zBj l).length+1<=maxLen:=by rw [htl];simp [maxLen];omega
 have hm3:(l.length+1)*40<=140737488355328:=by omega
 have hw:IntKind.i64.wrap ((p:Int)+1)=(p:Int)+1:=zAA (by omega) (by omega)
 refine au ?_;intros;apply wr;by_cases hp:p<s.length
 ·obtain ⟨c,hc⟩:∃ c,c=s.getD p 0:=⟨_,rfl⟩;have hcc:s[p]?.getD 0=c:=by rw [hc,zWF]
  have hdr:s.drop p=c::s.drop (p+1):=by rw [zWo hp,hc,zWF,zWH hp];rfl
  rw [hdr,zM8] at hx;refine gT11 @hp rfl @hcc ?_;intros;apply wr;by_cases h32:c.toNat=32
  ·rw [if_pos h32] at hx;refine gT11 @h32 rfl @hw ?_;intros;apply wr;exact aX (id) (by rw [hI];exact ⟨i+1,(p+1),true,l,by omega,rfl,⟨by omega,by omega,hx,by omega⟩,rfl⟩) (kX2 (zAA (n:=(i:Int)+1) (by omega) (by omega)) @hw)
  rw [if_neg h32] at hx;have h32':¬ ((c.toNat:Int)=32):=by omega
  refine gF10 @h32' rfl ?_;intros;apply wr;refine cX (zCp c) ?_;intros;apply wr;by_cases hlt1:letB c=true
  ·rw [if_pos hlt1] at hx;refine gT10 @hlt1 rfl ?_;intros;apply wr;obtain ⟨h1,h2,h3,h4,h5⟩:=zJJ zB1 (s.drop p);obtain ⟨k,hk⟩:∃ k,k=((s.drop p).takeWhile zB1).length:=⟨_,rfl⟩;rw [<- hk] at h1 h2 h3 h4 h5;have hds:(s.drop p).length=s.length-p:=by simp
   have hwc:zB1 c=true:=by unfold zB1;rw [hlt1];rfl
   have hk1:k=((s.drop (p+1)).takeWhile zB1).length+1:=by rw [hk,hdr,List.takeWhile_cons,if_pos hwc,zWU]
   obtain ⟨T,hTd⟩:∃ T,T=c::(s.drop (p+1)).takeWhile zB1:=⟨_,rfl⟩;have hT:(s.take (p+k)).drop p=T:=by rw [hTd,List.drop_take,show p+k-p=k by omega,h1,hdr,List.takeWhile_cons,if_pos hwc]
   have hD:(s.drop (p+1)).dropWhile zB1=s.drop (p+k):=by rw [show s.drop (p+k)=(s.drop p).drop k from (List.drop_drop ..).symm,h2,hdr,List.dropWhile_cons,if_pos hwc]
   have hte:((p:Int)+(k:Int)).toNat=p+k:=by omega
   rw [zLI,<- hTd,hD] at hx;obtain ⟨Ij,hIj⟩:∃ I:Nat->St->Prop,I=(fun kk ss=>∃ (j:Nat) ,j<=k/\kk=k-j/\(True)/\ss=⟨131,[(6,.int .i64 ((p:Int)+j)),(8,.int .i64 p),(5,.bool g),(4,.own 0),(0,.str s)],1,[(0,some ⟨327,3,false,false,zBj l⟩)],0⟩):=⟨_,rfl⟩
   refine lX Ij (id) (by rw [hIj];exact ⟨0,by simp,rfl,trivial,rfl⟩) ?_
   intro kk ss hIk _
   rw [hIj] at hIk;obtain ⟨j,hj,rfl,hxj,rfl⟩:=hIk;have hwj:IntKind.i64.wrap ((p:Int)+j+1)=(p:Int)+(j+1:Nat):=by rw [zAA (by omega) (by omega)];omega
   obtain ⟨d,hd⟩:∃ d,d=s.getD (p+j) 0:=⟨_,rfl⟩;have hdd:s[p+j]?.getD 0=d:=by rw [hd,zWF]
   have htj:((p:Int)+(j:Int)).toNat=p+j:=by omega
   have hgd:(s.drop (p)).getD j 0=d:=by rw [hd,zWF,zWF,zWf]
   have hQ:(decide ((p:Int)+(j:Int)<(s.length:Int))&&(letB d||digB d||((d.toNat:Int)==95)))=decide (j<k):=by
    have e:(letB d||digB d||((d.toNat:Int)==95))=zB1 d:=by
     rw [zB1];congr 1;rw [Bool.eq_iff_iff];simp;omega
    rw [e,<- hgd];by_cases hjk:j<k
    ·rw [h4 j hjk,decide_eq_true hjk,decide_eq_true (by omega)];rfl
    have hjk':j=k:=by omega
    rw [decide_eq_false hjk];by_cases hlt:(p:Int)+(j:Int)<(s.length:Int)
    ·rw [hjk',h5 (by simp;omega),Bool.and_false]
    rw [decide_eq_false hlt,Bool.false_and]
   refine au ?_;intros;apply wr
   first|refine zBA (zCp d) rfl (fun hgd=>?_) (by simp [obsL]) ?_|refine zAr (zCp d) rfl (by simp) (fun hgd=>?_) (by simp [obsL]) ?_
   all_goals simp
   all_goals (try (first|exact hgd|(simp at hgd;first|done|assumption|grind)))
   refine au ?_;intros;apply wr
   first|refine zBA (digit_ok d) rfl (fun hgd=>?_) (by simp [obsL]) ?_|refine zAr (digit_ok d) rfl (by simp) (fun hgd=>?_) (by simp [obsL]) ?_
   all_goals simp
   all_goals (try (first|exact hgd|(simp at hgd;first|done|assumption|grind)))
   refine au ?_;intros;apply wr;simp only [htj,hdd,hQ];by_cases hjk:j<k
   ·refine gT11 @hjk rfl @hwj ?_;intros;apply wr;exact aX (id) (by rw [hIj];exact ⟨j+1,by omega,rfl,trivial,rfl⟩) (kX2 (zAA (n:=(j:Int)+1) (by omega) (by omega)) @hwj)
   refine gF10 @hjk rfl ?_;intros;apply wr;have hjk':k=j:=by omega
   subst hjk';have hap:=zHP l 1 T g;refine au1 (kX6 @hte @hT @htl @hmx @hm3 @hap) ?_;intros;apply wr;exact aX (fun x=>if x=0 then 4 else x) (by rw [hI];exact ⟨i+1,(p+k),false,(l++[(1,T,g)]),by omega,rfl,⟨by omega,by omega,hx,by simp;omega⟩,rfl⟩) (kX4 (zAA (n:=(i:Int)+1) (by omega) (by omega)) @hte @hT @hap)
  have hlf:letB c=false:=by simpa using hlt1
  rw [if_neg hlt1] at hx;refine gF10 @hlf rfl ?_;intros;apply wr;refine cX (digit_ok c) ?_;intros;apply wr;by_cases hnu:digB c=true\/c.toNat=45
  ·rw [if_pos hnu] at hx;have hnq:(digB c||((c.toNat:Int)==45))=true:=by
    rcases hnu with e|e
    ·rw [e];rfl
    rw [e];simp
   simp only [hnq];refine gT01 rfl @hw ?_;intros;apply wr;obtain ⟨h1,h2,h3,h4,h5⟩:=zJJ zB1 (s.drop (p+1));obtain ⟨k,hk⟩:∃ k,k=((s.drop (p+1)).takeWhile zB1).length:=⟨_,rfl⟩;rw [<- hk] at h1 h2 h3 h4 h5;have hds:(s.drop (p+1)).length=s.length-(p+1):=by simp
   obtain ⟨T,hTd⟩:∃ T,T=c::(s.drop (p+1)).takeWhile zB1:=⟨_,rfl⟩;have hT:(s.take (p+1+k)).drop p=T:=by rw [hTd,List.drop_take,show p+1+k-p=k+1 by omega,hdr,List.take_succ_cons,h1]
   have hD:(s.drop (p+1)).dropWhile zB1=s.drop (p+1+k):=by rw [show s.drop (p+1+k)=(s.drop (p+1)).drop k from (List.drop_drop ..).symm,h2]
   have hte:((p:Int)+1+(k:Int)).toNat=p+1+k:=by omega
   rw [zLI,<- hTd,hD] at hx;obtain ⟨Ij,hIj⟩:∃ I:Nat->St->Prop,I=(fun kk ss=>∃ (j:Nat) ,j<=k/\kk=k-j/\(True)/\ss=⟨131,[(6,.int .i64 ((p:Int)+1+j)),(8,.int .i64 p),(5,.bool g),(4,.own 0),(0,.str s)],1,[(0,some ⟨327,3,false,false,zBj l⟩)],0⟩):=⟨_,rfl⟩
   refine lX Ij (id) (by rw [hIj];exact ⟨0,by simp,rfl,trivial,rfl⟩) ?_
   intro kk ss hIk _
   rw [hIj] at hIk;obtain ⟨j,hj,rfl,hxj,rfl⟩:=hIk;have hwj:IntKind.i64.wrap ((p:Int)+1+j+1)=(p:Int)+1+(j+1:Nat):=by rw [zAA (by omega) (by omega)];omega
   obtain ⟨d,hd⟩:∃ d,d=s.getD (p+1+j) 0:=⟨_,rfl⟩;have hdd:s[p+1+j]?.getD 0=d:=by rw [hd,zWF]
   have htj:((p:Int)+1+(j:Int)).toNat=p+1+j:=by omega
   have hgd:(s.drop (p+1)).getD j 0=d:=by rw [hd,zWF,zWF,zWf]
   have hQ:(decide ((p:Int)+1+(j:Int)<(s.length:Int))&&(letB d||digB d||((d.toNat:Int)==95)))=decide (j<k):=by
    have e:(letB d||digB d||((d.toNat:Int)==95))=zB1 d:=by
     rw [zB1];congr 1;rw [Bool.eq_iff_iff];simp;omega
    rw [e,<- hgd];by_cases hjk:j<k
    ·rw [h4 j hjk,decide_eq_true hjk,decide_eq_true (by omega)];rfl
    have hjk':j=k:=by omega
    rw [decide_eq_false hjk];by_cases hlt:(p:Int)+1+(j:Int)<(s.length:Int)
    ·rw [hjk',h5 (by simp;omega),Bool.and_false]
    rw [decide_eq_false hlt,Bool.false_and]
   refine au ?_;intros;apply wr
   first|refine zBA (zCp d) rfl (fun hgd=>?_) (by simp [obsL]) ?_|refine zAr (zCp d) rfl (by simp) (fun hgd=>?_) (by simp [obsL]) ?_
   all_goals simp
   all_goals (try (first|exact hgd|(simp at hgd;first|done|assumption|grind)))
   refine au ?_;intros;apply wr
   first|refine zBA (digit_ok d) rfl (fun hgd=>?_) (by simp [obsL]) ?_|refine zAr (digit_ok d) rfl (by simp) (fun hgd=>?_) (by simp [obsL]) ?_
   all_goals simp
   all_goals (try (first|exact hgd|(simp at hgd;first|done|assumption|grind)))
   refine au ?_;intros;apply wr;simp only [htj,hdd,hQ];by_cases hjk:j<k
   ·refine gT11 @hjk rfl @hwj ?_;intros;apply wr;exact aX (id) (by rw [hIj];exact ⟨j+1,by omega,rfl,trivial,rfl⟩) (kX2 (zAA (n:=(j:Int)+1) (by omega) (by omega)) @hwj)
   refine gF10 @hjk rfl ?_;intros;apply wr;have hjk':k=j:=by omega
   subst hjk';have hap:=zHP l 2 T g;refine au1 (kX6 @hte @hT @htl @hmx @hm3 @hap) ?_;intros;apply wr;exact aX (fun x=>if x=0 then 4 else x) (by rw [hI];exact ⟨i+1,(p+1+k),false,(l++[(2,T,g)]),by omega,rfl,⟨by omega,by omega,hx,by simp;omega⟩,rfl⟩) (kX4 (zAA (n:=(i:Int)+1) (by omega) (by omega)) @hte @hT @hap)
  rw [if_neg hnu] at hx;have hnq:(digB c||((c.toNat:Int)==45))=false:=by
   have e1:digB c=false:=by simpa using fun e=>hnu (.inl e)
   rw [e1];simp;omega
  simp only [hnq];refine gF00 rfl ?_;intros;apply wr;have hsq:((c.toNat:Int)==44||(c.toNat:Int)==58||(c.toNat:Int)==40||(c.toNat:Int)==41||(c.toNat:Int)==46)=zQY c:=by
   rw [Bool.eq_iff_iff];simp [zQY];omega
  simp only [hsq];by_cases hsg:zQY c=true
  ·rw [if_pos hsg] at hx;refine gT11 @hsg rfl @hw ?_;intros;apply wr;have hT:(s.take (p+1)).drop p=[c]:=by rw [List.drop_take,show p+1-p=1 by omega,hdr];rfl
   have hte:((p:Int)+1).toNat=p+1:=by omega
   have hap:=zHP l 3 [c] g;rw [zLI] at hx;refine au1 (kX6 @hte @hT @htl @hmx @hm3 @hap) ?_;intros;apply wr;exact aX (fun x=>if x=0 then 4 else x) (by rw [hI];exact ⟨i+1,(p+1),false,(l++[(3,[c],g)]),by omega,rfl,⟨by omega,by omega,hx,by simp;omega⟩,rfl⟩) (kX4 (zAA (n:=(i:Int)+1) (by omega) (by omega)) @hte @hT @hap)
  rw [if_neg hsg] at hx;have hv:zFi s=.tup [.sl 3 true [],.bool false]:=by unfold zFi;rw [hx];rfl
  refine gF10 @hsg rfl ?_;intros;apply wr;refine zAB ?_;simp [hv]
 have hpe:p=s.length:=by omega
 subst hpe;rw [List.drop_length,zQj] at hx;have hv:zFi s=.tup [.sl 3 false (zBj l),.bool true]:=by unfold zFi;rw [hx];simp
 refine gF00 rfl ?_;intros;apply wr;refine zAI ?_;refine zAB ?_;simp [hv]
abbrev ArgD:=Int × Int × Str
abbrev argV (a:ArgD):List V:=[.int .i64 a.1,.int .i64 a.2.1,.str a.2.2]
def zDY (l:List ArgD):List (List V):=l.map argV
@[simp] theorem argsV_nil:zDY []=[]:=rfl
theorem zJT (l:List ArgD):(zDY l).length=l.length:=by simp [zDY]
theorem zEc (l:List ArgD) (r n:Int) (t:Str):zDY l++[[.int .i64 r,.int .i64 n,.str t]]=zDY (l++[(r,n,t)]):=by simp [zDY]
def matF:List Tok->Str->Option (List ArgD)
 | [],[]=>some []
 | t::l,c::p =>
  if c=114 then (if t.1=1 then (match regN t.2.1 with
   | some q=>(matF l p).map (((q:Int),0,[])::·)
   | none=>none) else none)
  else if c=110\/c=120 then
   (if c=120/\t.1=1/\zNo t.2.1=true then (matF l p).map ((0,0,t.2.1)::·)
   else if t.1=2/\(numX t.2.1).2=true then (matF l p).map ((0,(numX t.2.1).1,[])::·) else none)
  else if t.1=3/\t.2.1=[c] then matF l p else none
 | _,_=>none
theorem zIw:∀ (l:List Tok) (p:Str),l.length≠p.length->matF l p=none
 | [],[],h=>absurd rfl h
 | [],_::_,_=>rfl
 | _::_,[],_=>rfl
 | t::l,c::p,h=>by
  have e:=zIw l p (by simpa using h)
  simp only [matF,e,Option.map_none]
  (repeat' split)<;>rfl
def matV (l:List Tok) (p:Str):V:=match matF l p with
 | some a=>.tup [.sl 3 false (zDY a),.bool true]
 | none=>.tup [.sl 3 true [],.bool false]
theorem zGH {l:List ArgD} {t:ArgD} {o:Option (List ArgD)}:(o.map (t::·)).map (l++·)=o.map ((l++[t])++·):=by
 cases o<;>simp
theorem zS1 (l:List Tok) (i:Nat) (h:i<l.length):(zBj l)[i]? =some (tokV l[i]):=by simp [zBj,h]
set_option maxHeartbeats 32000000 in
theorem zNl (l:List Tok) (p:Str) (hl:l.length<=1000000) (ht:∀ t∈l,t.2.1.length<=1000000):zAD prog 207 [.sl 3 false (zBj l),.str p] (matV l p):=by
 have htl:=zKd l;refine sX func207 ntmps207 ?_;intros;apply wr;by_cases hlp:l.length=p.length
 ·have hlp':((l.length:Int)=(p.length:Int)):=by omega
  refine gF10 (kX2 @htl @hlp') rfl ?_;intros;apply wr;refine zAT 6 218 3 (by decide) rfl ?_
  obtain ⟨I,hI⟩:∃ I:Nat->St->Prop,I=(fun kk ss=>∃ (i:Nat) (a:List ArgD),i<=l.length/\kk=l.length-i/\(matF l p=(matF (l.drop i) (p.drop i)).map (a++·)/\a.length<=i)/\ss=⟨106,[(7,.int .i64 i),(6,.own 0),(0,.sl 3 false (zBj l)),(1,.str p)],1,[(0,some ⟨218,3,false,false,zDY a⟩)],0⟩):=⟨_,rfl⟩
  refine lX I (id) (by rw [hI];exact ⟨0,[],by simp,rfl,⟨by simp,zWN _⟩,rfl⟩) ?_
  intro kk ss hIk _
  rw [hI] at hIk;obtain ⟨i,a,hi,rfl,hx,rfl⟩:=hIk;obtain ⟨hx,hal⟩:=hx;have hav:=zJT a;have hmx:(zDY a).length+1<=maxLen:=by rw [hav];simp [maxLen];omega
  have hm3:(a.length+1)*32<=140737488355328:=by omega
  have hw:IntKind.i64.wrap ((i:Int)+1)=(i:Int)+1:=zAA (by omega) (by omega)
  by_cases hi':i<l.length
  ·obtain ⟨z,hz⟩:∃ z,z=l[i]:=⟨_,rfl⟩;have hzm:z.2.1.length<=1000000:=ht z (by rw [hz];exact zWp hi')
   have hget:(zBj l)[i]? =some (tokV z):=by rw [hz];exact zS1 _ i hi'
   have hdl:l.drop i=z::l.drop (i+1):=by rw [zWo hi',hz]
   have hip:i<p.length:=by omega
   obtain ⟨c,hc⟩:∃ c,c=p.getD i 0:=⟨_,rfl⟩;have hcc:p[i]?.getD 0=c:=by rw [hc,zWF]
   have hdp:p.drop i=c::p.drop (i+1):=by rw [zWo hip,hc,zWF,zWH hip];rfl
   rw [hdl,hdp,matF] at hx;obtain ⟨zk,zt,zg⟩:=z;simp only at hx hget hzm;refine au1 @htl ?_;intros;apply wr;refine gT11 @hi' rfl (kX3 @hget @hcc @htl) ?_;intros;apply wr;by_cases h1:c=114
   ·subst h1;rw [if_pos rfl] at hx;refine gT00 rfl ?_;intros;apply wr;refine cX (zMp zt) ?_;intros;apply wr;by_cases hk1:zk=1
    ·subst hk1;rw [if_pos rfl] at hx;cases hr:regN zt with
     | none =>
      simp only [hr] at hx;have hv:matV l p=.tup [.sl 3 true [],.bool false]:=by unfold matV;rw [hx];rfl
      refine gT00 rfl ?_;intros;apply wr;refine zAB ?_;simp [hv]
     | some q =>
      simp only [hr] at hx;refine gF00 rfl ?_;intros;apply wr;rw [zGH] at hx;have hap:=zEc a ((q:Int)) (0) ([]);refine au1 (kX5 @hav @hmx @hm3 @hap @hw) ?_;intros;apply wr;exact aX (fun x=>if x=0 then 5 else x) (by rw [hI];exact ⟨i+1,(a++[((q:Int),0,[])]),by omega,rfl,⟨hx,by simp;omega⟩,rfl⟩) (kX3 (zAA (n:=(i:Int)+1) (by omega) (by omega)) @hap @hw)
    rw [if_neg hk1] at hx;have hv:matV l p=.tup [.sl 3 true [],.bool false]:=by unfold matV;rw [hx];rfl
    refine gT10 @hk1 rfl ?_;intros;apply wr;refine zAB ?_;simp [hv]
   rw [if_neg h1] at hx;have h1':¬ ((c.toNat:Int)=114):=fun e=>h1 (UInt8.toNat_inj.1 (by simp;omega))
   refine gF10 @h1' rfl ?_;intros;apply wr;by_cases h2:c=110\/c=120
   ·rw [if_pos h2] at hx;by_cases h3:c=110
    ·rw [if_neg (fun e=>by have:=e.1;rw [h3] at this;revert this;decide)] at hx
     have hc1:(c.toNat:Int)=110:=by rw [h3];rfl
     have hc2:¬ (c.toNat:Int)=120:=by omega
     refine gT10 @hc1 rfl ?_;intros;apply wr;refine gT10 @hc1 rfl ?_;intros;apply wr
     first|refine zBA (zFU zt) rfl (fun hgd=>?_) (by simp [obsL]) ?_|refine zAr (zFU zt) rfl (by simp) (fun hgd=>?_) (by simp [obsL]) ?_
     all_goals simp
     all_goals (try (first|exact hgd|(simp at hgd;first|done|assumption|grind)))
     refine au ?_;intros;apply wr;refine gF10 (kX2 @hcc @hc2) rfl ?_;intros;apply wr;refine cX (zKF zt hzm) ?_;intros;apply wr;by_cases h7:zk=2/\(numX zt).2=true
     ·rw [if_pos h7] at hx;refine gF10 @h7 rfl ?_;intros;apply wr;rw [zGH] at hx;have hap:=zEc a (0) ((numX zt).1) ([]);refine au1 (kX5 @hav @hmx @hm3 @hap @hw) ?_;intros;apply wr;exact aX (fun x=>if x=0 then 6 else x) (by rw [hI];exact ⟨i+1,(a++[(0,(numX zt).1,[])]),by omega,rfl,⟨hx,by simp;omega⟩,rfl⟩) (kX3 (zAA (n:=(i:Int)+1) (by omega) (by omega)) @hap @hw)
     rw [if_neg h7] at hx;have hv:matV l p=.tup [.sl 3 true [],.bool false]:=by unfold matV;rw [hx];rfl
     refine zAC rfl (fun _=>?_) (fun h=>absurd (by simpa using h) h7)
     refine au ?_;intros;apply wr;refine zAB ?_;simp [hv]
    have h4:c=120:=h2.resolve_left h3;have hc1:(c.toNat:Int)=120:=by rw [h4];rfl
    refine gF10 @hc1 rfl ?_;intros;apply wr;refine gT10 @hc1 rfl ?_;intros;apply wr
    first|refine zBA (zFU zt) rfl (fun hgd=>?_) (by simp [obsL]) ?_|refine zAr (zFU zt) rfl (by simp) (fun hgd=>?_) (by simp [obsL]) ?_
    all_goals simp
    all_goals (try (first|exact hgd|(simp at hgd;first|done|assumption|grind)))
    refine au ?_;intros;apply wr;by_cases h5:zk=1/\zNo zt=true
    ·rw [if_pos ⟨h4,h5⟩] at hx;refine gT10 (kX3 @hcc @hc1 @h5) rfl ?_;intros;apply wr;rw [zGH] at hx;have hap:=zEc a (0) (0) (zt);refine au1 (kX5 @hav @hmx @hm3 @hap @hw) ?_;intros;apply wr;exact aX (fun x=>if x=0 then 4 else x) (by rw [hI];exact ⟨i+1,(a++[(0,0,zt)]),by omega,rfl,⟨hx,by simp;omega⟩,rfl⟩) (kX3 (zAA (n:=(i:Int)+1) (by omega) (by omega)) @hap @hw)
    rw [if_neg (fun e=>h5 e.2)] at hx
    refine zAC rfl (fun h=>absurd (by simpa [hcc,hc1] using h) h5) (fun _=>?_)
    refine au ?_;intros;apply wr;refine cX (zKF zt hzm) ?_;intros;apply wr;by_cases h7:zk=2/\(numX zt).2=true
    ·rw [if_pos h7] at hx;refine gF10 @h7 rfl ?_;intros;apply wr;rw [zGH] at hx;have hap:=zEc a (0) ((numX zt).1) ([]);refine au1 (kX5 @hav @hmx @hm3 @hap @hw) ?_;intros;apply wr;exact aX (fun x=>if x=0 then 6 else x) (by rw [hI];exact ⟨i+1,(a++[(0,(numX zt).1,[])]),by omega,rfl,⟨hx,by simp;omega⟩,rfl⟩) (kX3 (zAA (n:=(i:Int)+1) (by omega) (by omega)) @hap @hw)
    rw [if_neg h7] at hx;have hv:matV l p=.tup [.sl 3 true [],.bool false]:=by unfold matV;rw [hx];rfl
    refine zAC rfl (fun _=>?_) (fun h=>absurd (by simpa using h) h7)
    refine au ?_;intros;apply wr;refine zAB ?_;simp [hv]
   rw [if_neg h2] at hx;have hpc:(p.take (i+1)).drop i=[c]:=by rw [List.drop_take,show i+1-i=1 by omega,hdp];rfl
   have h3':¬ ((c.toNat:Int)=110):=fun e=>h2 (.inl (UInt8.toNat_inj.1 (by simp;omega)))
   have h4':¬ ((c.toNat:Int)=120):=fun e=>h2 (.inr (UInt8.toNat_inj.1 (by simp;omega)))
   refine gF10 @h3' rfl ?_;intros;apply wr;refine gF10 @h4' rfl ?_;intros;apply wr;refine zAG 13 [0,1,3,7,15,31,15,15,15,271,975,2047,4095] [(1,([],[])),(1,([],[])),(1,([],[])),(1,([],[])),(7,([[],[0],[],[],[],[4],[2,3,4,5]],[])),(1,([],[])),(1,([],[]))] ?_;refine af1 @hw ?_;intros;apply wr;simp only [hpc];by_cases h6:zk=3/\zt=[c]
   ·rw [if_pos h6] at hx;refine zAt @h6 rfl ?_;intros;apply wr;exact aX (id) (by rw [hI];exact ⟨i+1,a,by omega,rfl,⟨hx,by omega⟩,rfl⟩) (kX2 (zAA (n:=(i:Int)+1) (by omega) (by omega)) @hw)
   rw [if_neg h6] at hx;have hv:matV l p=.tup [.sl 3 true [],.bool false]:=by unfold matV;rw [hx];rfl
   refine zAC rfl (fun _=>?_) (fun h=>absurd (by simpa using h) h6)
   refine af ?_;intros;apply wr;refine zAB ?_;simp [hv]
  have:i=l.length:=by omega
  subst this;rw [List.drop_length,hlp,List.drop_length,matF] at hx;have hv:matV l p=.tup [.sl 3 false (zDY a),.bool true]:=by unfold matV;rw [hx];simp
  refine af1 @htl ?_;intros;apply wr;refine zBM rfl ?_;intros;apply wr;refine zAI ?_;refine zAB ?_;simp [hv]
 have hlp':¬ ((l.length:Int)=(p.length:Int)):=by omega
 have hv:matV l p=.tup [.sl 3 true [],.bool false]:=by unfold matV;rw [zIw l p hlp]
 refine zDK (kX2 @htl @hlp') rfl ?_;intros;apply wr;refine zAB ?_;simp [hv]
end Go.Proofs.YthjpcmecgjfilaaGreat.As
end
