/- A part of the proof of ReplicaHalts. -/
import Derived.Test.YthjpcmecgjfilaaGreatH06
import Derived.Test.YthjpcmecgjfilaaGreatH12
import Derived.Test.YthjpcmecgjfilaaGreatH20
import Derived.Test.YthjpcmecgjfilaaGreatH22
set_option linter.unusedSimpArgs false
set_option linter.unusedVariables false
set_option maxHeartbeats 16000000
set_option maxRecDepth 100000
section
namespace Go.Proofs.YthjpcmecgjfilaaGreat
open Go.Ab Go.RowKit Tryz
theorem zPA (a b:Int):W32 (iand .u32 a b):=by unfold iand;rw [IntKind.wrap_u32];constructor<;>omega
theorem zUm (a b:Int):W32 (ior .u32 a b):=by unfold ior;rw [IntKind.wrap_u32];constructor<;>omega
theorem ixor_w (a b:Int):W32 (ixor .u32 a b):=by unfold ixor;rw [IntKind.wrap_u32];constructor<;>omega
theorem zKz (a b:Int):W32 (zCi .u32 a b):=by unfold zCi;rw [IntKind.wrap_u32];constructor<;>omega
theorem zT1 (b:Bool):W32 (b2w b):=by cases b<;>(constructor<;>decide)
theorem zAs:W32 0:=⟨by decide,by decide⟩
theorem shr_w {a:Int} (h:W32 a) (n:Nat):W32 (a / 2 ^ n):=by
 have p:(0:Int)<2 ^ n:=Int.pow_pos (by decide)
 refine ⟨Int.ediv_nonneg h.1 (Int.le_of_lt p),Int.lt_of_le_of_lt (Int.ediv_le_self _ h.1) h.2⟩
theorem zA3 {α:Type} {P:α->Prop} {c:Prop} [Decidable c] {a b:α} (ha:c->P a) (hb:¬ c->P b):P (if c then a else b):=by
 by_cases h:c
 ·rw [if_pos h];exact ha h
 rw [if_neg h];exact hb h
theorem zVu {c:Prop} [Decidable c] {a b:Int} (ha:W32 a) (hb:W32 b):W32 (if c then a else b):=zA3 (P:=W32) (fun _=>ha) (fun _=>hb)
theorem zFO {c:Prop} [Decidable c] {x:Int} {o:Option Int} (hx:W32 x) (ho:W32 (o.getD 0)):W32 ((if c then some x else o).getD 0):=zA3 (P:=fun z:Option Int=>W32 (z.getD 0)) (fun _=>hx) (fun _=>ho)
theorem alu_w {op a b:Int} (ha:W32 a):W32 ((aluD op a b).getD 0):=by
 have hq:W32 (divQ a b):=zVu ⟨by decide,by decide⟩ (uw_w _)
 have hr:W32 (divR a b):=zVu ha (uw_w _);unfold aluD;exact zFO (uw_w _) (zFO (uw_w _) (zFO (zPA _ _) (zFO (zUm _ _) (zFO (ixor_w _ _) (zFO (uw_w _) (zFO (shr_w ha _) (zFO (uw_w _) (zFO (uw_w _) (zFO hq (zFO hr (zFO (zT1 _) (zFO (zT1 _) zAs))))))))))))
theorem OkC.setS {c:CpuD} (h:OkC c) {k v:Int} (hv:W32 v) (h0:k=0->v<=31):OkC (c.setS k v):=by
 refine ⟨h.x,h.pc,fun i=>?_,?_⟩
 ·simp only [CpuD.setS];split;exact hv;exact h.csr i
 simp only [CpuD.setS];split
 ·rename_i q;exact h0 (by simpa using q.symm)
 exact h.s
theorem OkC.write {c:CpuD} (h:OkC c) {k v:Int} (hv:W32 v):OkC (zBG c k v):=by
 unfold zBG;split
 ·exact h.setS (zPA _ _) (fun _=>by rw [show iand .u32 v 31=v % 32 from zBJ v 5 32 (by omega) (by decide)];omega)
 split
 ·rename_i q;exact h.setS (zPA _ _) (fun z=>by omega)
 split
 ·exact h.setS (zKz _ _) (fun z=>by omega)
 split
 ·exact h.setS hv (fun z=>by omega)
 exact h
theorem OkC.execute {c:CpuD} (h:OkC c) (i:InstD):OkC (zAG c i).1:=by
 have hz:∀ b:Bool,W32 (if b=true then uw (c.pc+uw (4*uw i.imm)) else uw (c.pc+4)):=fun b=>zVu (uw_w _) (uw_w _)
 unfold zAG;exact zA3 (P:=fun z:CpuD × EffD=>OkC z.1) (fun _=>(h.setR (uw_w _)).setP (uw_w _)) (fun _=>zA3 (P:=fun z:CpuD × EffD=>OkC z.1) (fun _=>h.setP (hz _)) (fun _=>zA3 (P:=fun z:CpuD × EffD=>OkC z.1) (fun _=>(h.setR (uw_w _)).setP (uw_w _)) (fun _=>zA3 (P:=fun z:CpuD × EffD=>OkC z.1) (fun _=>(h.setR (uw_w _)).setP (uw_w _)) (fun _=>zA3 (P:=fun z:CpuD × EffD=>OkC z.1) (fun _=>h.trap zAs) (fun _=>zA3 (P:=fun z:CpuD × EffD=>OkC z.1) (fun _=>h.ret) (fun _=>zA3 (P:=fun z:CpuD × EffD=>OkC z.1) (fun _=>(h.setR (h.csr _)).setP (uw_w _)) (fun _=>zA3 (P:=fun z:CpuD × EffD=>OkC z.1) (fun _=>(h.write (h.x _)).setP (uw_w _)) (fun _=>zA3 (P:=fun z:CpuD × EffD=>OkC z.1) (fun _=>h.setP (uw_w _)) (fun _=>zA3 (P:=fun z:CpuD × EffD=>OkC z.1) (fun _=>h.setP (uw_w _)) (fun _=>zA3 (P:=fun z:CpuD × EffD=>OkC z.1) (fun _=>h.setP (uw_w _)) (fun _=>zA3 (P:=fun z:CpuD × EffD=>OkC z.1) (fun _=>h.setP (uw_w _)) (fun _=>zA3 (P:=fun z:CpuD × EffD=>OkC z.1) (fun _=>h.setP (uw_w _)) (fun _=>(h.setR (alu_w (h.x _))).setP (uw_w _))))))))))))))
theorem OkE.execute {c:CpuD} (h:OkC c) (i:InstD) (hi:OkI i):OkE (zAG c i).2:=by
 have hz:OkE zEff:=⟨fun q=>by simp [zEff] at q,zAs⟩
 have h1:OkE ⟨1,i.imm,i.a,0⟩:=⟨fun _=>⟨hi.a0,hi.a1⟩,zAs⟩
 have h2:OkE ⟨2,i.imm,0,c.x i.a.toNat⟩:=⟨fun q=>by simp at q,h.x _⟩
 have h3:∀ k:Int,k≠1->OkE ⟨k,0,0,0⟩:=fun k hk=>⟨fun q=>absurd q hk,zAs⟩
 unfold zAG;exact zA3 (P:=fun z:CpuD × EffD=>OkE z.2) (fun _=>hz) (fun _=>zA3 (P:=fun z:CpuD × EffD=>OkE z.2) (fun _=>hz) (fun _=>zA3 (P:=fun z:CpuD × EffD=>OkE z.2) (fun _=>hz) (fun _=>zA3 (P:=fun z:CpuD × EffD=>OkE z.2) (fun _=>hz) (fun _=>zA3 (P:=fun z:CpuD × EffD=>OkE z.2) (fun _=>hz) (fun _=>zA3 (P:=fun z:CpuD × EffD=>OkE z.2) (fun _=>hz) (fun _=>zA3 (P:=fun z:CpuD × EffD=>OkE z.2) (fun _=>hz) (fun _=>zA3 (P:=fun z:CpuD × EffD=>OkE z.2) (fun _=>hz) (fun _=>zA3 (P:=fun z:CpuD × EffD=>OkE z.2) (fun _=>h1) (fun _=>zA3 (P:=fun z:CpuD × EffD=>OkE z.2) (fun _=>h2) (fun _=>zA3 (P:=fun z:CpuD × EffD=>OkE z.2) (fun _=>h3 _ (by decide)) (fun _=>zA3 (P:=fun z:CpuD × EffD=>OkE z.2) (fun _=>h3 _ (by decide)) (fun _=>zA3 (P:=fun z:CpuD × EffD=>OkE z.2) (fun _=>h3 _ (by decide)) (fun _=>hz)))))))))))))
theorem zUo {l:List Int} (h:OkW l) (a s:Int):W32 (zBl l a s):=by
 unfold zBl;split
 ·have:=zF0 (wAt l (a / 4)) (a % 4);exact ⟨by omega,by omega⟩
 exact zNx h _
theorem zVa {v:Int} (h:0<=v/\v<256):W32 (zI4 v):=by unfold zI4;split<;>(constructor<;>omega)
theorem load_c {c:CpuD} {l:List Int} {i:InstD} (h:OkC c) (hl:OkW l):OkC (zA4 c l i).1:=by
 unfold zA4;have hw:=zCB (c:=c) (va:=uw (c.x i.b.toNat+uw i.imm)) (s:=zAW i.op) (acc:=2) hl;generalize zAF c l (uw (c.x i.b.toNat+uw i.imm)) (zAW i.op) 2=R at *
 obtain ⟨a,m,k⟩:=R;simp only;split
 ·exact h.trap (uw_w _)
 refine (h.setR ?_).setP (uw_w _);split
 ·rename_i q;exact zVa (by rw [show zAW i.op=1 by rw [q];rfl];exact zF0 _ _)
 exact zUo hw _ _
theorem zTM {c:CpuD} {l:List Int} {i:InstD} (hl:OkW l):OkW (zA4 c l i).2/\(zA4 c l i).2.length=l.length:=by
 unfold zA4;have hw:=zCB (c:=c) (va:=uw (c.x i.b.toNat+uw i.imm)) (s:=zAW i.op) (acc:=2) hl;have hn:=zBM c l (uw (c.x i.b.toNat+uw i.imm)) (zAW i.op) 2;generalize zAF c l (uw (c.x i.b.toNat+uw i.imm)) (zAW i.op) 2=R at *
 obtain ⟨a,m,k⟩:=R;simp only;split<;>exact ⟨hw,hn⟩
theorem zVi {c:CpuD} {l:List Int} {i:InstD} (h:OkC c):OkC (zAP c l i).1:=by
 unfold zAP;generalize zAF c l (uw (c.x i.b.toNat+uw i.imm)) (zAW i.op) 3=R;obtain ⟨a,m,k⟩:=R;simp only;split
 ·exact h.trap (uw_w _)
 exact h.setP (uw_w _)
theorem zSf {l:List Int} (hl:OkW l) (a s:Int) {v:Int} (hv:W32 v):OkW (zCp l a s v):=by
 unfold zCp;refine zVZ hl ?_;split
 ·exact putB_w (zNx hl _) (by omega)
 exact hv
theorem zQM {c:CpuD} {l:List Int} {i:InstD} (h:OkC c) (hl:OkW l):OkW (zAP c l i).2/\(zAP c l i).2.length=l.length:=by
 unfold zAP;have hw:=zCB (c:=c) (va:=uw (c.x i.b.toNat+uw i.imm)) (s:=zAW i.op) (acc:=3) hl;have hn:=zBM c l (uw (c.x i.b.toNat+uw i.imm)) (zAW i.op) 3;generalize zAF c l (uw (c.x i.b.toNat+uw i.imm)) (zAW i.op) 3=R at *
 obtain ⟨a,m,k⟩:=R;simp only;split
 ·exact ⟨hw,hn⟩
 exact ⟨zSf hw _ _ (h.x _),by simp [zCp];exact hn⟩
theorem zV0 {c:CpuD} {l:List Int} (h:OkC c) (hl:OkW l) {w:Int} (hw:W32 w):OkC (zBh c l w).1/\OkW (zBh c l w).2.1/\(zBh c l w).2.1.length=l.length/\OkE (zBh c l w).2.2:=by
 have hz:OkE zEff:=⟨fun q=>by simp [zEff] at q,zAs⟩
 unfold zBh;split
 ·exact ⟨h.trap hw,hl,rfl,hz⟩
 rename_i hv;split
 ·exact ⟨h.trap hw,hl,rfl,hz⟩
 split
 ·exact ⟨load_c h hl,(zTM hl).1,(zTM hl).2,hz⟩
 split
 ·exact ⟨zVi h,(zQM h hl).1,(zQM h hl).2,hz⟩
 exact ⟨h.execute _,hl,rfl,OkE.execute h _ (zBE (by simpa using hv))⟩
theorem zTD {c:CpuD} {l:List Int} (h:OkC c) (hl:OkW l):OkC (zAo c l).1/\OkW (zAo c l).2.1/\(zAo c l).2.1.length=l.length/\OkE (zAo c l).2.2:=by
 have hz:OkE zEff:=⟨fun q=>by simp [zEff] at q,zAs⟩
 unfold zAo;have hw:=zCB (c:=c) (va:=c.pc) (s:=4) (acc:=1) hl;have hn:=zBM c l c.pc 4 1;generalize zAF c l c.pc 4 1=R at *
 obtain ⟨a,m,k⟩:=R;simp only;split
 ·exact ⟨h.trap h.pc,hw,hn,hz⟩
 obtain ⟨a1,a2,a3,a4⟩:=zV0 h hw (zNx hw (a / 4));exact ⟨a1,a2,a3.trans hn,a4⟩
theorem zJO {m:MchD} (h:OkM m):OkM (zAK m):=by
 have hc:=zFA h;unfold zAK at *
 split
 ·exact h.wait false
 split
 ·exact h.wait false
 rename_i q _ _ hl;rw [if_neg q,hl] at hc;exact ⟨hc,h.w,h.n,h.k,h.t,h.d,h.r,h.tg,h.gv,h.ct⟩
theorem zFz {m:MchD} (h:OkM m):OkM (zBu m)/\OkE (effD m):=by
 have hb:=zJO h;obtain ⟨a1,a2,a3,a4⟩:=zTD hb.c h.w;exact ⟨⟨a1,a2,by show (zAo (zAK m).cpu m.mem).2.1.length<=1024;rw [a3];exact h.n,hb.k,hb.t,hb.d,hb.r,hb.tg,hb.gv,hb.ct⟩,a4⟩
theorem zNl {m:MchD} (h:OkM m) (p:Int) {k:Int} (hk:W32 k):OkM (zAc m p k).1/\W32 (zAc m p k).2:=by
 have hlen:(m.keys.length:Int)<4294967296:=by have:=h.k;omega
 have hkey:W32 (keyH m.keys):=by
  unfold keyH;split
  ·exact ⟨by decide,by decide⟩
  rename_i b _ _;have:=b.toNat_lt;exact ⟨by omega,by omega⟩
 unfold zAc;split
 ·unfold zHU;split
  ·exact ⟨⟨h.c,h.w,h.n,by simp only [List.length_tail];have:=h.k;omega,h.t,h.d,h.r,h.tg,h.gv,h.ct⟩,hkey⟩
  split
  ·exact ⟨h,⟨by omega,hlen⟩⟩
  exact ⟨h,zAs⟩
 split
 ·exact ⟨h,hk⟩
 split
 ·exact ⟨h,zT1 _⟩
 split
 ·refine ⟨h,?_⟩;unfold zRH
  repeat' split
  ·exact h.d.b
  ·exact h.d.c
  ·exact uw_w _
  exact zAs
 split
 ·refine ⟨h,?_⟩;unfold zRu
  repeat' split
  ·exact h.r.a
  ·exact h.r.d
  ·show W32 (b2w m.nc.posted+b2w m.nc.received*2)
   cases m.nc.posted<;>cases m.nc.received<;>exact ⟨by decide,by decide⟩
  exact zAs
 split
 ·refine ⟨h,?_⟩;unfold zQ1
  repeat' split
  ·exact h.tg
  ·have:=zDx h.gv;exact ⟨by omega,by omega⟩
  exact zAs
 exact ⟨h,zAs⟩
theorem zVz (s:Str) (i:Nat):W32 (zLb s i):=by
 unfold zLb;have:=(s.getD (4*i) 0).toNat_lt;have:=(s.getD (4*i+1) 0).toNat_lt;have:=(s.getD (4*i+2) 0).toNat_lt;have:=(s.getD (4*i+3) 0).toNat_lt;constructor<;>omega
theorem zTW {l:List Int} (h:OkW l) (o:Nat) (s:Str):∀ n,OkW (putW l o s n)
 | 0=>h
 | n+1=>zVZ (zTW h o s n) (zVz s n)
theorem zHA {l:List Int} (h:OkW l) (f:Int) (s:Str):OkW (zBd l f s):=zTW h _ s 32
theorem zER (l:List Int) (f:Int) (s:Str):(zBd l f s).length=l.length:=zMU _ _ _ _
theorem OkD.out {d:DskD} (h:OkD d) (l:List Int) (p:Int) {v:Int} (hv:W32 v) (t:Int):OkD (zBI d l p v t).1:=by
 obtain ⟨ha,hb,hc,he,hf⟩:=h;unfold zBI zBP
 repeat' split
 all_goals exact ⟨by first|exact ha|exact hv,by first|exact hb|exact hv,by first|exact hc|exact hv,by first|exact he|exact hb,by first|exact hf|exact hc⟩
theorem OkN.out {n:NicD} (h:OkN n) (l:List Int) (p:Int) {v:Int} (hv:W32 v) (t:Int):OkN (zAa n l p v t).1:=by
 obtain ⟨ha,hb,hc,hd⟩:=h;unfold zAa
 repeat' split
 all_goals first
  | exact ⟨ha,hb,hc,hd⟩
  | exact ⟨hv,hb,hc,hd⟩
  | exact ⟨ha,hv,hc,hd⟩
  | exact ⟨ha,hb,ha,hd⟩
  | exact ⟨ha,hb,hc,zAs⟩
  | (simp only [];split<;>first|exact ⟨ha,hb,hc,hd⟩|exact ⟨ha,hb,ha,hd⟩)
theorem zS2 {g:Int} {l:List Int} (hg:W32 g) (hl:OkW l) (p v:Int):W32 (zA7 g l p v).1/\OkW (zA7 g l p v).2/\(zA7 g l p v).2.length=l.length:=by
 have h1:=zHA hl v zE5;have h2:=zER l v zE5;unfold zA7;generalize zBd l v zE5=S at *
 have h0:W32 g/\OkW l/\l.length=l.length:=⟨hg,hl,rfl⟩;exact zA3 (P:=fun z:Int × List Int=>W32 z.1/\OkW z.2/\z.2.length=l.length) (fun _=>h0) (fun _=>zA3 (P:=fun z:Int × List Int=>W32 z.1/\OkW z.2/\z.2.length=l.length) (fun _=>zA3 (P:=fun z:Int × List Int=>W32 z.1/\OkW z.2/\z.2.length=l.length) (fun _=>⟨zUm _ _,h1,h2⟩) (fun _=>h0)) (fun _=>zA3 (P:=fun z:Int × List Int=>W32 z.1/\OkW z.2/\z.2.length=l.length) (fun _=>⟨zKz _ _,hl,rfl⟩) (fun _=>h0)))
theorem zLd {m:MchD} (h:OkM m) (p:Int) {v:Int} (hv:W32 v) (t:Int):OkM (zAJ m p v t).1:=by
 unfold zAJ;split
 ·exact h
 split
 ·exact ⟨h.c,h.w,h.n,h.k,hv,h.d,h.r,h.tg,h.gv,h.ct⟩
 split
 ·exact ⟨h.c,h.w,h.n,h.k,h.t,h.d.out _ _ hv _,h.r,h.tg,h.gv,h.ct⟩
 split
 ·exact ⟨h.c,h.w,h.n,h.k,h.t,h.d,h.r.out _ _ hv _,h.tg,h.gv,h.ct⟩
 split
 ·obtain ⟨a1,a2,a3⟩:=zS2 h.gv h.w p v;exact ⟨h.c,a2,by show (zA7 m.given m.mem p v).2.length<=1024;rw [a3];exact h.n,h.k,h.t,h.d,h.r,h.tg,a1,h.ct⟩
 exact h
theorem done_m {m:MchD} {e:EffD} (h:OkM m) (he:OkE e) {k:Int} (hk:W32 k) (t:Int):OkM (zBH m e k t).1:=by
 unfold zBH;split
 ·obtain ⟨a1,a2⟩:=zNl h e.port hk;exact ⟨a1.c.setR a2,a1.w,a1.n,a1.k,a1.t,a1.d,a1.r,a1.tg,a1.gv,a1.ct⟩
 split
 ·exact zLd h _ he.v _
 split
 ·exact h.wait true
 split
 ·exact ⟨h.c,h.w,h.n,h.k,h.t,h.d,h.r,h.tg,h.gv,h.ct⟩
 exact h
theorem zDy (m:MchD) (e:EffD) (k t:Int):(zBH m e k t).1.count=m.count:=by
 have h1:(zAc m e.port k).1.count=m.count:=by unfold zAc;(repeat' split)<;>rfl
 have h2:(zAJ m e.port e.val t).1.count=m.count:=by unfold zAJ;(repeat' split)<;>rfl
 unfold zBH
 repeat' split
 all_goals first|exact h1|exact h2|rfl
theorem zDD (m:MchD):(zBu m).count=m.count:=by
 show (zAK m).count=m.count
 unfold zAK;split;rfl;split<;>rfl
theorem zNP {m:MchD} (h:OkM m) (hr:runsD m=true) {k:Int} (hk:W32 k):OkM (goD m k).1/\(goD m k).1.count=m.count+1:=by
 have hc:m.count<1152921504606846976:=by unfold runsD at hr;simp at hr;exact hr.2
 obtain ⟨a1,a2⟩:=zFz h;have hd:=done_m a1 a2 hk m.count;have hq:=zDy (zBu m) (effD m) k m.count;rw [zDD] at hq;unfold goD;refine ⟨⟨hd.c,hd.w,hd.n,hd.k,hd.t,hd.d,hd.r,hd.tg,hd.gv,?_⟩,by show _+1=_;rw [hq]⟩
 show 0<=_+1/\_+1<_
 rw [hq];have:=h.ct;omega
theorem zQK {m:MchD} (h:OkM m) {k:Int} (hk:W32 k):OkM (stepD m k).1:=by
 unfold stepD;split
 ·rename_i q;exact (zNP h q hk).1
 exact h
theorem OkD.complete {d:DskD} (h:OkD d) (l:List Int) (e:EvD):OkD (zAO d l e).1:=by
 obtain ⟨ha,hb,hc,he,hf⟩:=h;unfold zAO doneD
 repeat' split
 all_goals first|exact ⟨ha,hb,hc,he,hf⟩|exact ⟨ha,hb,hc,zAs,zAs⟩
theorem zHu {d:DskD} {l:List Int} (hl:OkW l) (e:EvD):OkW (zAO d l e).2.1/\(zAO d l e).2.1.length=l.length:=by
 have h1:=zHA hl d.opFrame e.data;have h2:=zER l d.opFrame e.data;unfold zAO;generalize zBd l d.opFrame e.data=S at *
 have h0:OkW l/\l.length=l.length:=⟨hl,rfl⟩;exact zA3 (P:=fun z:DskD × List Int × Bool=>OkW z.2.1/\z.2.1.length=l.length) (fun _=>h0) (fun _=>zA3 (P:=fun z:DskD × List Int × Bool=>OkW z.2.1/\z.2.1.length=l.length) (fun _=>zA3 (P:=fun z:DskD × List Int × Bool=>OkW z.2.1/\z.2.1.length=l.length) (fun _=>⟨h1,h2⟩) (fun _=>h0)) (fun _=>zA3 (P:=fun z:DskD × List Int × Bool=>OkW z.2.1/\z.2.1.length=l.length) (fun _=>h0) (fun _=>h0)))
theorem zTX {n:NicD} {l:List Int} (hn:OkN n) (hl:OkW l) (s:Str):OkN (zAi n l s).1/\OkW (zAi n l s).2.1/\(zAi n l s).2.1.length=l.length:=by
 have h1:=zHA hl n.buffer (s++(zCx l n.buffer).drop s.length);have h2:=zER l n.buffer (s++(zCx l n.buffer).drop s.length);unfold zAi;generalize zBd l n.buffer (s++(zCx l n.buffer).drop s.length)=S at *
 obtain ⟨ha,hb,hc,hd⟩:=hn;refine zA3 (P:=fun z:NicD × List Int × Bool=>OkN z.1/\OkW z.2.1/\z.2.1.length=l.length) (fun q=>?_) (fun _=>⟨⟨ha,hb,hc,hd⟩,hl,rfl⟩)
 obtain ⟨q1,q2,q3,q4⟩:=q;exact ⟨⟨ha,hb,zAs,⟨by show (0:Int)<=(s.length:Int);omega,by show (s.length:Int)<4294967296;omega⟩⟩,h1,h2⟩
theorem zDE {m:MchD} (h:OkM m) {e:EvD} (he:W32 e.n):OkM (applyD m e).1/\(applyD m e).1.count=m.count:=by
 unfold applyD;split
 ·exact ⟨h,rfl⟩
 split
 ·split
  ·refine ⟨⟨h.c,h.w,h.n,h.k,?_,h.d,h.r,h.tg,h.gv,h.ct⟩,rfl⟩;unfold zGc;split<;>exact h.t
  exact ⟨h,rfl⟩
 split
 ·split
  ·refine ⟨⟨h.c,h.w,h.n,?_,h.t,h.d,h.r,h.tg,h.gv,h.ct⟩,rfl⟩;unfold zHI;split
   ·exact h.k
   simp;omega
  exact ⟨h,rfl⟩
 split
 ·obtain ⟨a1,a2⟩:=zHu (d:=m.dk) h.w e;exact ⟨⟨h.c,a1,by show (zAO m.dk m.mem e).2.1.length<=1024;rw [a2];exact h.n,h.k,h.t,h.d.complete _ _,h.r,h.tg,h.gv,h.ct⟩,rfl⟩
 split
 ·split
  ·obtain ⟨a1,a2,a3⟩:=zTX h.r h.w e.data;exact ⟨⟨h.c,a2,by show (zAi m.nc m.mem e.data).2.1.length<=1024;rw [a3];exact h.n,h.k,h.t,h.d,a1,h.tg,h.gv,h.ct⟩,rfl⟩
  exact ⟨h,rfl⟩
 split
 ·split
  ·exact ⟨⟨h.c,h.w,h.n,h.k,h.t,h.d,h.r,he,h.gv,h.ct⟩,rfl⟩
  exact ⟨h,rfl⟩
 exact ⟨h,rfl⟩
theorem zKd (m:MchD) (p v t:Int) (hM:OkM m) (hv:W32 v):zAD prog 182 [.st m.row,iv p,uv v,lv t] (.tup [.st (zAJ m p v t).1.row,zLI (zAJ m p v t).2]):=by
 have hd:=zOY m.dk m.mem p v t hM.d.c hv;have hn:=zPW m.nc m.mem p v t hM.r.a hM.r.b;have hb:=zN9 m.tgt m.given m.mem p v hM.gv hv (by have:=hM.n;omega)
 by_cases h0:p=0
 ·subst h0;have hbv:zB0 [.int .u8 (IntKind.u8.wrap v)]:=zOK v;have hE:zAJ m 0 v t=(m,[⟨1,t,0,[UInt8.ofNat (v % 256).toNat]⟩]):=by simp [zAJ]
  have hw:zDW [.int .u8 (IntKind.u8.wrap v)]=UInt8.ofNat (v % 256).toNat:=by simp [zDW,IntKind.wrap_u8]
  rw [hE];refine sZ func182 ntmps182 ?_;exact wx1 trivial trivial (kX3 @hbv @hw @zR3)
 by_cases h3:p=3
 ·subst h3;have hE:zAJ m 3 v t=({m with tim:=armD v},[]):=by simp [zAJ]
  rw [hE];refine sZ func182 ntmps182 ?_;exact wx1 (qX1 (arm_ok m.tim v)) trivial @outs.eq_1
 by_cases h4:p=4\/p=5\/p=6
 ·have hE:zAJ m p v t=({m with dk:=(zBI m.dk m.mem p v t).1},(zBI m.dk m.mem p v t).2):=by unfold zAJ;rw [if_neg h0,if_neg h3,if_pos h4]
  rw [hE];generalize zBI m.dk m.mem p v t=R at *
  rcases h4 with rfl|rfl|rfl
  ·refine sZ func182 ntmps182 ?_;exact wx (qX1 (hd)) trivial
  ·refine sZ func182 ntmps182 ?_;exact wx (qX1 (hd)) trivial
  refine sZ func182 ntmps182 ?_;exact wx (qX1 (hd)) trivial
 by_cases h7:p=7\/p=8\/p=9
 ·have hE:zAJ m p v t=({m with nc:=(zAa m.nc m.mem p v t).1},(zAa m.nc m.mem p v t).2):=by unfold zAJ;rw [if_neg h0,if_neg h3,if_neg h4,if_pos h7]
  rw [hE];generalize zAa m.nc m.mem p v t=R at *
  rcases h7 with rfl|rfl|rfl
  ·refine sZ func182 ntmps182 ?_;exact wx (qX1 (hn)) trivial
  ·refine sZ func182 ntmps182 ?_;exact wx (qX1 (hn)) trivial
  refine sZ func182 ntmps182 ?_;exact wx (qX1 (hn)) trivial
 by_cases h10:p=10\/p=11
 ·have hE:zAJ m p v t=({m with given:=(zA7 m.given m.mem p v).1,mem:=(zA7 m.given m.mem p v).2},[]):=by unfold zAJ;rw [if_neg h0,if_neg h3,if_neg h4,if_neg h7,if_pos h10]
  rw [hE];generalize zA7 m.given m.mem p v=R at *
  rcases h10 with rfl|rfl
  ·refine sZ func182 ntmps182 ?_;exact wx (qX1 (hb)) trivial
  refine sZ func182 ntmps182 ?_;exact wx (qX1 (hb)) trivial
 have hE:zAJ m p v t=(m,[]):=by unfold zAJ;rw [if_neg h0,if_neg h3,if_neg h4,if_neg h7,if_neg h10]
 rw [hE];have n4:¬ p=4:=by omega
 have n5:¬ p=5:=by omega
 have n6:¬ p=6:=by omega
 have n7:¬ p=7:=by omega
 have n8:¬ p=8:=by omega
 have n9:¬ p=9:=by omega
 have n10:¬ p=10:=by omega
 have n11:¬ p=11:=by omega
 refine sZ func182 ntmps182 ?_;exact wx1 trivial trivial (kX10 @h0 @h3 @n4 @n5 @n6 @n7 @n8 @n9 @n10 @n11)
theorem zHb (m:MchD) (p k:Int):(zAc m p k).1.count=m.count:=by unfold zAc;(repeat' split)<;>rfl
theorem zHR (m:MchD) (p v t:Int):(zAJ m p v t).1.count=m.count:=by unfold zAJ;(repeat' split)<;>rfl
theorem zKj (m:MchD):(zAK m).count=m.count:=by unfold zAK;split;rfl;split<;>rfl
theorem zRs (m:MchD) {r:Int} (v:Int) (h0:0<=r) (h1:r<=15):m.row.set r.toNat (uv v)=({m with cpu:=m.cpu.setX r v}:MchD).row:=by
 rcases zG3 h0 h1 with rfl|rfl|rfl|rfl|rfl|rfl|rfl|rfl|rfl|rfl|rfl|rfl|rfl|rfl|rfl|rfl<;>simp [CpuD.setX]
theorem step_ok (m:MchD) (k:Int) (hM:OkM m) :
  zAD prog 131 [.st m.row,uv k] (.tup [.st (stepD m k).1.row,zLI (stepD m k).2]):=by
 obtain ⟨hb,he⟩:=zFz hM;have hcl:=zCH (ints .u32 m.mem) false 1 (.inl rfl) (by rw [zAN];have:=hM.n;omega)
 have hr:=zQC m hM;cases hR:runsD m with
 | false =>
  have hE:stepD m k=(m,[]):=by unfold stepD;rw [hR];rfl
  rw [hR] at hr;rw [hE];refine sZ func131 ntmps131 ?_;exact wx (qX2 (hcl) (hr)) trivial
 | true =>
  have hE:stepD m k=goD m k:=by unfold stepD;rw [hR];rfl
  rw [hR] at hr;rw [hE];have hx:=zOl (zAK m).cpu m.mem (zFA hM) hM.w (by have:=hM.n;omega)
  have hbe:=zLj m hM;have hm:=zKk m;have hbc:=zKj m;have hct0:=hM.ct;unfold goD effD zBu;unfold effD at he;unfold zBu at hb;generalize zAK m=b at *
  generalize zAo b.cpu m.mem=Z at *
  obtain ⟨M,hMd⟩:∃ M:MchD,M={b with cpu:=Z.1,mem:=Z.2.1}:=⟨_,rfl⟩
  have hMc:M.count=m.count:=by rw [hMd];exact hbc
  rw [<- hMd] at hb ⊢;by_cases k1:Z.2.2.kind=1
  ·obtain ⟨r0,r1⟩:=he.r k1;have hp:=zLQ M Z.2.2.port k hb;have hc:=zHb M Z.2.2.port k;have hD:zBH M Z.2.2 k m.count=({(zAc M Z.2.2.port k).1 with cpu:=(zAc M Z.2.2.port k).1.cpu.setR Z.2.2.reg (zAc M Z.2.2.port k).2},[]):=by unfold zBH;rw [if_pos k1]
   rw [hD];generalize zAc M Z.2.2.port k=R at *
   rw [hMc] at hc;have hct:IntKind.u64.wrap (R.1.count+1)=R.1.count+1:=u64_in (by omega) (by omega)
   subst hMd;by_cases hz:Z.2.2.reg=0
   ·refine sZ func131 ntmps131 ?_;exact wx1 (qX5 (hcl) (hr) (hbe) (hx) (hp)) trivial (kX5 @hm @k1 @hz @hct @CpuD.setR.eq_1)
   have hs:=zRs R.1 R.2 r0 r1;simp at hs;refine sZ func131 ntmps131 ?_;exact wx1 (qX5 (hcl) (hr) (hbe) (hx) (hp)) trivial (kX6 @hm @k1 @hz @hct @hs @CpuD.setR.eq_1)
  by_cases k2:Z.2.2.kind=2
  ·have hp:=zKd M Z.2.2.port Z.2.2.val m.count hb he.v;have hc:=zHR M Z.2.2.port Z.2.2.val m.count;have hD:zBH M Z.2.2 k m.count=zAJ M Z.2.2.port Z.2.2.val m.count:=by unfold zBH;rw [if_neg k1,if_pos k2]
   rw [hD];generalize zAJ M Z.2.2.port Z.2.2.val m.count=R at *
   rw [hMc] at hc;have hct:IntKind.u64.wrap (R.1.count+1)=R.1.count+1:=u64_in (by omega) (by omega)
   subst hMd;refine sZ func131 ntmps131 ?_;exact wx1 (qX5 (hcl) (hr) (hbe) (hx) (hp)) trivial (kX3 @hm @k2 @hct)
  have hct:IntKind.u64.wrap (b.count+1)=b.count+1:=u64_in (by omega) (by omega)
  by_cases k3:Z.2.2.kind=3
  ·have hD:zBH M Z.2.2 k m.count=({M with waiting:=true},[]):=by unfold zBH;rw [if_neg k1,if_neg k2,if_pos k3]
   rw [hD];subst hMd;refine sZ func131 ntmps131 ?_;exact wx1 (qX4 (hcl) (hr) (hbe) (hx)) trivial (kX3 @hm @k3 @hct)
  by_cases k4:Z.2.2.kind=4
  ·have hD:zBH M Z.2.2 k m.count=({M with halted:=true},[]):=by unfold zBH;rw [if_neg k1,if_neg k2,if_neg k3,if_pos k4]
   rw [hD];subst hMd;refine sZ func131 ntmps131 ?_;exact wx1 (qX4 (hcl) (hr) (hbe) (hx)) trivial (kX3 @hm @k4 @hct)
  have hD:zBH M Z.2.2 k m.count=(M,[]):=by unfold zBH;rw [if_neg k1,if_neg k2,if_neg k3,if_neg k4]
  rw [hD];subst hMd;refine sZ func131 ntmps131 ?_;exact wx1 (qX4 (hcl) (hr) (hbe) (hx)) trivial (kX6 @hm @k1 @k2 @k3 @k4 @hct)
structure OkV (e:EvD):Prop where
 n:W32 e.n
 d:e.data.length<=100000
structure OkR (r:RecD) (k:Nat):Prop where
 m:OkM r.m
 c:W32 r.clock
 l:r.log.length<=k
 q:r.queue.length<=1000
 v:∀ e∈r.queue,OkV e
 t:∀ e∈r.log,OkT e
theorem OkR.up {r:RecD} {k k':Nat} (h:OkR r k) (hk:k<=k'):OkR r k':=⟨h.m,h.c,zWR h.l hk,h.q,h.v,h.t⟩
theorem zOc {l:List EntD} {e:EntD} (h:∀ x∈l,OkT x) (he:OkT e):∀ x∈l++[e],OkT x:=by
 intro x hx
 rcases List.mem_append.1 hx with q|q
 ·exact h x q
 rw [List.mem_singleton.1 q];exact he
theorem zCb {m:MchD} (h:OkM m):L64 m.count:=⟨h.ct.1,by have:=h.ct.2;omega⟩
theorem OkR.offer {r:RecD} {k:Nat} (h:OkR r k) {e:EvD} (he:OkV e):OkR (zAV r e) (k+1)/\(zAV r e).clock=r.clock/\(zAV r e).queue=r.queue/\(zAV r e).m.count=r.m.count:=by
 obtain ⟨a1,a2⟩:=zDE h.m he.n;unfold zAV;split
 ·exact ⟨⟨a1,h.c,by simp;exact h.l,h.q,h.v,zOc h.t ⟨zCb h.m,he.n⟩⟩,rfl,rfl,a2⟩
 exact ⟨h.up (by omega),rfl,rfl,rfl⟩
theorem timV:OkV ⟨2,0,[]⟩:=⟨zAs,by simp⟩
theorem OkR.tick {r:RecD} {k:Nat} (h:OkR r k):OkR (zAu r) (k+1)/\(zAu r).clock=r.clock/\(zAu r).queue=r.queue/\(zAu r).m.count=r.m.count:=by
 unfold zAu;split
 ·exact h.offer timV
 exact ⟨h.up (by omega),rfl,rfl,rfl⟩
theorem OkR.clk {r:RecD} {k:Nat} (h:OkR r k):OkR (clkR r) (k+1)/\(clkR r).clock=r.clock/\(clkR r).queue=r.queue/\(clkR r).m=r.m:=by
 unfold clkR;split
 ·exact ⟨⟨h.m,h.c,by simp;exact h.l,h.q,h.v,zOc h.t ⟨zCb h.m,h.c⟩⟩,rfl,rfl,rfl⟩
 exact ⟨h.up (by omega),rfl,rfl,rfl⟩
theorem OkR.go {r:RecD} {k:Nat} (h:OkR r k):OkR (goR r).1 (k+1):=by
 obtain ⟨a,-,-,-⟩:=h.clk;exact ⟨zQK h.m h.c,uw_w _,a.l,a.q,a.v,a.t⟩
theorem OkR.run:∀ (n:Nat) {r:RecD} {k:Nat} (o:List OutD),OkR r k->OkR (runR n r o).1 (k+2*n)
 | 0,r,k,o,h=>h
 | n+1,r,k,o,h=>by
  obtain ⟨h1,-⟩:=h.tick;unfold runR;split
  ·exact h1.up (by omega)
  exact (OkR.run n _ h1.go).up (by omega)
theorem OkR.offers:∀ (l:List EvD) {r:RecD} {k:Nat},OkR r k->(∀ e∈l,OkV e)->OkR (l.foldl zAV r) (k+l.length)/\(l.foldl zAV r).clock=r.clock
 | [],r,k,h,_=>⟨h,rfl⟩
 | e::l,r,k,h,hl=>by
  obtain ⟨h1,h2,-,-⟩:=h.offer (hl e (zV8 ..));obtain ⟨h3,h4⟩:=OkR.offers l h1 (fun x hx=>hl x (zV4 _ hx))
  exact ⟨h3.up (by simp;omega),h4.trans h2⟩
theorem zNW {a b:Int} (ha:W32 a) (hb:W32 b):W32 (max a b):=⟨by have:=ha.1;omega,by have:=ha.2;have:=hb.2;omega⟩
theorem OkR.queue {r:RecD} {k:Nat} (h:OkR r k) {clock:Int} (hc:W32 clock):OkR (zBb r clock) (k+r.queue.length):=by
 have h0:OkR {r with clock:=max r.clock clock} k:=⟨h.m,zNW h.c hc,h.l,h.q,h.v,h.t⟩
 obtain ⟨a,-⟩:=OkR.offers r.queue h0 h.v;exact ⟨a.m,a.c,a.l,by simp [zBb],by simp [zBb],a.t⟩
theorem zK6 (n:Int):limS n<=4000:=by unfold limS;omega
theorem OkR.adv {r:RecD} {k:Nat} (h:OkR r k) (steps:Int) {clock:Int} (hc:W32 clock):OkR (advD r steps clock).1 (k+r.queue.length+2*limS steps):=by
 unfold advD;split
 ·exact OkR.run _ _ (h.queue hc)
 exact h.up (by omega)
theorem zDs (m:MchD) (k:Int):(stepD m k).2.length<=1:=by
 have hi:∀ (d:DskD) (l:List Int) (c t:Int),(zBP d l c t).2.length<=1:=fun d l c t=>by unfold zBP;(repeat' split)<;>simp
 have hd:∀ (d:DskD) (l:List Int) (p v t:Int),(zBI d l p v t).2.length<=1:=fun d l p v t=>by
  unfold zBI
  (repeat' split)<;>first|exact hi _ _ _ _|simp
 have hn:∀ (n:NicD) (l:List Int) (p v t:Int),(zAa n l p v t).2.length<=1:=fun n l p v t=>by
  unfold zAa
  (repeat' split)<;>first|simp|(simp only [];split<;>simp)
 have hw:∀ (m:MchD) (p v t:Int),(zAJ m p v t).2.length<=1:=fun m p v t=>by
  unfold zAJ
  (repeat' split)<;>first|exact hd _ _ _ _ _|exact hn _ _ _ _ _|simp
 unfold stepD;split
 ·show (zBH _ _ _ _).2.length<=1
  unfold zBH
  (repeat' split)<;>first|exact hw _ _ _ _|simp
 simp
theorem zMg:∀ (n:Nat) (r:RecD) (o:List OutD),(runR n r o).2.length<=o.length+n
 | 0,r,o=>by simp [runR]
 | n+1,r,o=>by
  unfold runR;split
  ·show o.length<=_;omega
  refine zWR (zMg n _ _) ?_;have:=zDs (zAu r).m (zAu r).clock;simp [goR];omega
theorem zEU (r:RecD) (steps clock:Int):(advD r steps clock).2.length<=limS steps:=by
 unfold advD;split
 ·exact zWR (zMg _ _ _) (by simp)
 simp

end Go.Proofs.YthjpcmecgjfilaaGreat
end
