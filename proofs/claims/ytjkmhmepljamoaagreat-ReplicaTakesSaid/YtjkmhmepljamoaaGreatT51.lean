/- A part of the proof of ReplicaTakes. -/
import Derived.Test.YtjkmhmepljamoaaGreatT05
import Derived.Test.YtjkmhmepljamoaaGreatT31
import Derived.Test.YtjkmhmepljamoaaGreatT35
import Derived.Test.YtjkmhmepljamoaaGreatT46
import Derived.Test.YtjkmhmepljamoaaGreatT47
import Derived.Test.YtjkmhmepljamoaaGreatT50
set_option linter.all false
set_option maxHeartbeats 16000000
set_option maxRecDepth 100000
section
namespace Go.Proofs.YtjkmhmepljamoaaGreat
open Go.Ab Go.RowKit Tryz
def Gr(t:DetD):DetD:=if t.silent<t.limit then {t with silent:=t.silent+1}else t
theorem detV{t:DetD}(h:detD t):(decide (1<=t.limit)&&decide (t.limit<=20)&&decide (0<=t.silent)&&decide (t.silent<=t.limit))=true:=by
 obtain⟨h1,h2,h3,h4⟩:=h;simp[h1,h2,h3,h4]
theorem YC(t:DetD)(hd:detD t):AC prog 35 [.st t.row] (.st (Gr t).row):=by
 have hv:=GW t;rw[detV hd]at hv;obtain⟨h1,h2,h3,h4⟩:=hd;by_cases hc:t.silent<t.limit
 ·have hR:Gr t={t with silent:=t.silent+1}:=by unfold Gr;rw[if_pos hc]
  have w:IntKind.i64.wrap (t.silent+1)=t.silent+1:=AA (by omega) (by omega);rw[hR];refine sX func35 ntmps35 ?_;refine cX (hv) ?_;refine DT @hc @w ?_;refine ar ?_;simp
 have hR:Gr t=t:=by unfold Gr;rw[if_neg hc]
 rw[hR];refine sX func35 ntmps35 ?_;refine cX (hv) ?_;refine B1 @hc ?_;refine ar ?_;simp
theorem Oc(t:DetD)(hd:detD t):AC prog 37 [.st t.row] (.bool (decide (t.silent=t.limit))):=by
 have hv:=GW t;rw[detV hd]at hv;refine sX func37 ntmps37 ?_;refine cX (hv) ?_;intros;apply wr;refine ar ?_;simp;rw[Bool.eq_iff_iff];simp
theorem Fq(r:RepD):AC prog 34 [.st r.row] (.bool (decide (r.role=1)||decide (r.role=2))):=by
 refine sX func34 ntmps34 ?_;refine au ?_;intros;apply wr;refine ar ?_;simp;rw[Bool.eq_iff_iff];simp
theorem QU(r:RepD)(h:OkP r 40000)(hro:r.role=1\/r.role=2)(hd:detD r.watch):AC prog 11 [.st r.row] (.st (RepD.row {r with watch:=Gr r.watch})):=by
 have hcl:=ED r h;have hw:=Fq r;have ht:=YC r.watch hd;have e:(decide (r.role=1)||decide (r.role=2))=true:=by simp;exact hro
 rw[e]at hw;generalize Gr r.watch=t at *;refine sX func11 ntmps11 ?_;refine cX (hcl) ?_;refine cX (hw) ?_;refine CU ?_;refine cX (ht) ?_;refine aw ?_;simp
theorem SE(bs:List (List UInt8))(g o:Int)(hg:1<=g/\g<=4611686018427387904)(ho:0<=o)(hb:∀b∈bs,b.length=128)(h1:1<=bs.length)(h2:bs.length<=64):AC prog 85 [BL bs g o] (.bool true):=by
 have hl:=Cd bs;have c1:¬(bs.length:Int)<1:=by omega
 have c2:¬(64:Int)<bs.length:=by omega
 have c3:¬4611686018427387904<g:=by omega
 have c4:¬g=0:=by omega
 refine sY func85 ntmps85 @hl ?_;refine EL (kX4 @hl @c1 @c2 @c3) @hl ?_;intros;apply wr;obtain⟨I,hI⟩:∃I:Nat->St->Prop,I=(fun kk ss=>∃(i:Nat),i<=bs.length/\kk=bs.length-i/\(True)/\ss=⟨40,[(23,.int .i64 i),(22,.int .i64 bs.length),(21,.sl 1 false (strs bs)),(1,.ptr 0 3 0 0)],1,[(0,some ⟨64,3,true,false,[[.sl 1 false (strs bs),lv g,iv o]]⟩)],0⟩):=⟨_,rfl⟩;refine lX I (id) (by rw[hI];exact⟨0,by simp,rfl,trivial,rfl⟩) ?_;intro kk ss hIk _;rw[hI]at hIk;obtain⟨i,hi,rfl,hx,rfl⟩:=hIk;refine au1 @hl ?_;intros;apply wr;refine AB rfl (fun h=>?_) (fun h=>?_)
 ·simp at h;obtain⟨s,hs,-,-,hm⟩:=get_at (show i<bs.length by omega);have hge:=hb s hm;have hsg:=NH hs;refine J4 (kX3 @hl @hsg @hge) ?_;refine CX ?_;intros;apply wr;exact aX (id) (by rw[hI];exact⟨i+1,by omega,rfl,trivial,rfl⟩) (AA (n:=(i:Int)+1) (by omega) (by omega))
 simp at h;refine au ?_;refine B1 @c4 ?_;refine ar ?_;simp[ho]
theorem MA(bs:List (List UInt8))(g o host:Int)(hg:1<=g/\g<4611686018427387904)(ho:0<=o)(hb:∀b∈bs,b.length=128)(h1:1<=bs.length)(h2:bs.length<=64)(hh:0<=host):
  AC prog 38 [BL bs g o,iv host,lv g] (.tup [BL bs (g+1) host,.bool true]):=by
 have hc:=Lk bs g o (by omega);have hv:=SE bs g o ⟨hg.1,by omega⟩ ho hb h1 h2;have c1:¬host<0:=by omega
 have c2:¬4611686018427387904<=g:=by omega
 have w:IntKind.u64.wrap (g+1)=g+1:=by rw[IntKind.wrap_u64];omega
 refine sX func38 ntmps38 ?_;refine cX (hc) ?_;refine cX (hv) ?_;refine EL (kX2 @c1 @c2) @w ?_;refine aw ?_;simp
theorem S2(bs:List (List UInt8))(g o host k:Int)(hg:1<=g/\g<4611686018427387904)(ho:0<=o)(hb:∀b∈bs,b.length=128)(h1:1<=bs.length)(h2:bs.length<=64)(hh:0<=host)(hk:¬g=k):
  AC prog 38 [BL bs g o,iv host,lv k] (.tup [BL bs g o,.bool false]):=by
 have hc:=Lk bs g o (by omega);have hv:=SE bs g o ⟨hg.1,by omega⟩ ho hb h1 h2;have c1:¬host<0:=by omega
 have c2:(g != k)=true:=by simpa using hk
 refine sX func38 ntmps38 ?_;refine cX (hc) ?_;refine cX (hv) ?_;refine EM (kX2 @c1 @c2) ?_;refine aw ?_;simp
theorem T9(p:RplD)(h:p.m.count<=p.known)(h0:0<=p.m.count)(h1:L64 p.known):AC prog 86 [.st p.row] (lv (p.known-p.m.count)):=by
 have c:¬p.known<p.m.count:=by omega
 have w:IntKind.u64.wrap (p.known-p.m.count)=p.known-p.m.count:=by have:=h1.2;rw[IntKind.wrap_u64];omega
 refine sX func86 ntmps86 ?_;refine EL @c @w ?_;refine ar ?_;simp
theorem Zy(a b:List Int)(ha:a.length<=100000)(hb:b.length<=100000):AC prog 142 [.sl 1 false (ints .u32 a),.sl 1 false (ints .u32 b)] (.bool (decide (a=b))):=by
 have hla:=AM .u32 a;have hlb:=AM .u32 b;by_cases hl:a.length=b.length
 ·have hli:(a.length:Int)=b.length:=by omega
  refine sY func142 ntmps142 (kX2 @hla @hlb) ?_;refine EL @hli (kX2 @hla @hlb) ?_;intros;apply wr;obtain⟨I,hI⟩:∃I:Nat->St->Prop,I=(fun kk ss=>∃(i:Nat),i<=a.length/\kk=a.length-i/\(a.take i=b.take i)/\ss=⟨26,[(13,.int .i64 i),(12,.int .i64 a.length),(0,.sl 1 false (ints .u32 a)),(1,.sl 1 false (ints .u32 b))],0,[],0⟩):=⟨_,rfl⟩;refine lX I (id) (by rw[hI];exact⟨0,by simp,rfl,rfl,rfl⟩) ?_;intro kk ss hIk _;rw[hI]at hIk;obtain⟨i,hi,rfl,hx,rfl⟩:=hIk;refine au1 @hla ?_;intros;apply wr;refine AB rfl (fun h=>?_) (fun h=>?_)
  ·simp at h;obtain⟨x,gx,-,tx,-⟩:=get_at (show i<a.length by omega);obtain⟨y,gy,-,ty,-⟩:=get_at (show i<b.length by omega);have g1:=Bh (k:=.u32) gx;have g2:=Bh (k:=.u32) gy;have q1:(i:Int)<b.length:=by omega
   by_cases hxy:x=y
   ·subst hxy;refine au ?_;intros;apply wr;refine AG 9 [0,0,3,7,0,0,48,112,255] [(8,([[],[],[0,1],[0,1,2],[],[],[4,5],[4,5,6]],[])),(1,([],[]))] ?_;refine afm1 (kX5 @hla @hlb @g1 @g2 @q1) ?_;refine BU ?_;intros;apply wr;exact aX (id) (by rw[hI];exact⟨i+1,by omega,rfl,(by rw[tx,ty,hx]),rfl⟩) (AA (n:=(i:Int)+1) (by omega) (by omega))
   have hne:¬a=b:=fun z=>by subst z;rw[gx]at gy;exact hxy (Option.some.inj gy)
   refine af ?_;intros;apply wr;refine AG 9 [0,0,3,7,0,0,48,112,255] [(8,([[],[],[0,1],[0,1,2],[],[],[4,5],[4,5,6]],[])),(1,([],[]))] ?_;refine afm1 (kX5 @hla @hlb @g1 @g2 @q1) ?_;refine Eh @hxy ?_;refine ar ?_;simp[hne]
  simp at h;have hab:a=b:=by
   have:i=a.length:=by omega
   rw[this,List.take_length,hl,List.take_length]at hx;exact hx
  refine af ?_;refine ar ?_;simp[hab]
 have hne:¬a=b:=fun z=>hl (by rw[z]);have hli:¬(a.length:Int)=b.length:=by omega
 refine sY func142 ntmps142 (kX2 @hla @hlb) ?_;refine Eh @hli ?_;refine ar ?_;simp[hne]
theorem Wk(m n:MchD)(h1:m.mem.length<=100000)(h2:n.mem.length<=100000):∃c,AC prog 87 [.st m.row,.st n.row] (.bool c):=by
 have he:=Zy m.mem n.mem h1 h2;apply Exists.intro;refine sY func87 ntmps87 @FB.eq_1 ?_;refine cY (he) @FB.eq_1 ?_;intros;apply wr;apply BO;simp;rfl
def Mc(p:RplD):RecD:=⟨appL p.m p.log,p.clock,[],[]⟩
theorem M4(p:RplD)(hM:OkM p.m)(hmay:mayD p.m=true)(hc:p.m.count=p.known)(hv:∀e∈p.log,OkV e.ev)(hl:p.log.length<=50000):AC prog 88 [.st p.row] (.tup [.st (Mc p).row,.bool true]):=by
 have hmy:=It p.m hM.gv.1 (by have:=hM.gv.2;omega);rw[hmay]at hmy;have hel:=BA p.log;refine sX func88 ntmps88 ?_;refine cX (hmy) ?_;refine EL @hc @hel ?_;intros;apply wr;obtain⟨I,hI⟩:∃I:Nat->St->Prop,I=(fun kk ss=>∃(i:Nat)(m:MchD),i<=p.log.length/\kk=p.log.length-i/\(m=appL p.m (p.log.take i)/\OkM m/\mayD m=true)/\ss=⟨44,[(26,.int .i64 i),(25,.int .i64 p.log.length),(24,Br p.log),(4,.ptr 3 49 0 0),(1,.ptr 0 52 0 0),(2,.ptr 1 52 0 0)],4,[(3,some ⟨42,49,true,false,[m.row]⟩),(0,some ⟨48,52,true,false,[p.row]⟩),(1,some ⟨46,52,true,false,[zMR++[uv 0,.sl 0 true [],.sl 0 true []]]⟩)],0⟩):=⟨_,rfl⟩;refine lX I (id) (by rw[hI];exact⟨0,p.m,by simp,rfl,⟨by simp[appL],hM,hmay⟩,rfl⟩) ?_;intro kk ss hIk _;rw[hI]at hIk;obtain⟨i,m,hi,rfl,hx,rfl⟩:=hIk;refine au1 @hel ?_;intros;apply wr;refine AB rfl (fun hh=>?_) (fun hh=>?_)
 ·simp at hh;obtain⟨hx1,hx2,hx3⟩:=hx;obtain⟨e,he,-,-,hmem⟩:=get_at (show i<p.log.length by omega);have hge:=B0 he;have hev:=hv e hmem;have hap:=K9 m e.ev hx2 hev.n hev.d;refine J4 (kX2 @hel @hge) ?_;refine cX (hap) ?_;intros;apply wr;exact aX (id) (by rw[hI];exact⟨i+1,(applyD m e.ev).1,by omega,rfl,⟨by show _=List.foldl _ _ _;rw[List.take_add_one,he,Option.toList_some,List.foldl_append];rw[hx1];rfl,(DU hx2 hev.n).1,CO hx2 hx3 e.ev⟩,rfl⟩) (AA (n:=(i:Int)+1) (by omega) (by omega))
 simp at hh;have hfin:m=appL p.m p.log:=by rw[hx.1,fZ (by omega)]
 have hMm:=hx.2.1;clear hx;have hrn:=My m (by have:=hMm.n;omega);have hR:Mc p=⟨m,p.clock,[],[]⟩:=by unfold Mc;rw[hfin]
 refine au ?_;refine cX (hrn) ?_;refine aw ?_;simp[hR]
def We(r:RepD):RepD:={r with role:=3,rec_:=Mc r.rpl,rpl:=zRpl,cmd:=0,cmdAt:=0}
theorem TK(r:RepD):AC prog 39 [.st r.row] (.st (RepD.row {r with role:=0})):=by
 refine sZ func39 ntmps39 ?_;exact wx trivial trivial
abbrev ovrT:List (Nat×V):=[(1,.ptr 0 125 0 0),(2,.ptr 1 125 0 0)]
abbrev ovrO(r:RepD):List (Nat×Option Ob):=[(0,some ⟨61,125,true,false,[RepD.row r]⟩),(1,some ⟨61,125,true,false,[zRR]⟩)]
theorem Wv(r:RepD)(hM:OkM r.rpl.m)(hmay:mayD r.rpl.m=true)(hc:r.rpl.m.count=r.rpl.known)(hv:∀e∈r.rpl.log,OkV e.ev)(hl:r.rpl.log.length<=50000):AC prog 40 [.st r.row] (.st (We r).row):=by
 have hgo:=M4 r.rpl hM hmay hc hv hl;have hct:=Cj hM;have hlag:=T9 r.rpl (by omega) hct.1 (by rw[<- hc];exact hct);rw[show r.rpl.known-r.rpl.m.count=0 by omega]at hlag;have hR:We r={r with role:=3,rec_:=Mc r.rpl,rpl:=zRpl,cmd:=0,cmdAt:=0}:=rfl;generalize Mc r.rpl=L at *;rw[hR];refine sX func40 ntmps40 ?_;intros;apply wr;obtain⟨I,hI⟩:∃I:Nat->St->Prop,I=(fun kk ss=>∃(i:Nat),i<=0/\kk=0-i/\(True)/\ss=⟨34,ovrT,2,ovrO r,0⟩):=⟨_,rfl⟩;refine lX I (id) (by rw[hI];exact⟨0,by simp,rfl,trivial,rfl⟩) ?_;intro kk ss hIk _;rw[hI]at hIk;obtain⟨i,hi,rfl,hx,rfl⟩:=hIk;refine au ?_;refine cX (hlag) ?_;refine CX ?_;refine cX (hgo) ?_;refine aw ?_;simp
theorem Ww(r:RepD)(hlt:r.rpl.m.count<r.rpl.known)(h0:OkM r.rpl.m)(hk:L64 r.rpl.known)(hf:AC prog 28 [.st r.row,iv 4000] (.st (GF r 4000).row))
  (hM:OkM (GF r 4000).rpl.m) (hmay:mayD (GF r 4000).rpl.m=true) (hc:(GF r 4000).rpl.m.count=(GF r 4000).rpl.known) (hv:∀e∈(GF r 4000).rpl.log,OkV e.ev) (hl:(GF r 4000).rpl.log.length<=50000) :
  AC prog 40 [.st r.row] (.st (We (GF r 4000)).row):=by
 generalize GF r 4000=q at *;have hgo:=M4 q.rpl hM hmay hc hv hl;have hct:=Cj hM;have hlag:=T9 q.rpl (by omega) hct.1 (by rw[<- hc];exact hct);rw[show q.rpl.known-q.rpl.m.count=0 by omega]at hlag;have hlag1:=T9 r.rpl (by omega) (Cj h0).1 hk;have hpos:0<r.rpl.known-r.rpl.m.count:=by omega
 obtain⟨d,hd⟩:∃d,r.rpl.known-r.rpl.m.count=d:=⟨_,rfl⟩;rw[hd]at hlag1 hpos;obtain⟨c,hsm⟩:=Wk r.rpl.m q.rpl.m (by have:=h0.n;omega) (by have:=hM.n;omega);have hR:We q={q with role:=3,rec_:=Mc q.rpl,rpl:=zRpl,cmd:=0,cmdAt:=0}:=rfl;generalize Mc q.rpl=L at *;rw[hR];refine sX func40 ntmps40 ?_;intros;apply wr;obtain⟨I,hI⟩:∃I:Nat->St->Prop,I=(fun kk ss=>∃(i:Nat)(x:RepD),i<=1/\kk=1-i/\((i=0/\x=r)\/(i=1/\x=q))/\ss=⟨34,ovrT,2,ovrO x,0⟩):=⟨_,rfl⟩;refine lX I (id) (by rw[hI];exact⟨0,r,by simp,rfl,.inl ⟨rfl,rfl⟩,rfl⟩) ?_;intro kk ss hIk _;rw[hI]at hIk;obtain⟨i,x,hi,rfl,hx,rfl⟩:=hIk;rcases hx with⟨hi0,rfl⟩|⟨hi0,rfl⟩
 ·refine au ?_;refine cX (hlag1) ?_;refine EM @hpos ?_;refine cX (hf) ?_;refine cX (hsm) ?_;intros;apply wr;cases c with
  | true =>
   refine CU ?_;refine cX (hgo) ?_;refine aw ?_;simp
  | false =>
   refine CX ?_;intros;apply wr;exact aX (id) (by rw[hI];exact⟨i+1,q,by omega,rfl,.inr ⟨by omega,rfl⟩,rfl⟩) (AA (n:=(i:Int)+1) (by omega) (by omega))
 refine au ?_;refine cX (hlag) ?_;refine CX ?_;refine cX (hgo) ?_;refine aw ?_;simp
theorem Xx(r:RepD)(bs:List (List UInt8))(o:Int)(h:OkP r 40000)(hro:r.role=1)(hd:detD r.watch)(hs:r.watch.silent=r.watch.limit)(hh:0<=r.host)(hg:1<=r.gen/\r.gen<4611686018427387904)(ho:0<=o)(hb:∀b∈bs,b.length=128)(h1:1<=bs.length)(h2:bs.length<=64):
  AC prog 12 [.st r.row,BL bs r.gen o] (.tup [.st (RepD.row {r with gen:=r.gen+1,role:=3}),BL bs (r.gen+1) r.host]):=by
 have hcl:=ED r h;have hcs:=Ia bs r.gen o (by omega);have hw:=Fq r;have e:(decide (r.role=1)||decide (r.role=2))=true:=by simp[hro]
 rw[e]at hw;have hsu:=Oc r.watch hd;rw[decide_eq_true hs]at hsu;have hclm:=MA bs r.gen o r.host hg ho hb h1 h2 hh;have r2:(r.role==2)=false:=by rw[hro];rfl
 refine sX func12 ntmps12 ?_;intros;apply wr;refine AG 6 [0,1,0,7,15,31] [(3,([[],[0],[]],[(2,1)])),(1,([],[])),(1,([],[])),(1,([],[]))] ?_;refine af ?_;refine cXf (hcl) ?_;refine cXf (hcs) ?_;refine cXf (hw) ?_;refine cXf (hsu) ?_;refine BU ?_;refine cXf (hclm) ?_;refine BU ?_;refine Ae @hro ?_;intros;apply wr;refine AG 4 [0,0,1,7] [(3,([[],[],[0]],[(1,2)])),(1,([],[]))] ?_;refine af ?_;refine aw ?_;simp
theorem Xy(r r':RepD)(bs:List (List UInt8))(o:Int)(h:OkP r 40000)(hro:r.role=2)(hd:detD r.watch)(hs:r.watch.silent=r.watch.limit)(hh:0<=r.host)(hg:1<=r.gen/\r.gen<4611686018427387904)(ho:0<=o)(hb:∀b∈bs,b.length=128)(h1:1<=bs.length)(h2:bs.length<=64)
  (hov:AC prog 40 [.st (RepD.row {r with gen:=r.gen+1})] (.st r'.row)) :
  AC prog 12 [.st r.row,BL bs r.gen o] (.tup [.st r'.row,BL bs (r.gen+1) r.host]):=by
 have hcl:=ED r h;have hcs:=Ia bs r.gen o (by omega);have hw:=Fq r;have e:(decide (r.role=1)||decide (r.role=2))=true:=by simp[hro]
 rw[e]at hw;have hsu:=Oc r.watch hd;rw[decide_eq_true hs]at hsu;have hclm:=MA bs r.gen o r.host hg ho hb h1 h2 hh;refine sX func12 ntmps12 ?_;intros;apply wr;refine AG 6 [0,1,0,7,15,31] [(3,([[],[0],[]],[(2,1)])),(1,([],[])),(1,([],[])),(1,([],[]))] ?_;refine af ?_;refine cXf (hcl) ?_;refine cXf (hcs) ?_;refine cXf (hw) ?_;refine cXf (hsu) ?_;refine BU ?_;refine cXf (hclm) ?_;refine BU ?_;refine Eh @hro ?_;intros;apply wr;refine AG 5 [0,1,0,3,15] [(4,([[],[0],[],[0,1]],[(2,1),(2,3)])),(1,([],[]))] ?_;refine af ?_;refine cXf (hov) ?_;refine aw ?_;simp
theorem QS(r:RepD)(bs:List (List UInt8))(g o:Int)(h:OkP r 40000)(hro:r.role=1\/r.role=2)(hd:detD r.watch)(hs:r.watch.silent=r.watch.limit)(hh:0<=r.host)(hg:1<=g/\g<4611686018427387904)(ho:0<=o)(hb:∀b∈bs,b.length=128)(h1:1<=bs.length)(h2:bs.length<=64)(hne:¬g=r.gen):
  AC prog 12 [.st r.row,BL bs g o] (.tup [.st (RepD.row {r with role:=0}),BL bs g o]):=by
 have hcl:=ED r h;have hcs:=Ia bs g o (by omega);have hw:=Fq r;have e:(decide (r.role=1)||decide (r.role=2))=true:=by simp;exact hro
 rw[e]at hw;have hsu:=Oc r.watch hd;rw[decide_eq_true hs]at hsu;have hclm:=S2 bs g o r.host r.gen hg ho hb h1 h2 hh hne;have hoff:=TK r;refine sX func12 ntmps12 ?_;intros;apply wr;refine AG 6 [0,1,0,7,15,31] [(3,([[],[0],[]],[(2,1)])),(1,([],[])),(1,([],[])),(1,([],[]))] ?_;refine af ?_;refine cXf (hcl) ?_;refine cXf (hcs) ?_;refine cXf (hw) ?_;refine cXf (hsu) ?_;refine BU ?_;refine cXf (hclm) ?_;refine WX ?_;intros;apply wr;refine AG 5 [0,1,0,3,15] [(4,([[],[0],[],[0,1]],[(2,1),(2,3)])),(1,([],[]))] ?_;refine af ?_;refine cXf (hoff) ?_;refine aw ?_;simp
end Go.Proofs.YtjkmhmepljamoaaGreat
end
