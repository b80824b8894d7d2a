/- A part of the proof of ReplicaDisk. -/
import Derived.Test.YtjkmhmepljamoaaGreatK26
import Derived.Test.YtjkmhmepljamoaaGreatK30
import Derived.Test.YtjkmhmepljamoaaGreatK38
import Derived.Test.YtjkmhmepljamoaaGreatK39
import Derived.Test.YtjkmhmepljamoaaGreatK42
set_option linter.all false
set_option maxHeartbeats 16000000
set_option maxRecDepth 100000
section
namespace Go.Proofs.YtjkmhmepljamoaaGreat
open Go.Ab Go.RowKit Tryz
def Hz(t:DetD):DetD:=if t.silent<t.limit then {t with silent:=t.silent+1}else t
theorem detV{t:DetD}(h:detD t):(decide (1<=t.limit)&&decide (t.limit<=20)&&decide (0<=t.silent)&&decide (t.silent<=t.limit))=true:=by
 obtain⟨h1,h2,h3,h4⟩:=h;simp[h1,h2,h3,h4]
theorem Y2(t:DetD)(hd:detD t):AC prog 35 [.st t.row] (.st (Hz t).row):=by
 have hv:=Gb t;rw[detV hd]at hv;obtain⟨h1,h2,h3,h4⟩:=hd;by_cases hc:t.silent<t.limit
 ·have hR:Hz t={t with silent:=t.silent+1}:=by unfold Hz;rw[if_pos hc]
  have w:IntKind.i64.wrap (t.silent+1)=t.silent+1:=AA;rw[hR];refine sX func35 ntmps35 ?_;refine cX (hv) ?_;refine DI @hc @w ?_;refine ar ?_;simp
 have hR:Hz t=t:=by unfold Hz;rw[if_neg hc]
 rw[hR];refine sX func35 ntmps35 ?_;refine cX (hv) ?_;refine BU @hc ?_;refine ar ?_;simp
theorem fN(t:DetD)(hd:detD t):AC prog 37 [.st t.row] (.bool (decide (t.silent=t.limit))):=by
 have hv:=Gb t;rw[detV hd]at hv;refine sX func37 ntmps37 ?_;refine cX (hv) ?_;intros;apply wr;refine ar ?_;simp;rw[Bool.eq_iff_iff];simp
theorem Ko(r:RepD):AC prog 34 [.st r.row] (.bool (decide (r.role=1)||decide (r.role=2))):=by
 refine sX func34 ntmps34 ?_;refine au ?_;intros;apply wr;refine ar ?_;simp;rw[Bool.eq_iff_iff];simp
theorem Y1(r:RepD)(h:OkP r 40000)(hro:r.role=1\/r.role=2)(hd:detD r.watch):AC prog 11 [.st r.row] (.st (RepD.row {r with watch:=Hz r.watch})):=by
 have hcl:=C2 r h;have hw:=Ko r;have ht:=Y2 r.watch hd;have e:(decide (r.role=1)||decide (r.role=2))=true:=by simp;exact hro
 rw[e]at hw;generalize Hz r.watch=t at *;refine sX func11 ntmps11 ?_;refine cX (hcl) ?_;refine cX (hw) ?_;refine CV ?_;refine cX (ht) ?_;refine aw ?_;simp
theorem S6(bs:List (List UInt8))(g o:Int)(hg:1<=g/\g<=4611686018427387904)(ho:0<=o)(hb:∀b∈bs,b.length=128)(h1:1<=bs.length)(h2:bs.length<=64):AC prog 85 [BR bs g o] (.bool true):=by
 have hl:=BV bs;have c1:¬(bs.length:Int)<1:=by omega
 have c2:¬(64:Int)<bs.length:=by omega
 have c3:¬4611686018427387904<g:=by omega
 have c4:¬g=0:=by omega
 refine sY func85 ntmps85 @hl ?_;refine EP (kX4 @hl @c1 @c2 @c3) @hl ?_;intros;apply wr;obtain⟨I,hI⟩:∃I:Nat->St->Prop,I=(fun kk ss=>∃(i:Nat),i<=bs.length/\kk=bs.length-i/\(True)/\ss=⟨40,[(23,.int .i64 i),(22,.int .i64 bs.length),(21,.sl 1 false (strs bs)),(1,.ptr 0 3 0 0)],1,[(0,some ⟨64,3,true,false,[[.sl 1 false (strs bs),lv g,iv o]]⟩)],0⟩):=⟨_,rfl⟩;refine lX I (id) (by rw[hI];exact⟨0,by simp,rfl,trivial,rfl⟩) ?_;intro kk ss hIk _;rw[hI]at hIk;obtain⟨i,hi,rfl,hx,rfl⟩:=hIk;refine au1 @hl ?_;intros;apply wr;refine AB rfl (fun h=>?_) (fun h=>?_)
 ·simp at h;obtain⟨s,hs,-,-,hm⟩:=get_at (show i<bs.length by omega);have hge:=hb s hm;have hsg:=E5 hs;refine Jn (kX3 @hl @hsg @hge) ?_;refine C3 ?_;intros;apply wr;exact aX (id) (by rw[hI];exact⟨i+1,by omega,rfl,trivial,rfl⟩) (AA (n:=(i:Int)+1))
 simp at h;refine au ?_;refine BU @c4 ?_;refine ar ?_;simp[ho]
theorem Sp(bs:List (List UInt8))(g o host:Int)(hg:1<=g/\g<4611686018427387904)(ho:0<=o)(hb:∀b∈bs,b.length=128)(h1:1<=bs.length)(h2:bs.length<=64)(hh:0<=host):
  AC prog 38 [BR bs g o,iv host,lv g] (.tup [BR bs (g+1) host,.bool true]):=by
 have hc:=SY bs g o (by omega);have hv:=S6 bs g o ⟨hg.1,by omega⟩ ho hb h1 h2;have c1:¬host<0:=by omega
 have c2:¬4611686018427387904<=g:=by omega
 have w:IntKind.u64.wrap (g+1)=g+1:=by rw[IntKind.wrap_u64];omega
 refine sX func38 ntmps38 ?_;refine cX (hc) ?_;refine cX (hv) ?_;refine EP (kX2 @c1 @c2) @w ?_;refine aw ?_;simp
theorem lag_ok(p:RplD)(h:p.m.count<=p.known)(h0:0<=p.m.count)(h1:L64 p.known):AC prog 86 [.st p.row] (lv (p.known-p.m.count)):=by
 have c:¬p.known<p.m.count:=by omega
 have w:IntKind.u64.wrap (p.known-p.m.count)=p.known-p.m.count:=by have:=h1.2;rw[IntKind.wrap_u64];omega
 refine sX func86 ntmps86 ?_;refine EP @c @w ?_;refine ar ?_;simp
def RU(p:RplD):RecD:=⟨appL p.m p.log,p.clock,[],[]⟩
theorem Td(p:RplD)(hM:OkM p.m)(hmay:mayD p.m=true)(hc:p.m.count=p.known)(hv:∀e∈p.log,OkV e.ev)(hl:p.log.length<=50000):AC prog 88 [.st p.row] (.tup [.st (RU p).row,.bool true]):=by
 have hmy:=JQ p.m hM.gv.1 (by have:=hM.gv.2;omega);rw[hmay]at hmy;have hel:=Ay p.log;refine sX func88 ntmps88 ?_;refine cX (hmy) ?_;refine EP @hc @hel ?_;intros;apply wr;obtain⟨I,hI⟩:∃I:Nat->St->Prop,I=(fun kk ss=>∃(i:Nat)(m:MchD),i<=p.log.length/\kk=p.log.length-i/\(m=appL p.m (p.log.take i)/\OkM m/\mayD m=true)/\ss=⟨44,[(26,.int .i64 i),(25,.int .i64 p.log.length),(24,Bo p.log),(4,.ptr 3 49 0 0),(1,.ptr 0 52 0 0),(2,.ptr 1 52 0 0)],4,[(3,some ⟨42,49,true,false,[m.row]⟩),(0,some ⟨48,52,true,false,[p.row]⟩),(1,some ⟨46,52,true,false,[zMR++[uv 0,.sl 0 true [],.sl 0 true []]]⟩)],0⟩):=⟨_,rfl⟩;refine lX I (id) (by rw[hI];exact⟨0,p.m,by simp,rfl,⟨by simp[appL],hM,hmay⟩,rfl⟩) ?_;intro kk ss hIk _;rw[hI]at hIk;obtain⟨i,m,hi,rfl,hx,rfl⟩:=hIk;refine au1 @hel ?_;intros;apply wr;refine AB rfl (fun hh=>?_) (fun hh=>?_)
 ·simp at hh;obtain⟨hx1,hx2,hx3⟩:=hx;obtain⟨e,he,-,-,hmem⟩:=get_at (show i<p.log.length by omega);have hge:=B7 he;have hev:=hv e hmem;have hap:=Ks m e.ev hx2 hev.n hev.d;refine Jn (kX2 @hel @hge) ?_;refine cX (hap) ?_;intros;apply wr;exact aX (id) (by rw[hI];exact⟨i+1,(applyD m e.ev).1,by omega,rfl,⟨by show _=List.foldl _ _ _;rw[List.take_add_one,he,Option.toList_some,List.foldl_append];rw[hx1];rfl,(DX hx2 hev.n).1,CQ hx2 hx3 e.ev⟩,rfl⟩) (AA (n:=(i:Int)+1))
 simp at hh;have hfin:m=appL p.m p.log:=by rw[hx.1,iZ (by omega)]
 have hMm:=hx.2.1;clear hx;have hrn:=NR m (by have:=hMm.n;omega);have hR:RU p=⟨m,p.clock,[],[]⟩:=by unfold RU;rw[hfin]
 refine au ?_;refine cX (hrn) ?_;refine aw ?_;simp[hR]
def RS(r:RepD):RepD:={r with role:=3,rec_:=RU r.rpl,rpl:=zRpl,cmd:=0,cmdAt:=0}
end Go.Proofs.YtjkmhmepljamoaaGreat
end
