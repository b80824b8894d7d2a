/- A part of the proof of ReplicaDisk. -/
import Derived.Test.YtjkmhmepljamoaaGreatK04
import Derived.Test.YtjkmhmepljamoaaGreatK43
set_option linter.all false
set_option maxHeartbeats 16000000
set_option maxRecDepth 100000
section
namespace Go.Proofs.YtjkmhmepljamoaaGreat
open Go.Ab Go.RowKit Tryz
abbrev ovrT:List (Nat×V):=[(1,.ptr 0 125 0 0),(2,.ptr 1 125 0 0)]
abbrev ovrO(r:RepD):List (Nat×Option Ob):=[(0,some ⟨61,125,true,false,[RepD.row r]⟩),(1,some ⟨61,125,true,false,[zRR]⟩)]
theorem XT(r:RepD)(hM:OkM r.rpl.m)(hmay:mayD r.rpl.m=true)(hc:r.rpl.m.count=r.rpl.known)(hv:∀e∈r.rpl.log,OkV e.ev)(hl:r.rpl.log.length<=50000):AC prog 40 [.st r.row] (.st (RS r).row):=by
 have hgo:=Td r.rpl hM hmay hc hv hl;have hct:=DZ hM;have hlag:=lag_ok r.rpl (by omega) hct.1 (by rw[<- hc];exact hct);rw[show r.rpl.known-r.rpl.m.count=0 by omega]at hlag;have hR:RS r={r with role:=3,rec_:=RU r.rpl,rpl:=zRpl,cmd:=0,cmdAt:=0}:=rfl;generalize RU r.rpl=L at *;rw[hR];refine sX func40 ntmps40 ?_;intros;apply wr;obtain⟨I,hI⟩:∃I:Nat->St->Prop,I=(fun kk ss=>∃(i:Nat),i<=0/\kk=0-i/\(True)/\ss=⟨34,ovrT,2,ovrO r,0⟩):=⟨_,rfl⟩;refine lX I (id) (by rw[hI];exact⟨0,by simp,rfl,trivial,rfl⟩) ?_;intro kk ss hIk _;rw[hI]at hIk;obtain⟨i,hi,rfl,hx,rfl⟩:=hIk;refine au ?_;refine cX (hlag) ?_;refine C3 ?_;refine cX (hgo) ?_;refine aw ?_;simp
theorem YW(r r':RepD)(bs:List (List UInt8))(o:Int)(h:OkP r 40000)(hro:r.role=2)(hd:detD r.watch)(hs:r.watch.silent=r.watch.limit)(hh:0<=r.host)(hg:1<=r.gen/\r.gen<4611686018427387904)(ho:0<=o)(hb:∀b∈bs,b.length=128)(h1:1<=bs.length)(h2:bs.length<=64)
  (hov:AC prog 40 [.st (RepD.row {r with gen:=r.gen+1})] (.st r'.row)) :
  AC prog 12 [.st r.row,BR bs r.gen o] (.tup [.st r'.row,BR bs (r.gen+1) r.host]):=by
 have hcl:=C2 r h;have hcs:=Ga bs r.gen o (by omega);have hw:=Ko r;have e:(decide (r.role=1)||decide (r.role=2))=true:=by simp[hro]
 rw[e]at hw;have hsu:=fN r.watch hd;rw[decide_eq_true hs]at hsu;have hclm:=Sp bs r.gen o r.host hg ho hb h1 h2 hh;refine sX func12 ntmps12 ?_;intros;apply wr;refine AD 6 [0,1,0,7,15,31] [(3,([[],[0],[]],[(2,1)])),(1,([],[])),(1,([],[])),(1,([],[]))] ?_;refine af ?_;refine cXf (hcl) ?_;refine cXf (hcs) ?_;refine cXf (hw) ?_;refine cXf (hsu) ?_;refine BN ?_;refine cXf (hclm) ?_;refine BN ?_;refine Ei @hro ?_;intros;apply wr;refine AD 5 [0,1,0,3,15] [(4,([[],[0],[],[0,1]],[(2,1),(2,3)])),(1,([],[]))] ?_;refine af ?_;refine cXf (hov) ?_;refine aw ?_;simp
end Go.Proofs.YtjkmhmepljamoaaGreat
end
