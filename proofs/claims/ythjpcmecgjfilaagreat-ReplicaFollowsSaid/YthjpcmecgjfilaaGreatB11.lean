/- A part of the proof of ReplicaFollows. -/
import Derived.Test.YthjpcmecgjfilaaGreatB07
import Derived.Shelf.Strings.Builder1
set_option linter.unusedSimpArgs false
set_option linter.unusedVariables false
set_option maxHeartbeats 16000000
set_option maxRecDepth 100000
section
namespace Go.Proofs.YthjpcmecgjfilaaGreat
open Go.Ab Go.RowKit Tryz
theorem zOf:prog.cellsOf 370=2:=by kernel_rfl
theorem lies90 (count:Nat) (h:1<=count):liesAt prog prog.depth 370 count 0 370 1=true:=by
 have hc:=zOf;have hd:prog.depth=(2*(prog.types.size+Made.depth)+1)+1:=rfl;rw [hd];simp only [liesAt,Bool.or_eq_true];left;rw [hd];simp [rowAt,hc,h,sameLayout]
theorem zTV:∃ j,prog.info? 370=some j/\j.size=2:=by
 have h:(prog.info? 370).map (·.size)=some 2:=by kernel_rfl
 exact Option.map_eq_some_iff.1 h
set_option maxHeartbeats 2000000 in
theorem zUK (b:Nat) (w:World) (h0:w.cell? ⟨b,0,none⟩=some (.pointer (some ⟨b,0,none⟩))) :
  Calls prog 313 #[.pointer (some ⟨b,0,none⟩)] w fun e w'=>e=.returned (.tuple #[])/\w'=w:=by
 obtain ⟨j,hj,_⟩:=zTV
 go_enter func313,ntmps313
 go_wp2
 rw [Lib.run_neq_ptr_same w _ Tryz.underlying368 hj]
 go_wp2
 go_end0
 exact ⟨rfl,rfl⟩
set_option maxHeartbeats 2000000 in
theorem zRP (b count:Nat) (w:World) (h0:w.cell? ⟨b,0,none⟩=some (.pointer none)) (hsh:w.shape? b=some (370,count*2)) (hct:1<=count) (hfz:w.frozen? ⟨b,0,none⟩=false) :
  Calls prog 313 #[.pointer (some ⟨b,0,none⟩)] w fun e w'=>e=.returned (.tuple #[])/\w'=w.setCell ⟨b,0,none⟩ (.pointer (some ⟨b,0,none⟩)):=by
 obtain ⟨j,hj,hjs⟩:=zTV;have hlies:liesAt prog prog.depth 370 (count*2 / prog.cellsOf 370) 0 370 1=true:=by
  rw [zOf,Nat.mul_div_cancel _ (by decide)];exact lies90 count hct
 go_enter func313,ntmps313
 go_wp2
 rw [Lib.run_to_unsafe w ⟨b,0,none⟩ Tryz.underlying368 Tryz.underlying427 hj (by rw [hjs];decide) hsh (show 0<count*2 by omega)]
 simp only [Result.andThen];rw [Oper.upon_value]
 go_wp2
 rw [run_callFunc_extern func333 (by kernel_rfl) (by kernel_rfl) (by kernel_rfl) (e:=Extern.AbiNoEscape.same) (by kernel_rfl)]
 rw [Lib.run_noEscape];simp only [Result.andThen];rw [Oper.upon_value]
 go_wp2
 rw [Lib.run_from_unsafe w ⟨b,0,none⟩ Tryz.underlying427 Tryz.underlying368 hj hsh hlies];simp only [Result.andThen];rw [Oper.upon_value]
 go_wp2
 go_end0
 exact ⟨rfl,rfl⟩
set_option maxHeartbeats 2000000 in
theorem zJF (b:Nat) (A:Option Addr) (n c:Nat) (q:Value) (s:ByteArray) (w w1 w2:World) (c1:w.drew.cell? ⟨b,1,none⟩=some (.slice A n c)) (hSD:(Builtin.unsafeSliceData_ #[159] 415 #[.slice A n c]).run prog w.drew=.ok q w1)
  (c2:w1.cell? ⟨b,1,none⟩=some (.slice A n c)) (hUS:(Builtin.unsafeString_ #[415,3] 9 #[q,.int .i64 n]).run prog w1=.ok (.string s) w2) :
  Calls prog 255 #[.pointer (some ⟨b,0,none⟩)] w fun e w'=>e=.returned (.string s)/\w'=w2:=by
 go_enter func255,ntmps255
 go_wp2
 go_region
 all_goals (go_wp2;go_ret;exact ⟨rfl,rfl⟩)
theorem vals1 {a:Value} {vals:Array Value} (hs:vals.size=1) (h0:vals.getD 0 undef=a):vals=#[a]:=by
 apply Array.ext
 ·simpa using hs
 intro i hi hi'
 have:i=0:=by simp at hi';omega
 subst this;simpa [Array.getD,hi] using h0
abbrev bldO (c0 c1:V):Ob:=⟨370,2,true,false,[[c0,c1]]⟩
abbrev bufO (s:Str):Ob:=⟨5,1,false,false,zAN s⟩
theorem zJb [Glo] {base:Nat} {Xa:Nat->Prop} {w0:W0} {st:St} {a:Act} {w:World} {M:Mp} (hR:RelM base Xa w0 st a w M) {id:Nat} {c0 c1:V} (hob:lookO st.ob id=some (bldO c0 c1)) {g:Nat} (hg:(M id).ownBlock=some g) :
  ∃ cap cur,1<=cap/\w.rowAt g cur 370/\cur.size=cap*2/\(∃ v0,w.cell? ⟨g,0,none⟩=some v0/\R M w (Xf base Xa w M st.ob) st.nx c0 v0)/\∃ v1,w.cell? ⟨g,1,none⟩=some v1/\R M w (Xf base Xa w M st.ob) st.nx c1 v1:=by
 obtain ⟨_,hok⟩:=hR.obs id _ hob;obtain ⟨vs,hrow,hone,hrr⟩:=hok.row;simp only [if_true] at hrr;have hvl:vs.length=2:=by have:=hrow.1;simpa using this
 rcases hrow.sl (zHK hg) with ⟨hn,_⟩|⟨g',O,cap,cur,hM,hbg,hgr,hnc,hcm,hcs,htk⟩
 ·rw [hn] at hg;cases hg
 have hO:O=0:=by have:=hok.off (.inl rfl);rw [hM] at this;exact this
 subst hO;rw [zWi] at hcs;rw [hM] at hg;simp only [Value.ownBlock,zWG] at hg;subst hg;have hcell:∀ j u,vs[j]? =some u->w.cell? ⟨g',j,none⟩=some u:=fun j u hu=>by
  have:=hrow.cells (g:=g') (by rw [hM];rfl) j u hu
  rw [hM] at this;have this:w.cell? ((⟨g',0,none⟩:Addr).add j)=some u:=this;have hadd:(⟨g',0,none⟩:Addr).add j=⟨g',j,none⟩:=by unfold Addr.add;split<;>simp_all
  rwa [hadd] at this
 have hat:∀ j,j<2->vs[j]? =some (vs.getD j undef):=fun j hj=>by rw [zWF,zWH (by omega)];rfl
 exact ⟨cap,cur,by simpa using hnc,hgr,hcs,⟨_,hcell 0 _ (hat 0 (by omega)),hrr 0 c0 rfl⟩,_,hcell 1 _ (hat 1 (by omega)),hrr 1 c1 rfl⟩
theorem zNT {nx:Nat} {ob:List (Nat × Option Ob)} (id:Nat) (c0 c1:V) (hob:lookO ob id=some (bldO c0 c1)) (hc:c0=.nilp\/c0=.ptr id 2 0 0) :
  InlC prog 313 [.ptr id 2 0 0] nx ob fun r nx' ob'=>r=.tup []/\nx'=nx/\ob'=(id,some (bldO (.ptr id 2 0 0) c1))::ob:=by
 refine ⟨by kernel_rfl,fun base Xa w0 w M vals hR hs hr=>?_⟩
 obtain ⟨g,hid,hg,hve⟩:=zHm (hr 0 _ rfl);have hO0:(M id).offB=0:=(hR.obs id _ hob).2.off (.inl rfl);rw [hO0] at hve;obtain rfl:=vals1 hs hve;obtain ⟨cap,cur,hcap,hgr,hcs,⟨v0,hv0,hr0⟩,_⟩:=zJb (id:=id) hR hob hg;rcases hc with rfl|rfl
 ·obtain rfl:v0=.pointer none:=by cases hr0;rfl
  have hfz:=hgr.frozen 0 (by omega)
  have hsh:w.shape? g=some (370,cap*2):=by
   obtain ⟨fz,h1,_⟩:=hgr;simp [World.shape?,h1,hcs]
  refine (zRP g cap w hv0 hsh hcap hfz).mono ?_;rintro e w' ⟨rfl,rfl⟩;have hp:R M w (Xf base Xa w M ob) nx (.ptr id 2 0 0) (.pointer (some ⟨g,0,none⟩)):=hve ▸ hr 0 _ rfl
  obtain ⟨w',h1,h2⟩:=hR.store (P:=prog) (id:=id) hob rfl hg (i:=0) (by simp) (ds:=[.ptr id 2 0 0]) (us:=[.pointer (some ⟨g,0,none⟩)]) (off:=0) (by simp) (by
   simp only [if_true];exact .one_ rfl hp)
  have h3:(storeCells ⟨g,0,none⟩ [.pointer (some ⟨g,0,none⟩)] 0).run prog w=.ok () (w.setCell ⟨g,0,none⟩ (.pointer (some ⟨g,0,none⟩))):=by
   have hadd:(⟨g,0,none⟩:Addr).add 0=⟨g,0,none⟩:=by unfold Addr.add;simp
   have hst:=run_store prog w ⟨g,0,none⟩ (.pointer (some ⟨g,0,none⟩)) .plain (by rfl)
   rw [hv0,hfz] at hst;simp only [storeCells,Sem.run_bind,hadd,hst];simp [Result.andThen]
  simp only [Nat.zero_mul,zWi,hO0] at h1;rw [h3] at h1;simp only [Result.ok.injEq,true_and] at h1;subst h1;exact ⟨_,.tup [],nx,_,M,rfl,⟨rfl,rfl,rfl⟩,h2,.tup _ _ _ rfl fun j u hu=>by simp at hu⟩
 obtain ⟨g',_,hg',hve'⟩:=zHm hr0;rw [hO0] at hve';subst hve';obtain rfl:g=g':=by rw [hg] at hg';simpa using hg'
 refine (zUK g w hv0).mono ?_;rintro e w' ⟨rfl,rfl⟩;refine ⟨_,.tup [],nx,_,M,rfl,⟨rfl,rfl,rfl⟩,hR.sub fun i o ho=>?_,.tup _ _ _ rfl fun j u hu=>by simp at hu⟩
 simp only [lookO] at ho;split at ho
 ·rename_i e;subst e;simp only [zWG] at ho;subst ho;exact ⟨false,hob,fun h=>h⟩
 exact ⟨o.fz,ho,fun h=>h⟩
theorem zKx {nx:Nat} {ob:List (Nat × Option Ob)} (id bid:Nat) (c0:V) (s:Str) (hob:lookO ob id=some (bldO c0 (.own bid))) (hbb:lookO ob bid=some (bufO s)) :
  InlC prog 255 [.ptr id 2 0 0] nx ob fun r _ _=>r=.str s:=by
 refine ⟨by kernel_rfl,fun base Xa w0 w M vals hR hs hr=>?_⟩
 obtain ⟨g,hid,hg,hve⟩:=zHm (hr 0 _ rfl);have hO0:(M id).offB=0:=(hR.obs id _ hob).2.off (.inl rfl);rw [hO0] at hve;obtain rfl:=vals1 hs hve;obtain ⟨cap0,cur0,hcap,hgr0,_,_,v1,hv1,hr1⟩:=zJb (id:=id) hR hob hg;obtain ⟨hbid,hM⟩:=zGY hr1;obtain ⟨A,l,c,rfl⟩:∃ A l c,v1=.slice A l c:=by cases hr1;exact ⟨_,_,_,rfl⟩
 obtain ⟨_,hok⟩:=hR.obs bid _ hbb;obtain ⟨vs,hrow,hone,hrr⟩:=hok.row;simp only [zWa,if_false] at hrr;have hbl:(zAN s).length=s.length:=by simp [zAN]
 simp only [hbl] at hrow;have hfin:∀ (w2:World) (row:Option Nat),w.grownBy w2 row->(∀ k,row=some k->(M bid).ownB=some k)->(Calls prog 255 #[.pointer (some ⟨g,0,none⟩)] w fun e w'=>e=.returned (.string ⟨s.toArray⟩)/\w'=w2) ->
   Calls prog 255 #[.pointer (some ⟨g,0,none⟩)] w fun e w'=>∃ val r nx' ob' M',e=.returned val/\r=.str s/\RelM base Xa w0 ⟨0,[],nx',ob',nx⟩ ⟨#[],[]⟩ w' M'/\R M' w' (Xf base Xa w' M' ob') nx' r val:=by
  intro w2 row hgb hrw hcl
  refine hcl.mono ?_;rintro e w' ⟨rfl,rfl⟩;obtain ⟨M',_,_,hR'⟩:=hR.grow (ob1:=[]) (fun i o ho=>by simp [lookO] at ho) row (fun b hb e=>hb.2 bid _ hbb rfl (hrw b e.symm)) (fun i o ho=>by simp [lookO] at ho) (fun k hk=>(hrow.lt k (hrw k hk)).1) hgb (.slice none 0 0) (fun k hk=>by simp [Value.ownB] at hk) ⟨5,1,false,false,[]⟩ (fun _=>by simp) (by simp) [] (World.ownsG_nil _ _ _ _) (by simp) (fun j u hu=>by simp at hu)
  exact ⟨_,.str s,_,_,M',rfl,rfl,hR',.str _ _⟩
 have hdrew:∀ k,w.drew.cell? k=w.cell? k:=fun k=>rfl
 have gdrew:w.grownBy w.drew none:=⟨rfl,rfl,rfl,zWN _,fun _ _ _=>rfl⟩
 rw [hM] at hrow;have hO1:=hok.off (.inr rfl);rw [hM] at hO1;rcases hrow.2 with ⟨h,h0⟩|⟨g2,O,cap,cur,h,hbg,hg2,hnc,hcm,hcs,htk⟩|hodd
 ·simp only [Value.slice.injEq] at h;obtain ⟨rfl,rfl,rfl⟩:=h;obtain rfl:s=[]:=zWP h0;exact hfin w.drew none gdrew (fun k hk=>by cases hk) (zJF g none 0 0 (.pointer none) ⟨#[]⟩ w w.drew w.drew hv1 rfl hv1 (Lib.run_unsafeString_none _ _ _ _ _))
 ·simp only [Value.slice.injEq] at h;obtain ⟨rfl,rfl,rfl⟩:=h;have hO:O=0:=hO1;clear hO1;subst hO;by_cases h0:s=[]
  ·subst h0;by_cases hc0:c=0
   ·subst hc0;have hlt:g<w.heap.size:=hgr0.lt;have hsh:w.drew.shape? g2=some (5,cur.size):=by
     obtain ⟨fz,h1,_⟩:=hg2;have h1':w.drew.heap[g2]? =some (.cells cur 5 fz):=h1;simp [World.shape?,h1']
    have hSD:=Lib.run_unsafeSliceData_zero (P:=prog) w.drew #[159] 415 5 Tryz.underlying415 ⟨g2,0,none⟩ 0 _ hsh;have hv1':(w.drew.alloc (.view ⟨g2,0,none⟩ 5)).cell? ⟨g,1,none⟩=some (.slice (some ⟨g2,0,none⟩) 0 0):=by
     rw [World.cell?_of_block (w:=w.drew) (w':=w.drew.alloc (.view ⟨g2,0,none⟩ 5)) (a:=⟨g,1,none⟩) (Lib.alloc_old w.drew _ g hlt)];exact hv1
    refine hfin (w.drew.alloc (.view ⟨g2,0,none⟩ 5)) none ⟨rfl,rfl,rfl,by simp,fun k hk _=>?_⟩ (fun k hk=>by cases hk) (zJF g (some ⟨g2,0,none⟩) 0 0 _ ⟨#[]⟩ w _ _ hv1 hSD hv1' (Lib.run_unsafeString_none _ _ _ _ _))
    exact Lib.alloc_old w.drew _ k hk
   exact hfin w.drew none gdrew (fun k hk=>by cases hk) (zJF g (some ⟨g2,0,none⟩) 0 c (.pointer (some ⟨g2,0,none⟩)) ⟨#[]⟩ w w.drew w.drew hv1 (Lib.run_unsafeSliceData_row _ _ _ _ _ _ hc0) hv1 (Lib.run_unsafeString_none _ _ _ _ _))
  have hl0:s.length≠0:=by simpa using h0
  have hsh:w.drew.shape? g2=some (5,cur.size):=by
   obtain ⟨fz,h1,_⟩:=hg2;have h1':w.drew.heap[g2]? =some (.cells cur 5 fz):=h1;simp [World.shape?,h1']
  have hflat:(zAN s).flatten=s.map fun (c:UInt8)=>V.int .u8 (c.toNat:Int):=by
   unfold zAN;clear hrow hbb hbl hfin h0 hl0 hnc htk hrr hok hv1 hr1 hM hsh;induction s with
   | nil=>rfl
   | cons c s ih=>simp [ih]
  have hUS:=Lib.run_unsafeString_row (P:=prog) w.drew 415 3 9 5 Tryz.underlying415 (by kernel_rfl) g2 cur.size hsh s h0 (by omega) (by simp only [maxLen] at hcm;omega) (fun j x hx=>by
   have h1:=hrr j (.int .u8 x.toNat) (by rw [hflat,zWR,hx];rfl)
   have h2:=zCC h1;have hvj:vs[j]? =some (.int .u8 x.toNat):=by
    rw [<- h2,zWF];have hjl:j<vs.length:=by
     have:=(List.getElem?_eq_some_iff.1 hx).1;have:=hrow.1;omega
    rw [zWH hjl];rfl
   have:=hrow.cells (g:=g2) (by rfl) j _ hvj
   exact this)
  refine hfin (w.drew.freeze ⟨g2,0,none⟩ s.length) (some g2) ?_ (fun k hk=>by rw [hM];simpa [Value.ownB] using hk) (zJF g (some ⟨g2,0,none⟩) s.length c (.pointer (some ⟨g2,0,none⟩)) ⟨s.toArray⟩ w w.drew _ hv1 (Lib.run_unsafeSliceData_row _ _ _ _ _ _ (by omega)) hv1 hUS)
  unfold World.freeze;rw [if_neg hl0];refine ⟨rfl,rfl,rfl,by simp,fun k _ hk=>?_⟩
  have hne:g2≠k:=fun e=>hk (by rw [e])
  simp [Array.getElem?_modify,hne];rfl
 exact hodd.noSl.elim
def WPost (nx:Nat) (ob:List (Nat × Option Ob)) (id bid:Nat) (s:Str) (nx':Nat) (ob':List (Nat × Option Ob)):Prop:=∃ k,nx<=k/\k<nx'/\lookO ob' k=some (bufO s)/\lookO ob' id=some (bldO (.ptr id 2 0 0) (.own k))/\∀ j,j≠id->j≠bid->j<nx->lookO ob' j=lookO ob j
set_option maxHeartbeats 8000000 in
theorem zFm {nx:Nat} {ob:List (Nat × Option Ob)} (id bid:Nat) (c0:V) (s t:Str) (hob:lookO ob id=some (bldO c0 (.own bid))) (hbb:lookO ob bid=some (bufO s)) (hc:c0=.nilp\/c0=.ptr id 2 0 0) (hi:id<nx) (hb:bid<nx) (hne:id≠bid) (hl:s.length+t.length<=1000000) :
  InlC prog 252 [.ptr id 2 0 0,.str t] nx ob fun r nx' ob'=>r=.tup [.int .i64 t.length,.poi]/\WPost nx ob id bid (s++t) nx' ob':=by
 have hbl:(zAN s).length=s.length:=by simp [zAN]
 have hm:s.length+t.length<=maxLen:=by simp only [maxLen];omega
 have hap:zAN s++zAN t=zAN (s++t):=by simp [zAN]
 have n1:¬ bid=id:=fun e=>hne e.symm
 have n2:¬ id=nx:=by omega
 have n3:¬ bid=nx:=by omega
 have n4:¬ nx=id:=by omega
 have n5:¬ nx=bid:=by omega
 refine InlC.of func252 rfl (by kernel_rfl) rfl ?_
 simp only [ntmps252,St.startI,argT];refine au ?_;intros;apply wr
 first|refine .inr ((zNT id c0 (.own bid) hob hc).mono fun r nx' ob' hp=>?_)|refine (zNT id c0 (.own bid) hob hc).mono fun r nx' ob' hp=>?_|refine ((zNT id c0 (.own bid) hob hc).mono fun r nx' ob' hp=>?_).2
 simp only [aftI];obtain ⟨rfl,rfl,rfl⟩:=hp;simp [hne,n1,n2,n3,n4,n5,hob,hbb,hbl,hap];refine au1 (kX10 @hne @n1 @n2 @n3 @n4 @n5 @hob @hbb @hbl @hap) ?_;intros;apply wr;refine zAB ?_;simp;exact ⟨_,zWN _,Nat.lt_succ_self _,by simp [lookO,n4],by simp [lookO],fun j h1 h2 h3=>by
  have h4:¬ j=nx':=by omega
  simp [lookO,h1,h2,h4]⟩
set_option maxHeartbeats 8000000 in
theorem zJQ {nx:Nat} {ob:List (Nat × Option Ob)} (id:Nat) (t:Str) (hob:lookO ob id=some (bldO .nilp (.sl 0 true []))) (hi:id<nx) (hl:t.length<=1000000) :
  InlC prog 252 [.ptr id 2 0 0,.str t] nx ob fun r nx' ob'=>r=.tup [.int .i64 t.length,.poi]/\WPost nx ob id nx t nx' ob':=by
 have hbl:(zAN ([]:Str)).length=0:=by simp [zAN]
 have hm:t.length<=maxLen:=by simp only [maxLen];omega
 have n2:¬ id=nx:=by omega
 have n3:¬ nx=id:=by omega
 have n4:¬ id=nx+1:=by omega
 have n5:¬ nx+1=id:=by omega
 refine InlC.of func252 rfl (by kernel_rfl) rfl ?_
 simp only [ntmps252,St.startI,argT];refine zKr id 1 5 1 (by decide) hob rfl rfl rfl ?_
 refine au1 (kX2 @n2 @n3) ?_;intros;apply wr
 first|refine .inr ((zNT id .nilp (.own nx) (by simp [lookO]) (.inl rfl)).mono fun r nx' ob' hp=>?_)|refine (zNT id .nilp (.own nx) (by simp [lookO]) (.inl rfl)).mono fun r nx' ob' hp=>?_|refine ((zNT id .nilp (.own nx) (by simp [lookO]) (.inl rfl)).mono fun r nx' ob' hp=>?_).2
 simp only [aftI];obtain ⟨rfl,rfl,rfl⟩:=hp;simp [n2,n3,n4,n5,hob];refine au1 (kX6 @n2 @n3 @n4 @n5 @hob @hm) ?_;intros;apply wr;refine zAB ?_;simp;exact ⟨_,Nat.le_succ _,Nat.lt_succ_self _,by simp [lookO,n4,n5],by simp [lookO],fun j h1 h2 h3=>by
  have h4:¬ j=nx+1:=by omega
  simp [lookO,h1,h2,h4]⟩
theorem zKv {nx:Nat} {ob:List (Nat × Option Ob)} (id bid:Nat) (c0:V) (s:Str) (hob:lookO ob id=some (bldO c0 (.own bid))) (hbb:lookO ob bid=some (bufO s)) :
  InlC prog 254 [.ptr id 2 0 0] nx ob fun r nx' ob'=>r=.int .i64 s.length/\nx'=nx/\ob'=ob:=by
 have hbl:(zAN s).length=s.length:=by simp [zAN]
 refine InlC.of func254 rfl (by kernel_rfl) rfl ?_
 simp only [ntmps254,St.startI,argT];refine au1 (kX3 @hob @hbb @hbl) ?_;intros;apply wr;refine zAB ?_;simp
end Go.Proofs.YthjpcmecgjfilaaGreat
end
