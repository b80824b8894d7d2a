/- Abstract states for walks, part 22: a nil slice as a row of the call's own; the simp set. -/
import Derived.Test.YtnjpakhnaegdgaaAbU
namespace Go.Ab
open Go.RowKit

theorem awp_nilOwn {P : Program} {c : Code} {Q : Exit → St → Prop} {st : St} (t e s : Nat) (hs : 0 < s) {tt : Bool} (ht : lkT st.tmp t = .sl 0 tt [])
    (h : awp P c Q { st with nx := st.nx + 1, tmp := (t, .own st.nx) :: st.tmp, ob := (st.nx, some ⟨e, s, false, false, []⟩) :: st.ob }) : awp P c Q st := fun base Xa w0 a w ⟨M, hM⟩ => by
  obtain ⟨M', hM', hn, hR⟩ := hM.grow (ob1 := st.ob) (fun _ _ h => h) none (fun _ _ h => by cases h) (fun _ _ _ _ _ h => by cases h) (fun _ h => by cases h) (World.grownBy.refl w none) (.slice none 0 0) (fun g h => by cases h)
    ⟨e, s, false, false, []⟩ (fun _ => hs) (by simp) [] (World.ownsRow_nil w base e s) (by simp) (fun j u h => by simp at h)
  have hv := hM.tmps t
  rw [ht] at hv
  obtain ⟨A, c', f, hu, _, _, _, hnil, _⟩ := R_sl hv
  obtain ⟨rfl, rfl⟩ := hnil rfl
  have := h base Xa w0 a w ⟨M', hR.below, hR.hbase, hR.xa, hR.defers, hR.size, fun t' => by
    simp only [lkT]
    split
    · rename_i e'; subst e'; rw [hu]; exact .own _ _ _ _ _ (by simp) hn
    · exact hR.tmps t', hR.obs, hR.dist⟩
  exact this

/-- 'awp_seq', the rest behind a name. -/
theorem awp_seqK {P : Program} {x y : Code} {Q : Exit → St → Prop} {st : St} (h : ∀ K : St → Prop, (∀ s, awp P y Q s → K s) → awp P x (thn K Q) st) : awp P (.seq x y) Q st := awp_seq (h _ fun _ h => h)

@[simp] theorem opsV_nil {P : Program} {ops : List Oper} {K : St → Prop} {st : St} : opsV P ops [] K st = K st := rfl
@[simp] theorem opsV_cons {P : Program} {ops r : List Oper} {o : Oper} {K : St → Prop} {st : St} : opsV P ops (o :: r) K st = stepV P ops o (opsV P ops r K) st := rfl
@[simp] theorem drawV_nil {P : Program} {ops : List Oper} {prs : List (List Nat)} {st0 : St} {K : St → Prop} {done : List HI} : drawV P ops prs st0 K [] done = K (stS st0 (fun _ => true) done) := rfl
@[simp] theorem drawV_cons {P : Program} {ops r : List Oper} {o : Oper} {prs : List (List Nat)} {st0 : St} {K : St → Prop} {done : List HI} : drawV P ops prs st0 K (o :: r) done =
    hstep P ops o (stS st0 (fun j => (prs.getD done.length []).contains j) (done ++ (o :: r).map ph)) (addH (drawV P ops prs st0 K r) done o.dst) := rfl
@[simp] theorem addH_full {F : List HI → Prop} {done : List HI} {dst : Option Tmp} {eff : Bool} {v : V} {ob : List (Nat × Option Ob)} {nx : Nat} : addH F done dst eff v ob nx = F (done ++ [⟨dst, eff, v, ob, nx⟩]) := rfl

attribute [simp] okGs stepV opV pv ev lkT St.put lookO boxC ofVal of1 thn blk binV binI binS shI unV isSh bv mkV pickV pickB fixG okAll Op.operands Call.operands okG unG
  retQ retL resV V.cells liveIds clsR mkRes clsC cls1 pur1 pur spl fillV chunk fz1 fzs ownIds srcV notOwn appV callV V.fcells opn opnT opnC opnL opn1 obsL boundV slcV
  hstep effV stS eT eO isPoi isEff ph St.start argT byteV
end Go.Ab
