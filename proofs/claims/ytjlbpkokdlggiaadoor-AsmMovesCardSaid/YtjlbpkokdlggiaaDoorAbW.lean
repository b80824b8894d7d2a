/- Abstract states for walks, part 22: a nil slice as a row of the call's own; the simp set. -/
import Derived.Test.YtjlbpkokdlggiaaDoorAbVb
namespace Go.Ab
open Go.RowKit

theorem awp_nilOwn [Glo] {P : Program} {c : Code} {Q : Exit → St → Prop} {st : St} (t e s : Nat) (hs : 0 < s) {tt : Bool} (ht : lkT st.tmp t = .sl 0 tt [])
    (h : awp P c Q { st with nx := st.nx + 1, tmp := (t, .own st.nx) :: st.tmp, ob := (st.nx, some ⟨e, s, false, false, []⟩) :: st.ob }) : awp P c Q st := fun base Xa w0 a w ⟨M, hM⟩ => by
  obtain ⟨M', hM', hn, hR⟩ := hM.grow (ob1 := st.ob) (fun _ _ h => h) none (fun _ _ h => by cases h) (fun _ _ _ _ _ h => by cases h) (fun _ h => by cases h) (World.grownBy.refl w none) (.slice none 0 0) (fun g h => by cases h)
    ⟨e, s, false, false, []⟩ (fun _ => hs) (by simp) [] (World.ownsG_nil w base e s) (by simp) (fun j u h => by simp at h)
  have hv := hM.tmps t
  rw [ht] at hv
  obtain ⟨A, c', f, hu, _, _, _, hnil, _⟩ := R_sl hv
  obtain ⟨rfl, rfl⟩ := hnil rfl
  have := h base Xa w0 a w ⟨M', hR.below, hR.hbase, hR.xa, hR.gh, hR.pin, hR.defers, hR.size, fun t' => by
    simp only [lkT]
    split
    · rename_i e'; subst e'; rw [hu]; exact .own _ _ _ _ _ (by simp) hn
    · exact hR.tmps t', hR.obs, hR.dist⟩
  exact this

theorem gcall_c [Glo] {P : Program} {dst : Option Tmp} {f : Operand} {args : Array Operand} {tys : Array TypeId} {ty : TypeId} {pos : String} {aft : Array Edge} {gd : Option (Nat × Bool)} {b want : Bool} {K : St → Prop} {st : St} {fid : FuncId} {args' : List V} {r : V}
    (hm : Meets P fid args' r) (hf : ev st f = .fn fid) (hw : b = want → okGs (args.toList.map (ev st)) ∧ wkT (((args.toList.map (ev st)).map unG).map (pur st.ob)) args') (hobs : obsL st.nx r.fcells = [])
    (hK : K ({ st with nx := st.nx + r.fcells.length, ob := fzs (((args.toList.map (ev st)).map unG).flatMap fun v : V => ownIds v.cells) st.ob }.put dst (.gd (b == want) (opn st.nx r)))) :
    gcallV P ⟨dst, .call ⟨.value f, args, tys⟩, ty, pos, aft, gd⟩ b want K st := by
  refine .inr ⟨r, ?_⟩
  simp only [uniV, hf]
  exact ⟨fun e => ⟨(hw e).1, hm.wk (hw e).2⟩, hobs, hK⟩
theorem gcall_tt [Glo] {P : Program} {o : Oper} {K : St → Prop} {st : St} (h : opV P o K st) : gcallV P o true true K st := .inl ⟨fun _ => h, fun e => (by cases e)⟩
theorem gcall_ff [Glo] {P : Program} {o : Oper} {K : St → Prop} {st : St} (h : opV P o K st) : gcallV P o false false K st := .inl ⟨fun _ => h, fun e => (by cases e)⟩
theorem gcall_tf [Glo] {P : Program} {o : Oper} {K : St → Prop} {st : St} (h : K (st.put o.dst .poi)) : gcallV P o true false K st := .inl ⟨fun e => (by cases e), fun _ => h⟩
theorem gcall_ft [Glo] {P : Program} {o : Oper} {K : St → Prop} {st : St} (h : K (st.put o.dst .poi)) : gcallV P o false true K st := .inl ⟨fun e => (by cases e), fun _ => h⟩
def keepT (ks : List Nat) : List Nat → List (Nat × V) → List (Nat × V)
  | _, [] => []
  | seen, (k, v) :: r => if (ks.contains k && !seen.contains k) = true then (k, v) :: keepT ks (k :: seen) r else keepT ks seen r
theorem lkT_keep (ks : List Nat) : ∀ (l : List (Nat × V)) (seen : List Nat) (t : Nat), lkT (keepT ks seen l) t = .poi ∨ (seen.contains t = false ∧ lkT (keepT ks seen l) t = lkT l t)
  | [], _, _ => .inl rfl
  | (k, v) :: r, seen, t => by
    simp only [keepT]
    cases hc : ks.contains k && !seen.contains k with
    | true =>
      simp only [if_true, lkT]
      simp only [Bool.and_eq_true, Bool.not_eq_true'] at hc
      split
      · rename_i e; subst e; exact .inr ⟨hc.2, rfl⟩
      · rename_i e
        rcases lkT_keep ks r (k :: seen) t with h | ⟨h1, h2⟩
        · exact .inl h
        · refine .inr ⟨?_, h2⟩
          simp only [List.contains_cons, Bool.or_eq_false_iff] at h1
          exact h1.2
    | false =>
      simp only [Bool.false_eq_true, if_false, lkT]
      rcases lkT_keep ks r seen t with h | ⟨h1, h2⟩
      · exact .inl h
      · by_cases e : t = k
        · subst e
          rw [h1] at hc
          simp only [Bool.not_false, Bool.and_true] at hc
          left
          have : ∀ (l : List (Nat × V)) (seen : List Nat), lkT (keepT ks seen l) t = .poi := fun l => by
            induction l with
            | nil => intro _; rfl
            | cons p l ih =>
              intro seen
              obtain ⟨k', v'⟩ := p
              simp only [keepT]
              cases hc' : ks.contains k' && !seen.contains k' with
              | true =>
                simp only [if_true, lkT]
                split
                · rename_i e; subst e; rw [hc] at hc'; simp at hc'
                · exact ih _
              | false => simp only [Bool.false_eq_true, if_false]; exact ih _
          exact this r seen
        · rw [if_neg e]; exact .inr ⟨h1, h2⟩
/-- What is known of other slots is forgotten. -/
theorem awp_keep [Glo] {P : Program} {c : Code} {Q : Exit → St → Prop} {st : St} (ks : List Nat) (h : awp P c Q { st with tmp := keepT ks [] st.tmp }) : awp P c Q st := fun base Xa w0 a w ⟨M, hM⟩ => h base Xa w0 a w ⟨M, hM.weakT fun t => by
  rcases lkT_keep ks st.tmp [] t with h | h
  · exact .inl h
  · exact .inr h.2⟩
theorem gcallE_c [Glo] {P : Program} {dst : Option Tmp} {f : Operand} {args : Array Operand} {tys : Array TypeId} {ty : TypeId} {pos : String} {aft : Array Edge} {gd : Option (Nat × Bool)} {b want : Bool} {K : V → List (Nat × Option Ob) → Nat → Prop} {st : St} {fid : FuncId} {args' : List V} {r : V}
    (hm : Meets P fid args' r) (hf : ev st f = .fn fid) (hp : (args.toList.all fun x => !isPoi (ev st x)) = true) (hw : b = want → okGs (args.toList.map (ev st)) ∧ wkT (((args.toList.map (ev st)).map unG).map (pur st.ob)) args') (hobs : obsL st.nx r.fcells = [])
    (hK : K (.gd (b == want) (opn st.nx r)) (fzs (((args.toList.map (ev st)).map unG).flatMap fun v : V => ownIds v.cells) st.ob) (st.nx + r.fcells.length)) :
    gcallE P ⟨dst, .call ⟨.value f, args, tys⟩, ty, pos, aft, gd⟩ b want st K := by
  refine .inr ⟨r, ?_⟩
  simp only [uniE, hf]
  exact ⟨hp, fun e => ⟨(hw e).1, hm.wk (hw e).2⟩, hobs, hK⟩
theorem gcallE_tt [Glo] {P : Program} {o : Oper} {K : V → List (Nat × Option Ob) → Nat → Prop} {st : St} (h : effV P o st K) : gcallE P o true true st K := .inl ⟨fun _ => h, fun e => (by cases e)⟩
theorem gcallE_ff [Glo] {P : Program} {o : Oper} {K : V → List (Nat × Option Ob) → Nat → Prop} {st : St} (h : effV P o st K) : gcallE P o false false st K := .inl ⟨fun _ => h, fun e => (by cases e)⟩
theorem gcallE_tf [Glo] {P : Program} {o : Oper} {K : V → List (Nat × Option Ob) → Nat → Prop} {st : St} (h : K .poi st.ob st.nx) : gcallE P o true false st K := .inl ⟨fun e => (by cases e), fun _ => h⟩
theorem gcallE_ft [Glo] {P : Program} {o : Oper} {K : V → List (Nat × Option Ob) → Nat → Prop} {st : St} (h : K .poi st.ob st.nx) : gcallE P o false true st K := .inl ⟨fun e => (by cases e), fun _ => h⟩
theorem awp_keepT [Glo] {P : Program} {c : Code} {Q : Exit → St → Prop} {n nx pn : Nat} {tmp T : List (Nat × V)} {ob : List (Nat × Option Ob)} (ks : List Nat) (hT : keepT ks [] tmp = T) (h : awp P c Q ⟨n, T, nx, ob, pn⟩) : awp P c Q ⟨n, tmp, nx, ob, pn⟩ := awp_keep ks (by rw [hT]; exact h)
/-- A box whose cells are said to say less. -/
theorem awp_wkB [Glo] {P : Program} {c : Code} {Q : Exit → St → Prop} {st : St} (id : Nat) {o : Ob} {cs : List V} (cs' : List V) (ho : lookO st.ob id = some o) (hx : o.xs = [cs]) (hw : wkL cs cs')
    (h : awp P c Q { st with ob := (id, some { o with xs := [cs'] }) :: st.ob }) : awp P c Q st := fun base Xa w0 a w ⟨M, hM⟩ => by
  have hX : ∀ b, Xf base Xa w M st.ob b → Xf base Xa w M ((id, some { o with xs := [cs'] }) :: st.ob) b := fun b hb => ⟨hb.1, fun i o1 ho1 hf => by
    simp only [lookO] at ho1
    split at ho1
    · rename_i e; subst e
      simp only [Option.some.injEq] at ho1
      subst ho1
      exact hb.2 _ o ho hf
    · exact hb.2 i o1 ho1 hf⟩
  refine h base Xa w0 a w ⟨M, hM.below, hM.hbase, hM.xa, fun m n v u hv => (hM.gh m n v u hv).mono (Nat.le_refl _) (fun _ _ => rfl) hX (fun _ _ => rfl), hM.pin, hM.defers, hM.size, fun t => (hM.tmps t).mono (Nat.le_refl _) (fun _ _ => rfl) hX (fun _ _ => rfl), fun i o1 ho1 => ?_, fun i i' o1 o2 g h1 h2 hne hg => ?_⟩
  · simp only [lookO] at ho1
    split at ho1
    · rename_i e; subst e
      simp only [Option.some.injEq] at ho1
      subst ho1
      obtain ⟨q1, q2⟩ := hM.obs _ o ho
      have q3 := q2.mono (Nat.le_refl _) (fun _ _ => rfl) hX (fun _ _ => rfl) (fun _ _ => rfl)
      obtain ⟨vals, hrow, hone, hr⟩ := q3.row
      refine ⟨q1, q3.pos, fun x hx' => ?_, vals, by simpa [hx] using hrow, hone, fun j u hu => ?_⟩
      · simp only [List.mem_singleton] at hx'
        subst hx'
        have := q3.len cs (by rw [hx]; simp)
        rw [← wkL_len hw]; exact this
      · simp only [List.flatten_cons, List.flatten_nil, List.append_nil] at hu
        obtain ⟨u', e, hw'⟩ := wkL_get hw j u hu
        exact wk1_R hw' (hr j u' (by rw [hx]; simpa using e))
    · obtain ⟨q1, q2⟩ := hM.obs i o1 ho1
      exact ⟨q1, q2.mono (Nat.le_refl _) (fun _ _ => rfl) hX (fun _ _ => rfl) (fun _ _ => rfl)⟩
  · have hl : ∀ i o1, lookO ((id, some { o with xs := [cs'] }) :: st.ob) i = some o1 → ∃ o2, lookO st.ob i = some o2 := fun i o1 h1 => by
      simp only [lookO] at h1
      split at h1
      · rename_i e; subst e; exact ⟨o, ho⟩
      · exact ⟨o1, h1⟩
    obtain ⟨p1, r1⟩ := hl i o1 h1
    obtain ⟨p2, r2⟩ := hl i' o2 h2
    exact hM.dist i i' p1 p2 g r1 r2 hne hg
theorem ops_step [Glo] {P : Program} {ops : List (Option Tmp)} {o : Oper} {r : List Oper} {K : St → Prop} {st : St} (h : ∀ K' : St → Prop, (∀ s, opsV P ops r K s → K' s) → stepV P ops o K' st) : opsV P ops (o :: r) K st := h _ fun _ h => h
theorem ops_end [Glo] {P : Program} {ops : List (Option Tmp)} {K : St → Prop} {st : St} (h : K st) : opsV P ops [] K st := h
theorem segs_one [Glo] {P : Program} {ops : List (Option Tmp)} {o : Oper} {prs : List (List Nat) × List (Nat × Nat)} {r : List (Nat × List (List Nat) × List (Nat × Nat))} {u : List Oper} {K : St → Prop} {st : St}
    (h : ∀ K' : St → Prop, (∀ s, segsL P ops r u K s → K' s) → stepV P ops o K' st) : segsL P ops ((1, prs) :: r) (o :: u) K st := h _ fun _ h => h
theorem segs_nil [Glo] {P : Program} {ops : List (Option Tmp)} {u : List Oper} {K : St → Prop} {st : St} (h : K st) : segsL P ops [] u K st := h
theorem segs_two [Glo] {P : Program} {ops : List (Option Tmp)} {n : Nat} {prs : List (List Nat)} {prp : List (Nat × Nat)} {r : List (Nat × List (List Nat) × List (Nat × Nat))} {u : List Oper} {K : St → Prop} {st : St}
    (h : ∀ KK : List HI → Prop, (∀ done, rechk P ops prs st (u.take (n + 2)) done prp ∧ segsL P ops r (u.drop (n + 2)) K (stS st (fun _ => true) done) → KK done) → drawV P ops prs st KK (u.take (n + 2)) []) : segsL P ops ((n + 2, prs, prp) :: r) u K st := by
  rw [segsL_more (by omega)]; exact h _ fun _ h => h
theorem draw_step [Glo] {P : Program} {ops : List (Option Tmp)} {r : List Oper} {o : Oper} {prs : List (List Nat)} {st0 : St} {K : List HI → Prop} {done : List HI}
    (h : ∀ F : Bool → V → List (Nat × Option Ob) → Nat → Prop, (∀ eff v ob nx, drawV P ops prs st0 K r (done ++ [⟨o.dst, eff, v, ob, nx⟩]) → F eff v ob nx) → hstep P ops o (stS st0 (fun j => (prs.getD done.length []).contains j) (done ++ (o :: r).map ph)) F) : drawV P ops prs st0 K (o :: r) done := h _ fun _ _ _ _ h => h
theorem draw_end [Glo] {P : Program} {ops : List (Option Tmp)} {prs : List (List Nat)} {st0 : St} {K : List HI → Prop} {done : List HI} (h : K done) : drawV P ops prs st0 K [] done := h
theorem rechk_nil [Glo] {P : Program} {ops : List (Option Tmp)} {prs : List (List Nat)} {st0 : St} {seg : List Oper} {done : List HI} {B : Prop} (h : B) : rechk P ops prs st0 seg done [] ∧ B := ⟨trivial, h⟩
theorem rechk_cons [Glo] {P : Program} {ops : List (Option Tmp)} {prs : List (List Nat)} {st0 : St} {seg : List Oper} {done : List HI} {i j : Nat} {r : List (Nat × Nat)} {B : Prop} (h1 : rechk P ops prs st0 seg done [(i, j)]) (h : rechk P ops prs st0 seg done r ∧ B) : rechk P ops prs st0 seg done ((i, j) :: r) ∧ B := ⟨⟨h1.1, h.1⟩, h.2⟩
/-- Objects of the call's own that it writes no more. -/
theorem awp_fz [Glo] {P : Program} {c : Code} {Q : Exit → St → Prop} {st : St} (ids : List Nat) (h : awp P c Q { st with ob := fzs ids st.ob }) : awp P c Q st := fun base Xa w0 a w ⟨M, hM⟩ => h base Xa w0 a w ⟨M, hM.fz ids⟩

def fzO (o : Ob) : Ob := { o with fz := true }
def fzAll (ob : List (Nat × Option Ob)) : List (Nat × Option Ob) := ob.map fun p => (p.1, p.2.map fzO)
theorem lookO_fzAll : ∀ (ob : List (Nat × Option Ob)) (i : Nat), lookO (fzAll ob) i = (lookO ob i).map fzO
  | [], _ => rfl
  | (k, o) :: r, i => by
    have ih := lookO_fzAll r i
    simp only [fzAll, List.map_cons, lookO] at ih ⊢
    split
    · rfl
    · exact ih
/-- Nothing of the call's own is written any more. -/
theorem awp_fzA [Glo] {P : Program} {c : Code} {Q : Exit → St → Prop} {st : St} (h : awp P c Q { st with ob := fzAll st.ob }) : awp P c Q st := fun base Xa w0 a w ⟨M, hM⟩ => h base Xa w0 a w ⟨M, hM.sub fun id o ho => by
  rw [lookO_fzAll] at ho
  obtain ⟨o', h1, rfl⟩ := Option.map_eq_some_iff.1 ho
  exact ⟨o'.fz, h1, fun h => by cases h⟩⟩

/-- 'awp_seq', the rest behind a name. -/
theorem awp_seqK [Glo] {P : Program} {x y : Code} {Q : Exit → St → Prop} {st : St} (h : ∀ K : St → Prop, (∀ s, awp P y Q s → K s) → awp P x (thn K Q) st) : awp P (.seq x y) Q st := awp_seq (h _ fun _ h => h)

@[simp] theorem opsV_nil [Glo] {P : Program} {ops : List (Option Tmp)} {K : St → Prop} {st : St} : opsV P ops [] K st = K st := rfl
@[simp] theorem opsV_cons [Glo] {P : Program} {ops : List (Option Tmp)} {r : List Oper} {o : Oper} {K : St → Prop} {st : St} : opsV P ops (o :: r) K st = stepV P ops o (opsV P ops r K) st := rfl
@[simp] theorem drawV_nil [Glo] {P : Program} {ops : List (Option Tmp)} {prs : List (List Nat)} {st0 : St} {K : List HI → Prop} {done : List HI} : drawV P ops prs st0 K [] done = K done := rfl
@[simp] theorem drawV_cons [Glo] {P : Program} {ops : List (Option Tmp)} {r : List Oper} {o : Oper} {prs : List (List Nat)} {st0 : St} {K : List HI → Prop} {done : List HI} : drawV P ops prs st0 K (o :: r) done =
    hstep P ops o (stS st0 (fun j => (prs.getD done.length []).contains j) (done ++ (o :: r).map ph)) (addH (drawV P ops prs st0 K r) done o.dst) := rfl
@[simp] theorem addH_full {F : List HI → Prop} {done : List HI} {dst : Option Tmp} {eff : Bool} {v : V} {ob : List (Nat × Option Ob)} {nx : Nat} : addH F done dst eff v ob nx = F (done ++ [⟨dst, eff, v, ob, nx⟩]) := rfl

def lenOk1 : V → Prop
  | .sl _ _ xs => xs.length ≤ maxLen
  | _ => True
def lensL : List V → Prop
  | [] => True
  | c :: r => lenOk1 c ∧ lensL r
def lensA : List V → Prop
  | [] => True
  | v :: r => lensL v.cells ∧ lensA r
theorem lenOk1_R {M : Mp} {w : World} {X : Nat → Prop} {n : Nat} {v : V} {u : Value} (h : R M w X n v u) : lenOk1 v := by
  cases h with
  | sl _ _ _ xs A len c f hlen hc hm => simp only [lenOk1]; omega
  | _ => trivial
theorem lensL_of : ∀ {cs : List V}, (∀ c ∈ cs, lenOk1 c) → lensL cs
  | [], _ => trivial
  | c :: _, h => ⟨h c (List.mem_cons_self ..), lensL_of fun c hc => h c (List.mem_cons_of_mem _ hc)⟩
theorem lensA_of [Glo] : ∀ {vs : List V}, (∀ v ∈ vs, ∀ c ∈ v.cells, lenOk1 c) → lensA vs
  | [], _ => trivial
  | v :: _, h => ⟨lensL_of (h v (List.mem_cons_self ..)), lensA_of fun v hv => h v (List.mem_cons_of_mem _ hv)⟩
/-- What came in is no longer than slices can be. -/
theorem Meets.lens [Glo] {P : Program} {f : FuncId} {args : List V} {r : V} (hc : callable P f = true) (h : lensA args → Meets P f args r) : Meets P f args r := by
  refine ⟨hc, fun w Xa vals M hXa hs hr => (h (lensA_of fun v hv c hcv => ?_)).2 w Xa vals M hXa hs hr⟩
  obtain ⟨j, hj⟩ := List.getElem?_of_mem hv
  have hR := hr j v hj
  generalize vals.getD j undef = u at hR
  have hone := lenOk1_R hR
  cases hR with
  | st _ cs arr hl h1 hh =>
    obtain ⟨i, hi⟩ := List.getElem?_of_mem hcv
    exact lenOk1_R (hh i c hi)
  | _ => simp only [V.cells, List.mem_singleton] at hcv; subst hcv; exact hone

attribute [simp] catchV fixOps gdV slotsOf keepT fzAll fzO wk1 wkL wkC wkT wkR okGs stepV opV pv ev lkT St.put lookO boxC ofVal of1 thn blk binV binI binS shI unV isSh bv mkV pickV pickB fixG okAll Op.operands Call.operands okG unG
  retQ retL resV V.cells liveIds clsR mkRes clsC cls1 pur1 pur spl fillV chunk fz1 fzs ownIds srcV notOwn appV callV V.fcells opn opnT opnC opnL opn1 obsL boundV slcV
  retI St.startI isSt lkV
  hpv hstep effV rechk appE stS eT eO isPoi isEff ph St.start argT byteV eqCs
end Go.Ab
