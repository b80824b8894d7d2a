/- Abstract states for walks, part 15: regions, branches, loops. -/
import Derived.Test.YtjlbpkokdlggiaaDoorAbN
namespace Go.Ab
open Go.RowKit

/-- WHAT IS LEFT TO WALK: from every run's state that the abstract state fits, the code comes to an end that Q allows. -/
def awp [Glo] (P : Program) (c : Code) (Q : Exit → St → Prop) (st : St) : Prop :=
  ∀ base Xa w0 a w, Rel base Xa w0 st a w → c.wp P (fun e a' w' => ∃ st', st'.n = st.n ∧ Q e st' ∧ Rel base Xa w0 st' a' w') a w

def thn (K : St → Prop) (Q : Exit → St → Prop) : Exit → St → Prop
  | .normal, s => K s
  | e, s => Q e s
def blk (id : Nat) (Q : Exit → St → Prop) : Exit → St → Prop
  | .exit id', s => if id' = id then Q .normal s else Q (.exit id') s
  | e, s => Q e s

section
variable {P : Program} {base : Nat} {Xa : Nat → Prop} {w0 : W0} {w w' : World} {st : St} {a : Act} {M M' : Mp} {X X' : Nat → Prop} {n n' : Nat} {K : St → Prop} {Q : Exit → St → Prop}

theorem wanted_of [Glo] {ops : Array Oper} {o : Oper} {j : Nat} {want : Bool} (hg : o.guard = some (j, want)) {d : Tmp} (hj : (ops.toList[j]?).bind (·.dst) = some d) {b want' : Bool} (hb : gdV (lkT st.tmp d) want = some (b, want')) (hR : RelM base Xa w0 st a w M) :
    Region.wanted o (yielded ops a.tmps) = (b == want') := by
  have h := hR.tmps d
  rw [Array.getElem?_toList] at hj
  have key : ∀ c : Bool, a.tmps.getD d undef = .bool c → Region.wanted o (yielded ops a.tmps) = (c == want) := fun c h => by
    have hlt : d < a.tmps.size := by
      rcases Nat.lt_or_ge d a.tmps.size with h' | h'
      · exact h'
      · rw [Array.getD_eq_getD_getElem?, Array.getElem?_eq_none h'] at h; cases h
    have h2 : a.tmps[d]? = some (.bool c) := by
      rw [Array.getElem?_eq_getElem hlt]
      rw [Array.getD_eq_getD_getElem?, Array.getElem?_eq_getElem hlt] at h
      exact congrArg some h
    simp only [Region.wanted, hg, yielded, hj, Option.bind_some, h2]
    rfl
  unfold gdV at hb
  split at hb
  · rename_i c he
    simp only [Option.some.injEq, Prod.mk.injEq] at hb
    obtain ⟨rfl, rfl⟩ := hb
    rw [he] at h
    exact key _ (R_bool h)
  · rename_i c b' he
    simp only [Option.some.injEq, Prod.mk.injEq] at hb
    obtain ⟨rfl, rfl⟩ := hb
    rw [he] at h
    cases c with
    | true =>
      rw [key b' (by
        generalize a.tmps.getD d undef = u at h ⊢
        cases h with
        | gd _ _ _ _ h1 _ => exact R_bool (h1 rfl))]
      simp
    | false =>
      have hu : a.tmps.getD d undef = undef := by
        generalize a.tmps.getD d undef = u at h ⊢
        cases h with
        | gd _ _ _ _ _ h0 => exact h0 rfl
      have h2 : a.tmps[d]? = none ∨ a.tmps[d]? = some undef := by
        cases hc : a.tmps[d]? with
        | none => exact .inl rfl
        | some x => rw [Array.getD_eq_getD_getElem?, hc] at hu; simp at hu; rw [hu]; exact .inr rfl
      have : yielded ops a.tmps j = none := by
        rcases h2 with h2 | h2 <;> simp only [yielded, hj, Option.bind_some, h2] <;> rfl
      simp only [Region.wanted, hg, this]
      rfl
  · simp at hb

theorem fix_ob (st : St) : ∀ l : List Operand, (fixG st l).ob = st.ob
  | [] => rfl
  | x :: r => by
    cases x with
    | tmp t => simp only [fixG]; split <;> exact fix_ob st r
    | _ => exact fix_ob st r
theorem fix_nx (st : St) : ∀ l : List Operand, (fixG st l).nx = st.nx
  | [] => rfl
  | x :: r => by
    cases x with
    | tmp t => simp only [fixG]; split <;> exact fix_nx st r
    | _ => exact fix_nx st r
theorem fix_n (st : St) : ∀ l : List Operand, (fixG st l).n = st.n
  | [] => rfl
  | x :: r => by
    cases x with
    | tmp t => simp only [fixG]; split <;> exact fix_n st r
    | _ => exact fix_n st r
theorem fix_pn (st : St) : ∀ l : List Operand, (fixG st l).pn = st.pn
  | [] => rfl
  | x :: r => by
    cases x with
    | tmp t => simp only [fixG]; split <;> exact fix_pn st r
    | _ => exact fix_pn st r
theorem fix_R [Glo] {N : Nat} (h : RelX base st a w M X N) : ∀ l : List Operand, okAll st l → RelX base (fixG st l) a w M X N
  | [], _ => h
  | x :: r, hl => by
    cases x with
    | tmp t =>
      simp only [okAll] at hl
      have ih := fix_R h r hl.2
      simp only [fixG]
      split
      · rename_i b v hv
        have ht := h.tmps t
        rw [hv] at ht
        have hg := hl.1
        rw [hv] at hg
        have hu : R M w X N v (a.tmps.getD t undef) := by
          cases ht with
          | gd _ _ _ _ h' _ => exact h' hg
        refine ⟨fun t' => ?_, ih.obs, ih.gl⟩
        simp only [lkT]
        split
        · rename_i e; subst e; exact hu
        · exact ih.tmps t'
      · exact ih
    | _ => exact fix_R h r (by simpa only [okAll] using hl)

theorem oper_mono {o : Oper} {N N' : Act → World → Prop} {QC : Exit → Act → World → Prop} (h : o.wp P a w N QC) (hN : ∀ a w, N a w → N' a w) : o.wp P a w N' QC := by
  unfold Oper.wp at h ⊢
  revert h
  generalize (execOp a.eval o).run P w = res
  intro h
  cases res with
  | ok nx w1 =>
    cases nx with
    | value v => exact hN _ _ h
    | skip => exact hN _ _ h
    | enter f args =>
      refine Calls.mono h ?_
      intro e w2 he
      cases e with
      | returned v => exact hN _ _ he
      | panicked c => exact he
      | outgrown => exact he
    | defer d => exact hN _ _ h
    | row s args => exact Rows.mono h fun v w2 he => hN _ _ he
    | _ => exact h.elim
  | halt hh w1 =>
    cases hh with
    | panic v => exact h
    | _ => exact h.elim

theorem RelM.bump [Glo] (h : RelM base Xa w0 st a w M) (k : Nat) : RelM base Xa w0 { st with nx := st.nx + k } a w M :=
  ⟨h.below, h.hbase, h.xa, fun m k v u hv => (h.gh m k v u hv).mono (Nat.le_refl _) (fun _ _ => rfl) (fun _ h => h) (fun _ _ => rfl), ⟨Nat.le_trans h.pin.1 (by simp), h.pin.2⟩, h.defers, h.size, fun t => (h.tmps t).mono (by simp) (fun _ _ => rfl) (fun _ h => h) (fun _ _ => rfl), fun id o ho => by
    obtain ⟨h1, h2⟩ := h.obs id o ho
    exact ⟨by simp only; omega, h2.mono (by simp) (fun _ _ => rfl) (fun _ h => h) (fun _ _ => rfl) (fun _ _ => rfl)⟩, h.dist⟩

theorem uni_sound [Glo] {QC : Exit → Act → World → Prop} {o : Oper} {b want : Bool} {r : V} (h : uniV P o b want K st r) (hd : ∀ d, o.dst = some d → d < st.n) (hR : RelM base Xa w0 st a w M) :
    if (b == want) = true then o.wp P a w (Nx base Xa w0 st.n K) QC else Nx base Xa w0 st.n K (a.put o.dst undef) w := by
  unfold uniV at h
  split at h
  · rename_i c ho
    obtain ⟨callee, args, tys⟩ := c
    split at h
    · rename_i f hcal
      simp only at hcal
      subst hcal
      split at h
      · rename_i fid hf
        obtain ⟨h1, hobs, hK⟩ := h
        split
        · rename_i hbw
          have hbw' : b = want := by simpa using hbw
          obtain ⟨hg, hm⟩ := h1 hbw'
          have hcall := call_sound (Q := QC) (K := fun st' => st' = ({ st with nx := st.nx + r.fcells.length, ob := fzs (((args.toList.map (ev st)).map unG).flatMap fun v : V => ownIds v.cells) st.ob }.put o.dst (opn st.nx r))) ho (by
            unfold callV; rw [hf]; exact ⟨hg, .inl ⟨0, r, hm, by simp only [aftC]; rw [hobs]; rfl⟩⟩) hd hR
          refine oper_mono hcall ?_
          rintro a' w' ⟨s', hn, rfl, M', hM'⟩
          refine ⟨_, by rw [put_n], hK, M', ?_⟩
          cases hdst : o.dst with
          | none => rw [hdst] at hM'; exact hM'
          | some d =>
            rw [hdst] at hM'
            refine ⟨hM'.below, hM'.hbase, hM'.xa, hM'.gh, hM'.pin, hM'.defers, hM'.size, fun t => ?_, hM'.obs, hM'.dist⟩
            have := hM'.tmps t
            simp only [St.put, lkT] at this ⊢
            split
            · rename_i e
              rw [if_pos e] at this
              exact .gd _ _ _ _ (fun _ => this) (fun e' => by rw [hbw] at e'; cases e')
            · rename_i e
              rw [if_neg e] at this
              exact this
        · rename_i hbw
          refine ⟨_, by rw [put_n], hK, M, ?_⟩
          have h2 := (hR.fz (((args.toList.map (ev st)).map unG).flatMap fun v : V => ownIds v.cells)).bump r.fcells.length
          exact h2.put (st := { st with nx := st.nx + r.fcells.length, ob := fzs (((args.toList.map (ev st)).map unG).flatMap fun v : V => ownIds v.cells) st.ob }) hd (.gd _ _ _ _ (fun e => absurd e hbw) (fun _ => rfl))
      · exact h.elim
    · exact h.elim
  · exact h.elim

theorem RelM.fixM [Glo] (h : RelM base Xa w0 st a w M) {l : List Operand} (hl : okAll st l) : RelM base Xa w0 (fixG st l) a w M := by
  have hF := fix_R h.rx l hl
  have h1 := fix_ob st l
  have h2 := fix_nx st l
  have h3 := fix_n st l
  have h4 := fix_pn st l
  refine ⟨h.below, h.hbase, h.xa, fun m k v u hv => by rw [h1]; exact h.gh m k v u hv, by rw [h2, h4]; exact h.pin, h.defers, by rw [h3]; exact h.size, fun t => ?_, fun id o ho => ?_, fun id id' o o' g q1 q2 => ?_⟩
  · rw [h1, h2]; exact hF.tmps t
  · rw [h1] at ho ⊢; rw [h2]; exact h.obs id o ho
  · rw [h1] at q1 q2; exact h.dist id id' o o' g q1 q2
/-- One operation, under its guard. -/
theorem step_sound [Glo] {ops : Array Oper} {QC : Exit → Act → World → Prop} {o : Oper} (h : stepV P (slotsOf ops.toList) o K st) (hok : okO P st.n o = true) (hR : RelM base Xa w0 st a w M) :
    if Region.wanted o (yielded ops a.tmps) = true then o.wp P a w (Nx base Xa w0 st.n K) QC else Nx base Xa w0 st.n K (a.put o.dst undef) w := by
  have hd : ∀ d, o.dst = some d → d < st.n := fun d hd => by
    unfold okO at hok
    simp only [hd, Bool.and_eq_true, decide_eq_true_eq] at hok
    exact hok.1
  simp only [stepV] at h
  split at h
  · rename_i hg
    rw [if_pos (by simp [Region.wanted, hg])]
    exact opV_sound h hok hR
  · rename_i j want hg
    split at h
    · rename_i d hj
      split at h
      · rename_i b want hb
        rw [slotsOf_get] at hj
        rw [wanted_of hg hj hb hR]
        split at h
        · rename_i p v hpv
          by_cases hbw : b = want
          · rw [if_pos (by simp [hbw])]
            obtain ⟨hp, hall⟩ := h.1 hbw
            obtain ⟨u, h1, h2⟩ := pv_sound hpv hp (fix_R hR.rx _ hall) (fun s d x h' => by
              unfold okO at hok
              simp only [h', Bool.and_eq_true] at hok
              exact hok.2)
            exact wp_of_run h1 (Nx.of h.2 (hR.put hd (.gd _ _ _ _ (fun _ => h2) (fun e => by simp [hbw] at e))) rfl)
          · rw [if_neg (by simpa using hbw)]
            exact Nx.of h.2 (hR.put hd (.gd _ _ _ _ (fun h' => absurd (by simpa using h') hbw) (fun _ => rfl))) rfl
        · split at h
          · rcases h with h | ⟨r, h⟩
            case inr => exact uni_sound h hd hR
            by_cases hbw : b = want
            · rw [if_pos (by simp [hbw])]
              exact opV_sound (h.1 hbw) hok hR
            · rw [if_neg (by simpa using hbw)]
              exact Nx.of (h.2 (by cases b <;> cases want <;> simp_all)) (hR.put hd (.poi _ _)) rfl
          · by_cases hbw : b = want
            · rw [if_pos (by simp [hbw])]
              obtain ⟨hall, hv⟩ := h.1 hbw
              have hF := fix_R hR.rx _ hall
              have hn := fix_n st (fixOps o.op)
              have hw : o.wp P a w (Nx base Xa w0 (fixG st (fixOps o.op)).n K) QC := opV_sound hv (by rw [hn]; exact hok) (hR.fixM hall)
              rw [hn] at hw
              exact hw
            · rw [if_neg (by simpa using hbw)]
              exact Nx.of (h.2 (by cases b <;> cases want <;> simp_all)) (hR.put hd (.poi _ _)) rfl
      · exact h.elim
    · exact h.elim

theorem ops_sound [Glo] {ops : Array Oper} {QC : Exit → Act → World → Prop} {m : Nat} (hQ : ∀ a w, Nx base Xa w0 m K a w → QC .normal a w) : ∀ (l : List Oper) (st : St) (a : Act) (w : World), st.n = m → opsV P (slotsOf ops.toList) l K st → (l.all (okO P m)) = true → Rel base Xa w0 st a w → wpList P ops QC l a w
  | [], st, a, w, hn, h, _, hR => hQ a w ⟨st, hn, h, hR⟩
  | o :: r, st, a, w, hn, h, hok, ⟨M, hR⟩ => by
    simp only [List.all_cons, Bool.and_eq_true] at hok
    have next : ∀ a' w', Nx base Xa w0 st.n (opsV P (slotsOf ops.toList) r K) a' w' → wpList P ops QC r a' w' := fun a' w' ⟨st', h1, h2, h3⟩ => ops_sound hQ r st' a' w' (h1.trans hn) h2 hok.2 h3
    have hs := step_sound (QC := QC) h (by rw [hn]; exact hok.1) hR
    unfold wpList
    split
    · rename_i hw
      rw [if_pos hw] at hs
      exact .inl (oper_mono hs next)
    · rename_i hw
      rw [if_neg hw] at hs
      exact next _ _ hs

theorem awp_region [Glo] {id : Nat} {ops : List Oper} (hok : ops.all (okO P st.n) = true) (h : opsV P (slotsOf ops) ops (Q .normal) st) : awp P (.region id ops.toArray false) Q st := by
  intro base Xa w0 a w hR
  refine wp_region_list ?_
  exact ops_sound (K := Q .normal) (m := st.n) (fun a w ⟨s, h1, h2, h3⟩ => ⟨s, h1, h2, h3⟩) _ st a w rfl (by simpa using h) (by simpa using hok) hR

theorem awp_skip [Glo] (h : Q .normal st) : awp P .skip Q st := fun _ _ _ _ _ hR => wp_skip ⟨st, rfl, h, hR⟩
theorem awp_exit [Glo] {id : Nat} (h : Q (.exit id) st) : awp P (.exit id) Q st := fun _ _ _ _ _ hR => wp_exit ⟨st, rfl, h, hR⟩
theorem awp_ret [Glo] (h : Q .ret st) : awp P .ret Q st := fun _ _ _ _ _ hR => wp_ret ⟨st, rfl, h, hR⟩
theorem awp_seq [Glo] {x y : Code} (h : awp P x (thn (awp P y Q) Q) st) : awp P (.seq x y) Q st := fun base Xa w0 a w hR => wp_seq (wp_mono (h base Xa w0 a w hR) fun e a' w' ⟨s, h1, h2, h3⟩ => by
  cases e with
  | normal =>
    exact wp_mono (h2 base Xa w0 a' w' h3) fun e _ _ ⟨s', h1', h2', h3'⟩ => ⟨s', h1'.trans h1, h2', h3'⟩
  | _ => exact ⟨s, h1, h2, h3⟩)
theorem awp_cond [Glo] {c : Operand} {x y : Code} {b : Bool} (hc : ev st c = .bool b) (h1 : b = true → awp P x Q st) (h2 : b = false → awp P y Q st) : awp P (.cond c x y) Q st := fun base Xa w0 a w hR => by
  obtain ⟨M, hM⟩ := hR
  have hb := ev_R hM.rx c
  rw [hc] at hb
  exact wp_cond_split (R_bool hb) (fun h => h1 h base Xa w0 a w ⟨M, hM⟩) (fun h => h2 h base Xa w0 a w ⟨M, hM⟩)
theorem awp_block [Glo] {id : Nat} {c : Code} (h : awp P c (blk id Q) st) : awp P (.block id c) Q st := fun base Xa w0 a w hR => wp_block (wp_mono (h base Xa w0 a w hR) fun e _ _ ⟨s, h1, h2, h3⟩ => by
  cases e with
  | exit id' =>
    simp only [blk] at h2
    simp only [Exit.inBlock]
    split at h2
    · rename_i e; rw [if_pos e]; exact ⟨s, h1, h2, h3⟩
    · rename_i e; rw [if_neg e]; exact ⟨s, h1, h2, h3⟩
  | _ => exact ⟨s, h1, h2, h3⟩)
theorem awp_mono [Glo] {c : Code} {Q' : Exit → St → Prop} (h : awp P c Q st) (hq : ∀ e s, Q e s → Q' e s) : awp P c Q' st := fun base Xa w0 a w hR =>
  wp_mono (h base Xa w0 a w hR) fun e _ _ ⟨s, h1, h2, h3⟩ => ⟨s, h1, hq e s h2, h3⟩

def ren1 (ρ : Nat → Nat) : V → V
  | .own id => .own (ρ id)
  | .ptr id sz i off => .ptr (ρ id) sz i off
  | .part id sz lo len => .part (ρ id) sz lo len
  | .omap id => .omap (ρ id)
  | .itr id => .itr (ρ id)
  | v => v
def ren (ρ : Nat → Nat) : V → V
  | .st cs => .st (cs.map (ren1 ρ))
  | v => ren1 ρ v
def lt1 (n : Nat) : V → Prop
  | .own id => id < n
  | .ptr id _ _ _ => id < n
  | .part id _ _ _ => id < n
  | .omap id => id < n
  | .itr id => id < n
  | .st _ => False
  | .tup _ => False
  | .new _ _ _ => False
  | .newm _ _ _ => False
  | .gd _ _ => False
  | _ => True
def ltV (n : Nat) : V → Prop
  | .st cs => ∀ c ∈ cs, lt1 n c
  | v => lt1 n v

theorem ren1_R {ρ : Nat → Nat} {v : V} {u : Value} (h : R M w X n (ren1 ρ v) u) (hl : lt1 n' v) (hX : ∀ b, X b → X' b) : R (fun i => M (ρ i)) w X' n' v u := by
  have hm : ∀ {v u}, R M w X 0 v u → R (fun i => M (ρ i)) w X' 0 v u := fun h => h.mono (Nat.le_refl _) (fun _ h => absurd h (by omega)) hX (fun _ _ => rfl)
  cases v with
  | poi => exact .poi _ _
  | bool b => cases h; exact .bool _ _
  | int k i => cases h; exact .int _ _ _
  | str s => cases h; exact .str _ _
  | st cs => exact hl.elim
  | sl sz t xs =>
    cases h with
    | sl _ _ _ _ A len c f hlen hc hm' ht hnil hs hA h =>
      exact .sl _ sz t xs A len c f hlen hc hm' ht hnil hs (fun h0 => by obtain ⟨ad, e, hx, hcell⟩ := hA h0; exact ⟨ad, e, hX _ hx, hcell⟩) fun j u hu => hm (h j u hu)
  | own id => cases h with | own _ _ A l c _ hv => exact .own _ id A l c hl hv
  | ptr id sz i off => cases h with | ptr _ _ _ _ _ g k _ hg hk => exact .ptr _ id sz i off g k hl hg hk
  | clo f cs => cases h with | clo _ _ _ arr hl' h => exact .clo _ f cs arr hl' fun j u hu => hm (h j u hu)
  | part id sz lo len => cases h with | part _ _ _ _ _ g N cap _ hv hl' => exact .part _ id sz lo len g N cap hl hv hl'
  | iptr cs => cases h with | iptr _ _ ad f hx hc h => exact .iptr _ cs ad f (hX _ hx) hc fun j u hu => hm (h j u hu)
  | omap id => cases h with | omap _ _ g _ hv => exact .omap _ id g hl hv
  | itr id => cases h with | itr _ _ g _ hv => exact .itr _ id g hl hv
  | mp sz xs => cases h with | mp _ _ _ g es clk hx hg hl' hsz hok hs h1 h => exact .mp _ sz xs g es clk (hX _ hx) hg hl' hsz hok hs h1 fun j u hu => hm (h j u hu)
  | newm a b c => exact hl.elim
  | tup vs => exact hl.elim
  | new a b c => exact hl.elim
  | fn f => cases h; exact .fn _ _
  | gd a b => exact hl.elim
theorem ren_R [Glo] {ρ : Nat → Nat} {v : V} {u : Value} (h : R M w X n (ren ρ v) u) (hl : ltV n' v) (hX : ∀ b, X b → X' b) : R (fun i => M (ρ i)) w X' n' v u := by
  cases v with
  | st cs =>
    simp only [ren] at h
    cases h with
    | st _ _ arr hlen h1 hr =>
      exact .st _ _ _ (by simpa using hlen) h1 fun j c hc => ren1_R (hr j (ren1 ρ c) (by simp [hc])) (hl c (List.mem_of_getElem? hc)) hX
  | _ => exact ren1_R h hl hX

/-- a slot's entry of the new state is known in the old one -/
def leT (ρ : Nat → Nat) (st : St) (nx : Nat) (p : Nat × V) : Prop := p.2 = .poi ∨ (ltV nx p.2 ∧ lkT st.tmp p.1 = ren ρ p.2)
def leO (ρ : Nat → Nat) (st : St) (nx : Nat) (p : Nat × Option Ob) : Prop :=
  match p with
  | (_, none) => True
  | (id, some o) => id < nx ∧ ∃ fz, (o.fz = false → fz = false) ∧
      (if o.box then (∀ x ∈ o.xs, ∀ c ∈ x, lt1 nx c) ∧ lookO st.ob (ρ id) = some { o with fz := fz, xs := o.xs.map (·.map (ren1 ρ)) } else lookO st.ob (ρ id) = some { o with fz := fz })
/-- st' says no more than st, its objects under other numbers -/
structure Le (ρ : Nat → Nat) (st st' : St) : Prop where
  n : st'.n = st.n
  tmp : ∀ p ∈ st'.tmp, leT ρ st st'.nx p
  ob : ∀ p ∈ st'.ob, leO ρ st st'.nx p
  inj : ∀ p ∈ st'.ob, ∀ q ∈ st'.ob, p.1 ≠ q.1 → ρ p.1 ≠ ρ q.1
  pin : st'.pn = st.pn ∧ st.pn ≤ st'.nx ∧ ∀ i, i < st.pn → ρ i = i

theorem lkT_mem : ∀ (l : List (Nat × V)) (t : Nat), lkT l t = .poi ∨ (t, lkT l t) ∈ l
  | [], t => .inl rfl
  | (k, v) :: r, t => by
    simp only [lkT]
    split
    · rename_i e; subst e; exact .inr (List.mem_cons_self ..)
    · exact (lkT_mem r t).imp (fun h => h) (List.mem_cons_of_mem _)
theorem lookO_mem : ∀ (l : List (Nat × Option Ob)) (t : Nat) (o : Ob), lookO l t = some o → (t, some o) ∈ l
  | [], t, o, h => by simp [lookO] at h
  | (k, v) :: r, t, o, h => by
    simp only [lookO] at h
    split at h
    · rename_i e; subst e; subst h; exact List.mem_cons_self ..
    · exact List.mem_cons_of_mem _ (lookO_mem r t o h)

theorem Rel.le [Glo] {ρ : Nat → Nat} {st' : St} (h : Rel base Xa w0 st a w) (hle : Le ρ st st') : Rel base Xa w0 st' a w := by
  obtain ⟨M, h⟩ := h
  have hobs : ∀ id o, lookO st'.ob id = some o → id < st'.nx ∧ ∃ o', lookO st.ob (ρ id) = some o' ∧ (o.fz = false → o'.fz = false) := fun id o ho => by
    have := hle.ob _ (lookO_mem _ _ _ ho)
    obtain ⟨h1, fz, h2, h3⟩ := this
    refine ⟨h1, ?_⟩
    split at h3
    · exact ⟨_, h3.2, h2⟩
    · exact ⟨_, h3, h2⟩
  have hX : ∀ b, Xf base Xa w M st.ob b → Xf base Xa w (fun i => M (ρ i)) st'.ob b := fun b hx => ⟨hx.1, fun id o ho hf => by
    obtain ⟨_, o', h1, h2⟩ := hobs id o ho
    exact hx.2 _ o' h1 (h2 hf)⟩
  refine ⟨fun i => M (ρ i), h.below, h.hbase, h.xa, fun m n v u hv => (h.gh m n v u hv).mono (Nat.le_refl _) (fun _ _ => rfl) hX (fun _ _ => rfl), ⟨by rw [hle.pin.1]; exact hle.pin.2.1, fun i hi => by
    rw [hle.pin.1] at hi
    simp only [hle.pin.2.2 i hi]
    exact h.pin.2 i hi⟩, h.defers, h.size.trans hle.n.symm, fun t => ?_, fun id o ho => ?_, ?_⟩
  · rcases lkT_mem st'.tmp t with h' | h'
    · rw [h']; exact .poi _ _
    · rcases hle.tmp _ h' with h2 | ⟨h2, h3⟩
      · simp only at h2; rw [h2]; exact .poi _ _
      · have := h.tmps t
        simp only at h3
        rw [h3] at this
        exact ren_R this h2 hX
  · obtain ⟨h1, fz, h2, h3⟩ := hle.ob _ (lookO_mem _ _ _ ho)
    refine ⟨h1, ?_⟩
    split at h3
    · rename_i hb
      obtain ⟨h3, h4⟩ := h3
      obtain ⟨_, hok⟩ := h.obs _ _ h4
      obtain ⟨vals, hrow, hv1, hr⟩ := hok.row
      refine ⟨hok.pos, fun x hx => ?_, vals, by simpa using hrow, hv1, fun j u hu => ?_⟩
      · have := hok.len (x.map (ren1 ρ)) (List.mem_map.2 ⟨x, hx, rfl⟩)
        simpa using this
      · have e : (o.xs.map (·.map (ren1 ρ))).flatten = o.xs.flatten.map (ren1 ρ) := by rw [List.map_flatten]
        have := hr j (ren1 ρ u) (by simp only [e]; rw [List.getElem?_map, hu]; rfl)
        obtain ⟨x, hx, hc⟩ := List.mem_flatten.1 (List.mem_of_getElem? hu)
        simp only [hb, if_true] at this ⊢
        exact ren1_R this (h3 x hx u hc) hX
    · rename_i hb
      obtain ⟨_, hok⟩ := h.obs _ _ h3
      obtain ⟨vals, hrow, hv1, hr⟩ := hok.row
      refine ⟨hok.pos, hok.len, vals, hrow, hv1, fun j u hu => ?_⟩
      have := hr j u hu
      simp only [hb] at this ⊢
      exact this.mono (Nat.le_refl _) (fun _ h => absurd h (by simp)) hX (fun _ _ => rfl)
  · intro id id' o o' g h1 h2 hne hg
    obtain ⟨_, p1, q1, _⟩ := hobs id o h1
    obtain ⟨_, p2, q2, _⟩ := hobs id' o' h2
    exact h.dist _ _ _ _ g q1 q2 (hle.inj _ (lookO_mem _ _ _ h1) _ (lookO_mem _ _ _ h2) hne) hg

theorem awp_le [Glo] {ρ : Nat → Nat} {c : Code} {st' : St} (hle : Le ρ st st') (h : awp P c Q st') : awp P c Q st := fun base Xa w0 a w hR =>
  wp_mono (h base Xa w0 a w (hR.le hle)) fun _ _ _ ⟨s, h1, h2, h3⟩ => ⟨s, h1.trans hle.n, h2, h3⟩

theorem wp_loop_idx {c : Code} {QC : Exit → Act → World → Prop} (I : Nat → Act → World → Prop) {k0 : Nat} (h₀ : I k0 a w)
    (round : ∀ k a w, I k a w → c.wp P (Exit.then (fun a' w' => ∃ k', k' < k ∧ I k' a' w') QC) a w) : (Code.loop c).wp P QC a w := by
  intro b k cs
  have key : ∀ n a w, I n a w → ∃ e a' w', QC e a' w' ∧ Arrives P (lone (b.at a (.code c :: .inLoop c :: k)) cs w) b k cs e a' w' := by
    intro n
    induction n using Nat.strongRecOn with
    | _ n ih =>
      intro a w hI
      obtain ⟨e, a₁, w₁, hq, harr⟩ := round n a w hI b (.inLoop c :: k) cs
      cases e with
      | normal =>
        obtain ⟨k', hlt, hI₁⟩ := hq
        obtain ⟨e₂, a₂, w₂, hq₂, harr₂⟩ := ih k' hlt a₁ w₁ hI₁
        exact ⟨e₂, a₂, w₂, hq₂, .of_steps (Steps.trans harr (.one step_inLoop)) harr₂⟩
      | exit id => exact ⟨_, a₁, w₁, hq, .pass (x := .inLoop c) rfl (fun _ _ => .inl (by simp)) harr⟩
      | goto l => exact ⟨_, a₁, w₁, hq, .pass (x := .inLoop c) rfl (fun _ _ => .inl (by simp)) harr⟩
      | ret => exact ⟨_, a₁, w₁, hq, .pass (x := .inLoop c) rfl (fun _ _ => .inl (by simp)) harr⟩
      | panic ch => exact ⟨_, a₁, w₁, hq, .pass (x := .inLoop c) rfl (fun _ _ => .inl (by simp)) harr⟩
      | outgrown => exact ⟨_, a₁, w₁, hq, .pass (x := .inLoop c) rfl (fun _ _ => .inl (by simp)) harr⟩
  obtain ⟨e, a', w', hq, harr⟩ := key _ a w h₀
  exact ⟨e, a', w', hq, .of_steps (.one step_loop) harr⟩

/-- A LOOP: I k: what holds at a round's head, k: a number that every round lowers. -/
theorem awp_loop [Glo] {c : Code} (I : Nat → St → Prop) {k0 : Nat} {st0 : St} {ρ0 : Nat → Nat} (hle : Le ρ0 st st0) (h0 : I k0 st0)
    (round : ∀ k s, I k s → s.n = st.n → awp P c (thn (fun s' => ∃ k' s'' ρ, k' < k ∧ Le ρ s' s'' ∧ I k' s'') Q) s) : awp P (.loop c) Q st := fun base Xa w0 a w hR => by
  refine wp_loop_idx (fun k a w => ∃ s, I k s ∧ s.n = st.n ∧ Rel base Xa w0 s a w) (k0 := k0) ⟨st0, h0, hle.n, hR.le hle⟩ fun k a w ⟨s, hI, hn, hs⟩ => ?_
  refine wp_mono (round k s hI hn base Xa w0 a w hs) fun e a' w' ⟨s', h1, h2, h3⟩ => ?_
  cases e with
  | normal =>
    obtain ⟨k', s'', ρ, hlt, hle', hI'⟩ := h2
    exact ⟨k', hlt, s'', hI', (hle'.n.trans h1).trans hn, h3.le hle'⟩
  | _ => exact ⟨s', h1.trans hn, h2, h3⟩
end
end Go.Ab
