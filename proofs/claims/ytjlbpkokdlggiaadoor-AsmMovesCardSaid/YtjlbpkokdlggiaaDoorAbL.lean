/- Abstract states for walks, part 12: every operation does what part 10 says. -/
import Derived.Test.YtjlbpkokdlggiaaDoorAbK
namespace Go.Ab
open Go.RowKit

section
variable {P : Program} {base : Nat} {Xa : Nat → Prop} {w0 : W0} {w w' : World} {st : St} {a : Act} {M M' : Mp} {X X' : Nat → Prop} {n n' : Nat} {K : St → Prop} {Q : Exit → Act → World → Prop}

/-- what the rest of the walk is handed -/
def Nx [Glo] (base : Nat) (Xa : Nat → Prop) (w0 : W0) (m : Nat) (K : St → Prop) (a : Act) (w : World) : Prop := ∃ st, st.n = m ∧ K st ∧ Rel base Xa w0 st a w

theorem put_n (st : St) (d : Option Tmp) (v : V) : (st.put d v).n = st.n := by cases d <;> rfl

theorem Nx.of [Glo] {s : St} {d : Option Tmp} {v : V} (hK : K (s.put d v)) (h : RelM base Xa w0 (s.put d v) a w M) (hn : s.n = n) : Nx base Xa w0 n K a w := ⟨_, by rw [put_n]; exact hn, hK, M, h⟩

theorem wp_of_run {o : Oper} {u : Value} (h : (execOp a.eval o).run P w = .ok (.value u) w') {N : Act → World → Prop} (hN : N (a.put o.dst u) w') : o.wp P a w N Q := by
  unfold Oper.wp; rw [h]; exact hN
theorem wp_of_skip {o : Oper} (h : (execOp a.eval o).run P w = .ok .skip w') {N : Act → World → Prop} (hN : N (a.put o.dst undef) w') : o.wp P a w N Q := by
  unfold Oper.wp; rw [h]; exact hN

theorem alloc_sound [Glo] {o : Oper} {t : TypeId} (ho : o.op = .alloc t) {cs : List V} (hz : zeroE P t = some cs) (hd : ∀ d, o.dst = some d → d < st.n) (hR : RelM base Xa w0 st a w M)
    (hK : K ({ st with nx := st.nx + 1, ob := (st.nx, some ⟨t, cs.length, true, false, [cs]⟩) :: st.ob }.put o.dst (.ptr st.nx cs.length 0 0))) : o.wp P a w (Nx base Xa w0 st.n K) Q := by
  obtain ⟨i, z, hi, hiz, hcs⟩ := zero_Cs (P := P) (M := M) (w := w) (X := Xf base Xa w M st.ob) (n := st.nx) hz
  obtain ⟨M', hM'⟩ := hR.box t hcs hd
  refine wp_of_run (u := .pointer (some ⟨w.heap.size, 0, none⟩)) (w' := w.alloc (.cells z.cells t)) ?_ (Nx.of hK hM' rfl)
  unfold execOp
  simp [ho, Instr.alloc, zeroValue, typeInfo, hi, hiz, newVar, newRow, newObj, Sem.run]

theorem box_sound [Glo] {o : Oper} {t : TypeId} {x : Operand} (ho : o.op = .box t x) {cs : List V} (hc : boxC (ev st x) = some cs) (hd : ∀ d, o.dst = some d → d < st.n) (hR : RelM base Xa w0 st a w M)
    (hK : K ({ st with nx := st.nx + 1, ob := (st.nx, some ⟨t, cs.length, true, false, [cs]⟩) :: st.ob }.put o.dst (.ptr st.nx cs.length 0 0))) : o.wp P a w (Nx base Xa w0 st.n K) Q := by
  have hcs := boxC_R hc (ev_R hR.rx x)
  obtain ⟨M', hM'⟩ := hR.box t hcs hd
  refine wp_of_run (u := .pointer (some ⟨w.heap.size, 0, none⟩)) (w' := w.alloc (.cells (a.eval x).cells t)) ?_ (Nx.of hK hM' rfl)
  unfold execOp
  simp [ho, Instr.box, newVar, newRow, newObj, Sem.run]

theorem store_run [Glo] {t : TypeId} {m : Nat} {ag : Bool} (ht : tyE P t = some (m, ag)) {ad : Addr} {u : Value} (hu : u.cells.size = m) (hs : (storeCells ad u.cells.toList 0).run P w = .ok () w') :
    (Instr.storeAt t (.pointer (some ad)) u).run P w = .ok () w' := by
  obtain ⟨i, hi, hsz⟩ := ty_size ht
  simp [Instr.storeAt, Instr.sureAddr, storeVar, run_sizeOf hi, hsz, hu, hs]

theorem store_sound [Glo] {o : Oper} {t : TypeId} {x y : Operand} (ho : o.op = .store t x y) (h : opV P o K st) (hd : ∀ d, o.dst = some d → d < st.n) (hR : RelM base Xa w0 st a w M) : o.wp P a w (Nx base Xa w0 st.n K) Q := by
  have hx := ev_R hR.rx x
  have hy := ev_R hR.rx y
  unfold opV at h
  rw [ho] at h
  simp only [pv] at h
  split at h
  · rename_i m ag id sz i off ds ht hex hds
    rw [hex] at hx
    obtain ⟨g, hid, hg, hu⟩ := R_ptr hx
    have hcs := boxC_R hds hy
    split at h
    · rename_i b hb
      obtain ⟨hfz, rfl, hi, hoff, hlen, hK⟩ := h
      have hus : (a.eval y).cells.size = m := by rw [← hlen, hcs.len]; simp
      have hrun : ∀ w', (storeCells ⟨g, i * b.sz + off, none⟩ (a.eval y).cells.toList 0).run P w = .ok () w' → (execOp a.eval o).run P w = .ok .skip w' := fun w' h => by
        have := store_run ht hus h
        unfold execOp
        simp [ho, hu, this]
      cases hbox : b.box with
      | true =>
        simp only [hbox, if_true] at hK
        obtain ⟨w', h1, h2⟩ := hR.store (P := P) hb hfz hg hi (ds := ds) (us := (a.eval y).cells.toList) (off := off) (by omega) (by simpa only [hbox, if_true] using hcs)
        simp only [hbox] at h2
        exact wp_of_skip (hrun w' h1) (Nx.of hK (h2.put hd (.poi _ _)) rfl)
      | false =>
        simp only [hbox, Bool.false_eq_true, if_false] at hK
        obtain ⟨hni, hK⟩ := hK
        have hR' := hR.fz (ownIds ds)
        have hb' : lookO (fzs (ownIds ds) st.ob) id = some b := by rw [lookO_fzs, if_neg hni]; exact hb
        have hp := Cs.pur hR hcs
        obtain ⟨w', h1, h2⟩ := hR'.store (P := P) hb' hfz hg hi (ds := ds.map (pur1 st.ob)) (us := (a.eval y).cells.toList) (off := off) (by simp; omega) (by simpa only [hbox, Bool.false_eq_true, if_false] using hp)
        simp only [hbox] at h2
        exact wp_of_skip (hrun w' h1) (Nx.of hK (h2.put hd (.poi _ _)) rfl)
    · exact h.elim
  · exact h.elim

theorem Sem.bind_assoc' {α β γ : Type} (x : Sem α) (f : α → Sem β) (g : β → Sem γ) : (x.bind f).bind g = x.bind fun a => (f a).bind g := by
  induction x with
  | pure a => rfl
  | load m a k ih => simp only [Sem.bind]; congr 1; funext v; exact ih v
  | store m a v k ih => simp only [Sem.bind]; congr 1
  | new o k ih => simp only [Sem.bind]; congr 1; funext v; exact ih v
  | shape r k ih => simp only [Sem.bind]; congr 1; funext v; exact ih v
  | freeze a n k ih => simp only [Sem.bind]; congr 1
  | frozen a k ih => simp only [Sem.bind]; congr 1; funext v; exact ih v
  | getObj r k ih => simp only [Sem.bind]; congr 1; funext v; exact ih v
  | setObj r o k ih => simp only [Sem.bind]; congr 1
  | choose q k ih => simp only [Sem.bind]; congr 1; funext v; exact ih v
  | sys c k ih => simp only [Sem.bind]; congr 1; funext v; exact ih v
  | program k ih => simp only [Sem.bind]; congr 1; funext v; exact ih v
  | mark m k ih => simp only [Sem.bind]; congr 1
  | halt h => rfl
theorem Sem.bind_pure' {α : Type} (x : Sem α) : x.bind Sem.pure = x := by
  induction x with
  | pure a => rfl
  | load m a k ih => simp only [Sem.bind]; congr 1; funext v; exact ih v
  | store m a v k ih => simp only [Sem.bind]; congr 1
  | new o k ih => simp only [Sem.bind]; congr 1; funext v; exact ih v
  | shape r k ih => simp only [Sem.bind]; congr 1; funext v; exact ih v
  | freeze a n k ih => simp only [Sem.bind]; congr 1
  | frozen a k ih => simp only [Sem.bind]; congr 1; funext v; exact ih v
  | getObj r k ih => simp only [Sem.bind]; congr 1; funext v; exact ih v
  | setObj r o k ih => simp only [Sem.bind]; congr 1
  | choose q k ih => simp only [Sem.bind]; congr 1; funext v; exact ih v
  | sys c k ih => simp only [Sem.bind]; congr 1; funext v; exact ih v
  | program k ih => simp only [Sem.bind]; congr 1; funext v; exact ih v
  | mark m k ih => simp only [Sem.bind]; congr 1
  | halt h => rfl
theorem lawful [Glo] : LawfulMonad Sem := LawfulMonad.mk' Sem (fun x => Sem.bind_pure' x) (fun _ _ => rfl) (fun x f g => Sem.bind_assoc' x f g)

theorem run_mapM_list [Glo] {α β : Type} (f : α → Sem β) (g : α → β) : ∀ (l : List α), (∀ x ∈ l, (f x).run P w = .ok (g x) w) → (l.mapM f).run P w = .ok (l.map g) w
  | [], _ => by simp
  | x :: l, h => by
    have := lawful
    rw [List.mapM_cons]
    simp [h x (List.mem_cons_self ..), run_mapM_list f g l (fun y hy => h y (List.mem_cons_of_mem _ hy))]
theorem run_mapM [Glo] {α β : Type} (f : α → Sem β) (g : α → β) (l : Array α) (h : ∀ x ∈ l, (f x).run P w = .ok (g x) w) : (l.mapM f).run P w = .ok (l.map g) w := by
  have := lawful
  rw [← Array.toArray_toList (xs := l), List.mapM_toArray]
  have h1 := run_mapM_list f g l.toList (fun x hx => h x (by simpa using hx))
  rw [map_eq_pure_bind, Sem.run_bind, h1]
  simp
  apply Array.ext'; simp
end
end Go.Ab
