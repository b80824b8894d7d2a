/- Abstract states for walks, part 13: literals, appends, calls. -/
import Derived.Test.YtjlbpkokdlggiaaDoorAbL
namespace Go.Ab
open Go.RowKit

section
variable {P : Program} {base : Nat} {Xa : Nat → Prop} {w0 : W0} {w w' : World} {st : St} {a : Act} {M M' : Mp} {X X' : Nat → Prop} {n n' : Nat} {K : St → Prop} {Q : Exit → Act → World → Prop}

theorem build_run [Glo] {t : TypeId} {zs cs : List V} {parts : Array (Nat × Operand)} (hz : zeroE P t = some zs) (hf : fillV st (plE P t) zs parts.toList = some cs) (hall : allE P t = true) {N : Nat} (hR : RelX base st a w M X N) :
    ∃ arr, (Instr.build t (parts.map fun x => (x.1, a.eval x.2))).run P w = .ok (.agg arr) w ∧ Cs M w X N cs arr.toList := by
  obtain ⟨i, z, hi, hiz, hcs⟩ := zero_Cs (P := P) (M := M) (w := w) (X := X) (n := N) hz
  obtain ⟨arr, h1, h2⟩ := fill_R hR (plE P t) parts.toList zs z.cells cs hf hcs
  refine ⟨arr, ?_, h2⟩
  unfold allE at hall
  split at hall
  · rename_i fs hu
    have hm : (fs.mapM fun f => do pure (f.offset, ← sizeOf f.type) : Sem (Array (Nat × Nat))).run P w = .ok (fs.map fun f => (f.offset, ((P.info? f.type).map (·.size)).getD 0)) w := by
      refine run_mapM _ _ fs fun f hfm => ?_
      have : (P.info? f.type).isSome = true := by rw [Array.all_eq_true'] at hall; exact hall f hfm
      obtain ⟨inf, hinf⟩ := Option.isSome_iff_exists.1 this
      simp [run_sizeOf hinf, hinf]
    have hpl : (fun i => (fs.map fun f => (f.offset, ((P.info? f.type).map (·.size)).getD 0))[i]?) = plE P t := by
      funext i
      simp only [plE, hu, Array.getElem?_map]
      cases hf : fs[i]? with
      | none => rfl
      | some fd =>
        have hmem : fd ∈ fs := Array.mem_of_getElem? hf
        have : (P.info? fd.type).isSome = true := by rw [Array.all_eq_true'] at hall; exact hall fd hmem
        obtain ⟨inf, hinf⟩ := Option.isSome_iff_exists.1 this
        simp [hinf]
    simp only [Instr.build, zeroValue, typeInfo, program, Sem.run_bind, Sem.run, hi, hiz, Sem.run_pure, Result.andThen_ok, run_underlying hu, hm]
    rw [hpl]
    simp [h1]
  · rename_i k e hu
    obtain ⟨inf, hinf⟩ := Option.isSome_iff_exists.1 hall
    have hpl : (fun i => some (i * inf.size, inf.size)) = plE P t := by
      funext i
      simp only [plE, hu, hinf]
    simp only [Instr.build, zeroValue, typeInfo, program, Sem.run_bind, Sem.run, hi, hiz, Sem.run_pure, Result.andThen_ok, run_underlying hu, run_sizeOf hinf]
    rw [hpl]
    simp [h1]
  · simp at hall

theorem rep_flat (zs : List Value) : ∀ len : Nat, (List.range (len * zs.length)).map (fun i => zs.getD (i % zs.length) undef) = (List.replicate len zs).flatten
  | 0 => by simp
  | len + 1 => by
    rw [List.replicate_succ, List.flatten_cons, ← rep_flat zs len, Nat.add_mul, Nat.one_mul, Nat.add_comm, List.range_add, List.map_append, List.map_map]
    congr 1
    · apply List.ext_getElem?
      intro j
      by_cases hj : j < zs.length
      · simp [hj, Nat.mod_eq_of_lt hj]
      · simp [hj]
    · apply List.map_congr_left
      intro i _
      simp

theorem Cs.app {cs ds : List V} {us vs : List Value} (h : Cs M w X n cs us) (h' : Cs M w X n ds vs) : Cs M w X n (cs ++ ds) (us ++ vs) := by
  have := h.len
  refine ⟨by simp [h.len, h'.len], fun u hu => (List.mem_append.1 hu).elim (h.one u) (h'.one u), fun j c hc => ?_⟩
  by_cases hj : j < cs.length
  · rw [List.getElem?_append_left hj] at hc
    rw [List.getD_eq_getElem?_getD, List.getElem?_append_left (by omega), ← List.getD_eq_getElem?_getD]
    exact h.rel j c hc
  · rw [List.getElem?_append_right (by omega)] at hc
    rw [List.getD_eq_getElem?_getD, List.getElem?_append_right (by omega), ← List.getD_eq_getElem?_getD, ← this]
    exact h'.rel _ c hc
theorem Cs.nil : Cs M w X n [] [] := ⟨rfl, by simp, fun j c hc => by simp at hc⟩
theorem Cs.rep [Glo] {cs : List V} {us : List Value} (h : Cs M w X n cs us) : ∀ len : Nat, Cs M w X n (List.replicate len cs).flatten (List.replicate len us).flatten
  | 0 => by simpa using Cs.nil
  | len + 1 => by simp only [List.replicate_succ, List.flatten_cons]; exact h.app (h.rep len)

theorem buildSlice_sound [Glo] {o : Oper} {t : TypeId} {len : Nat} {parts : Array (Nat × Operand)} (ho : o.op = .buildSlice t len parts) {e sz by_ : Nat} (hs : slE P t = some (e, sz, by_)) {zs cs : List V} (hz : zeroE P e = some zs)
    (hf : fillV st (fun i => some (i * sz, sz)) (List.replicate len zs).flatten parts.toList = some cs) (hlim : len * sz ≤ 16777216) (hd : ∀ d, o.dst = some d → d < st.n) (hR : RelM base Xa w0 st a w M)
    (hK : K ({ st with nx := st.nx + 1, ob := (st.nx, some ⟨e, sz, false, false, chunk sz len (cs.map (pur1 st.ob))⟩) :: fzs (ownIds cs) st.ob }.put o.dst (.own st.nx))) : o.wp P a w (Nx base Xa w0 st.n K) Q := by
  obtain ⟨i, z, hu, hi, hiz, hzsz, hisz, hby, hpos⟩ := sl_parts hs
  obtain ⟨i', z', hi', hiz', hcs⟩ := zero_Cs (P := P) (M := M) (w := w) (X := Xf base Xa w M st.ob) (n := st.nx) hz
  rw [hi] at hi'
  simp only [Option.some.injEq] at hi'
  subst hi'
  rw [hiz] at hiz'
  simp only [Option.some.injEq] at hiz'
  subst hiz'
  have hzl : z.cells.toList.length = sz := by simpa using hzsz
  have hz0 : (Array.range (len * sz)).map (fun i => z.cells[i % z.cells.size]!) = (List.replicate len z.cells.toList).flatten.toArray := by
    have e1 := rep_flat z.cells.toList len
    rw [← e1, hzl]
    apply Array.ext'
    simp only [Array.toList_map, Array.toList_range]
    apply List.map_congr_left
    intro j hj
    have : j % sz < z.cells.size := by rw [hzsz]; exact Nat.mod_lt _ hpos
    rw [hzsz, List.getD_eq_getElem?_getD, Array.getElem?_toList, Array.getElem?_eq_getElem this, getElem!_pos z.cells (j % sz) this]
    rfl
  obtain ⟨arr, h1, h2⟩ := fill_R hR.rx (fun i => some (i * sz, sz)) parts.toList _ ((List.replicate len z.cells.toList).flatten.toArray) cs hf (by simpa using hcs.rep len)
  have hlen : cs.length = len * sz := by
    have e1 := h2.len
    have : ∀ (ps : List (Nat × Operand)) (l l' : List V), fillV st (fun i => some (i * sz, sz)) l ps = some l' → l'.length = l.length := by
      intro ps
      induction ps with
      | nil => intro l l' h; simp only [fillV, Option.some.injEq] at h; rw [h]
      | cons q ps ih =>
        intro l l' h
        simp only [fillV] at h
        split at h
        · split at h
          · rw [ih _ _ h, spl_length]
          · simp at h
        · simp at h
    rw [this _ _ _ hf]
    have : zs.length = sz := by rw [hcs.len]; exact hzl
    simp [this]
  obtain ⟨c1, c2, c3⟩ := chunk_flat sz len (cs.map (pur1 st.ob)) (by simpa using hlen)
  have hp := Cs.pur hR h2
  have hasz : arr.size = len * sz := by rw [← hlen, h2.len]; simp
  have hle : len ≤ len * sz := Nat.le_mul_of_pos_right _ hpos
  obtain ⟨M', hM, hn, hR'⟩ := (hR.fz (ownIds cs)).alloc ⟨e, sz, false, false, chunk sz len (cs.map (pur1 st.ob))⟩ arr len (fun _ => hpos) c2 (by rw [c3]; exact Nat.le_refl _) (by simp only [maxLen]; omega) hasz (fun u hu => h2.one u (by simpa using hu)) (fun j u hu => by
    simp only at hu
    rw [c1] at hu
    have := hp.rel j u hu
    simpa [Array.getD_eq_getD_getElem?, List.getD_eq_getElem?_getD] using this)
  simp only [c3] at hn
  refine wp_of_run (u := .slice (some ⟨w.heap.size, 0, none⟩) len len) (w' := w.alloc (.cells arr e)) ?_ (Nx.of hK (hR'.put hd (.own _ _ _ _ _ (by simp) hn)) rfl)
  have hfill : Instr.fill (fun i => some (i * sz, sz)) ((List.replicate len z.cells.toList).flatten.toArray) (parts.map fun x => (x.1, a.eval x.2)).toList = some arr := by simpa using h1
  have hcond : ¬ (len * sz > 2 ^ 24) := by omega
  unfold execOp
  simp only [ho, Instr.buildSlice, Sem.run_bind, run_underlying hu, Result.andThen_ok, run_sizeOf hi, hisz, if_neg hcond, Sem.run_pure]
  by_cases h0 : len * sz = 0
  · have hl0 : len = 0 := by
      rcases Nat.mul_eq_zero.1 h0 with h | h
      · exact h
      · omega
    subst hl0
    simp only [List.replicate_zero, List.flatten_nil] at hfill
    have hr0 : Array.range (0 * sz) = #[] := by simp
    rw [if_pos h0, hr0]
    simp only [Array.map_empty]
    rw [hfill]
    simp [newRow, newObj, Sem.run]
  · rw [if_neg h0]
    simp only [zeroValue, typeInfo, program, Sem.run_bind, Sem.run, hi, hiz, Sem.run_pure, Result.andThen_ok]
    rw [hz0, hfill]
    simp [newRow, newObj, Sem.run]
end
end Go.Ab
