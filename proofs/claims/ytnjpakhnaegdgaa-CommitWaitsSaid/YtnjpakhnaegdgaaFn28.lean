/- A slice of the call's own that nobody writes any more; law 25, the plain part: outputs in calls. -/
import Derived.Test.YtnjpakhnaegdgaaFn27
namespace Go.Ab
open Go.RowKit
theorem awp_ownSl {P : Program} {c : Code} {Q : Exit → St → Prop} {st : St} (t id : Nat) {o : Ob} (ht : lkT st.tmp t = .own id) (ho : lookO st.ob id = some o) (hb : o.box = false)
    (h : awp P c Q { st with tmp := (t, .sl o.sz false o.xs) :: st.tmp, ob := fzs [id] st.ob }) : awp P c Q st := fun base Xa w0 a w ⟨M, hM⟩ => by
  have hv := hM.tmps t
  rw [ht] at hv
  have hone : (a.tmps.getD t undef).oneCell' = true := by
    generalize a.tmps.getD t undef = u at hv ⊢
    cases hv with
    | own _ _ A l c hid hv => rfl
  have hC : Cs M w (Xf base Xa w M st.ob) st.nx [.own id] [a.tmps.getD t undef] := ⟨rfl, fun u hu => by rw [List.mem_singleton.1 hu]; exact hone, fun j c hc => by
    match j, hc with
    | 0, hc => simp only [List.getElem?_cons_zero, Option.some.injEq] at hc; subst hc; exact hv
    | j + 1, hc => simp at hc⟩
  have hp := (Cs.pur hM hC).rel 0 (pur1 st.ob (.own id)) rfl
  have he : pur1 st.ob (.own id) = .sl o.sz false o.xs := by simp only [pur1, ho, hb, cond_false]
  rw [he] at hp
  have hF := hM.fz [id]
  refine h base Xa w0 a w ⟨M, hF.below, hF.hbase, hF.xa, hF.defers, hF.size, fun t' => ?_, hF.obs, hF.dist⟩
  simp only [lkT]
  split
  · rename_i e; subst e
    exact hp.mono (Nat.zero_le _) (fun _ h => absurd h (by omega)) (fun _ h => h) (fun _ _ => rfl)
  · exact hF.tmps t'
/-- What lies behind is walked once. -/
theorem join_of {P : Program} {y : Code} {Q : Exit → St → Prop} {K : St → Prop} {G : Prop} {α : Type} (f : α → St) (pre : α → Prop) (hK : ∀ s, awp P y Q s → K s) (h1 : ∀ x, pre x → awp P y Q (f x))
    (h2 : (∀ (x : α) (s : St) (ρ : Nat → Nat), pre x → Le ρ s (f x) → K s) → G) : G := h2 fun x s _ hp hle => hK s (awp_le hle (h1 x hp))
end Go.Ab
namespace Go.Proofs.Ytnjpakhnaegdgaa
open Go.Ab
set_option linter.unusedSimpArgs false
theorem srt_take : ∀ (l : List OutD) {a : Int} (n : Nat), srt a l → srt a (l.take n)
  | [], _, n, _ => by simp [srt]
  | _ :: _, _, 0, _ => trivial
  | _ :: l, _, n + 1, h => ⟨h.1, srt_take l n h.2⟩
theorem srt_drop : ∀ (l : List OutD) {a : Int} (n : Nat), srt a l → srt a (l.drop n)
  | [], _, n, _ => by simp [srt]
  | _ :: _, _, 0, h => h
  | _ :: l, _, n + 1, h => srt_mono (srt_drop l n h.2) h.1
theorem srt_from {l : List OutD} {a : Int} (h : srt a l) (n : Nat) (hn : n < l.length) : ∀ o ∈ l.drop n, l[n].at_ ≤ o.at_ := fun o ho => by
  have := srt_drop l n h
  rw [List.drop_eq_getElem_cons hn] at this ho
  rcases List.mem_cons.1 ho with rfl | ho
  · omega
  · exact srt_ge this.2 o ho
theorem gatedL_split {M k : Int} (hk : M ≤ k) : ∀ {l : List OutD} {a : Int}, srt a l → gatedL M l ++ (holdK M l).filter (fun o => decide (o.at_ < k)) = gatedL k l
  | [], _, _ => rfl
  | x :: l, a, h => by
    by_cases hx : x.at_ < M
    · have ih := gatedL_split hk h.2
      have h1 : x.at_ < k := by omega
      have h2 : ¬ M ≤ x.at_ := by omega
      unfold gatedL holdK at ih ⊢
      rw [List.filter_cons, List.filter_cons, List.filter_cons]
      simp only [hx, h1, h2, decide_true, decide_false, Bool.true_and, Bool.and_false, Bool.false_eq_true, if_false]
      rw [← ih]
      split <;> simp
    · have hge : ∀ o ∈ x :: l, M ≤ o.at_ := fun o ho => by
        rcases List.mem_cons.1 ho with rfl | ho
        · omega
        · have := srt_ge h.2 o ho; omega
      have e1 : gatedL M (x :: l) = [] := by
        unfold gatedL; rw [List.filter_eq_nil_iff]; intro o ho; have := hge o ho; simp; omega
      rw [e1, List.nil_append]
      unfold holdK gatedL
      rw [List.filter_filter]
      apply List.filter_congr
      intro o ho
      have : decide (M ≤ o.at_) = true := by simpa using hge o ho
      rw [this, Bool.and_true]
theorem gatedL_more {M : Int} {l m : List OutD} (h : ∀ o ∈ m, M ≤ o.at_) : gatedL M (l ++ m) = gatedL M l := by
  unfold gatedL
  rw [List.filter_append]
  have : m.filter (fun o => decide (o.at_ < M) && gkind o) = [] := by
    rw [List.filter_eq_nil_iff]; intro o ho; have := h o ho; simp; intro _; omega
  rw [this, List.append_nil]
theorem holdK_later {M k : Int} (hk : M ≤ k) (l : List OutD) : (holdK M l).filter (fun o => decide (k ≤ o.at_)) = holdK k l := by
  unfold holdK
  rw [List.filter_filter]
  apply List.filter_congr
  intro o _
  by_cases h : k ≤ o.at_
  · have : M ≤ o.at_ := by omega
    simp [h, this]
  · simp [h]
theorem holdK_valid (M : Int) {l : List OutD} {a : Int} (h : srt a l) (hf : ∀ o ∈ l, gkind o = true → fitsB o = true) : srt M (holdK M l) ∧ validB M (holdK M l) = true := by
  have hk : ∀ o ∈ holdK M l, o ∈ l ∧ gkind o = true ∧ M ≤ o.at_ := fun o ho => by
    unfold holdK at ho
    rw [List.mem_filter] at ho
    simp only [Bool.and_eq_true, decide_eq_true_eq] at ho
    exact ho
  have hs : srt M (holdK M l) := srt_of (srt_filter _ h) fun o ho => (hk o ho).2.2
  exact ⟨hs, validB_of hs fun o ho => hf o (hk o ho).1 (hk o ho).2.1⟩
theorem relL_map : ∀ (l : List OutD) (b : Int), (relL b l).map (·.1) = l
  | [], _ => rfl
  | x :: l, b => by simp only [relL, List.map_cons, relL_map]
/-- more outputs are held -/
theorem holdW_ok (O : List OutD) (hs : srt 1 O) (hf : ∀ o ∈ O, gkind o = true → fitsB o = true) (hl : O.length ≤ 100) (M B : Int) (p t : Nat) (hpt : p ≤ t) :
    Meets Try.prog 48 [gateV (holdK M (O.take p)) M B, .sl 4 false (outs ((O.take t).drop p))] (.tup [gateV (holdK M (O.take t)) M (holdC M B ((O.take t).drop p)), .bool true]) := by
  have hle := holdK_le M (O.take p)
  have h := hold_ok (holdK M (O.take p)) ((O.take t).drop p) M B (by simp at hle; omega) (by simp; omega)
  have e1 : O.take p ++ (O.take t).drop p = O.take t := by
    have : O.take p = (O.take t).take p := by rw [List.take_take, Nat.min_eq_left hpt]
    rw [this, List.take_append_drop]
  have e : holdK M (O.take p) ++ holdK M ((O.take t).drop p) = holdK M (O.take t) := by
    unfold holdK
    rw [← List.filter_append, e1]
  have hB : holdB M (holdK M (O.take p)) ((O.take t).drop p) = true := by
    unfold holdB
    rw [e, (holdK_valid M (srt_take O p hs) (fun o ho => hf o (List.mem_of_mem_take ho))).2, (holdK_valid M (srt_take O t hs) (fun o ho => hf o (List.mem_of_mem_take ho))).2]; rfl
  rw [hold_eq hB, e] at h
  exact h
/-- and released -/
theorem relW_ok (O : List OutD) (hs : srt 1 O) (hf : ∀ o ∈ O, gkind o = true → fitsB o = true) (hl : O.length ≤ 100) (M B k : Int) (t : Nat) (g : List OutD) (hg : g = gatedL M (O.take t)) :
    ∃ (B' : Int) (R' : List (OutD × Int)), Meets Try.prog 50 [gateV (holdK M (O.take t)) M B, .int .u64 k] (.tup [gateV (holdK (max M k) (O.take t)) (max M k) B', .sl 5 false (rels R')]) ∧ g ++ R'.map (·.1) = gatedL (max M k) (O.take t) ∧ R'.length ≤ 100 := by
  have hle := holdK_le M (O.take t)
  obtain ⟨h1, h2⟩ := holdK_valid M (srt_take O t hs) (fun o ho => hf o (List.mem_of_mem_take ho))
  have h := release_ok (holdK M (O.take t)) M B k (by simp at hle; omega)
  by_cases hk : M < k
  · obtain ⟨e1, e2⟩ := early_srt k h1
    rw [rel_eq (by simp [relB, h2, hk]), e2, e1, holdK_later (by omega)] at h
    rw [Int.max_eq_right (by omega)]
    refine ⟨_, _, h, ?_, ?_⟩
    · rw [relL_map, hg, gatedL_split (by omega) (srt_take O t hs)]
    · rw [relL_len]
      have := List.length_filter_le (fun o : OutD => decide (o.at_ < k)) (holdK M (O.take t))
      simp at hle; omega
  · rw [rel_eq0 (by simp [relB, h2]; omega)] at h
    rw [Int.max_eq_left (by omega)]
    exact ⟨_, _, h, by simpa using hg, by simp⟩
end Go.Proofs.Ytnjpakhnaegdgaa
