/- The document's assembler: a line. (Numbers of seat r2.D.) -/
import Derived.Test.YtjlbpkokdlggiaaDoorRefF
namespace Go.Proofs.YtjlbpkokdlggiaaDoor
open Go.Ab Go.RowKit
set_option linter.unusedSimpArgs false
set_option maxRecDepth 100000
structure StD where
  what : Str
  op : Int
  l : List ArgD
  line : Int
  at' : Int
  size : Int
abbrev StD.row (s : StD) : List V := [.str s.what, .int .i64 s.op, .sl 3 false (argsV s.l), .int .i64 s.line, .int .i64 s.at', .int .i64 s.size]
abbrev zst : V := .st [.str [], .int .i64 0, .sl 0 true [], .int .i64 0, .int .i64 0, .int .i64 0]
theorem toksV_cons (t : Tok) (l : List Tok) : toksV (t :: l) = [.int .i64 t.1, .str t.2.1, .bool t.2.2] :: toksV l := rfl
def labR : List Tok → Option (Str × List Tok)
  | t :: u :: r => if u.2.1 = [58] then (if t.1 = 1 ∧ nameD t.2.1 = true then some (t.2.1, r) else none) else some ([], t :: u :: r)
  | l => some ([], l)
def dotR : List Tok → Str × List Tok
  | t :: u :: r => if t.2.1 = [46] ∧ u.2.2 = false then (46 :: u.2.1, r) else (t.2.1, u :: r)
  | [t] => (t.2.1, [])
  | [] => ([], [])
theorem mat_n {l : List Tok} {a : List ArgD} (h : matF l [110] = some a) : ∃ x, a = [x] := by
  match l, h with
  | [], h => simp [matF] at h
  | [t], h =>
    rw [matF, if_neg (by decide), if_pos (.inl rfl), if_neg (fun e => absurd e.1 (by decide))] at h
    split at h
    · simp only [matF, Option.map_some, Option.some.injEq] at h; exact ⟨_, h.symm⟩
    · simp at h
  | t :: u :: r, h => rw [matF_len _ _ (by simp)] at h; simp at h
theorem labR_sub : ∀ {l : List Tok} {lb : Str} {r : List Tok}, labR l = some (lb, r) → r.length ≤ l.length ∧ ∀ t ∈ r, t ∈ l
  | [], lb, r, h => by simp only [labR, Option.some.injEq, Prod.mk.injEq] at h; obtain ⟨_, rfl⟩ := h; simp
  | [t], lb, r, h => by simp only [labR, Option.some.injEq, Prod.mk.injEq] at h; obtain ⟨_, rfl⟩ := h; simp
  | t :: u :: r', lb, r, h => by
    simp only [labR] at h
    split at h
    · split at h
      · simp only [Option.some.injEq, Prod.mk.injEq] at h; obtain ⟨_, rfl⟩ := h; exact ⟨by simp; omega, fun t q => by simp [q]⟩
      · simp at h
    · simp only [Option.some.injEq, Prod.mk.injEq] at h; obtain ⟨_, rfl⟩ := h; exact ⟨Nat.le_refl _, fun t q => q⟩
theorem dotR_sub : ∀ {l : List Tok} {w : Str} {r : List Tok}, dotR l = (w, r) → r.length ≤ l.length ∧ ∀ t ∈ r, t ∈ l
  | [], w, r, h => by simp only [dotR, Prod.mk.injEq] at h; obtain ⟨_, rfl⟩ := h; simp
  | [t], w, r, h => by simp only [dotR, Prod.mk.injEq] at h; obtain ⟨_, rfl⟩ := h; simp
  | t :: u :: r', w, r, h => by
    simp only [dotR] at h
    split at h
    · simp only [Prod.mk.injEq] at h; obtain ⟨_, rfl⟩ := h; exact ⟨by simp; omega, fun t q => by simp [q]⟩
    · simp only [Prod.mk.injEq] at h; obtain ⟨_, rfl⟩ := h; exact ⟨by simp, fun t q => List.mem_cons_of_mem _ q⟩
def gapR : List Tok → Bool
  | [] => true
  | t :: _ => t.2.2
def finR (w : Str) (a : List ArgD) : Option StD :=
  if w = [108, 105] then some ⟨w, opD w, a, 0, 0, 2⟩
  else if w = [46, 115, 112, 97, 99, 101] then (if (a.getD 0 (0, 0, [])).2.1 < 0 ∨ 1024 < (a.getD 0 (0, 0, [])).2.1 then none else some ⟨w, opD w, a, 0, 0, (a.getD 0 (0, 0, [])).2.1⟩)
  else some ⟨w, opD w, a, 0, 0, 1⟩
def bodR (w : Str) (r : List Tok) : Option StD := match patR w with
  | none => none
  | some p => if gapR r = true then (match matF r p with
    | none => none
    | some a => finR w a) else none
def parR (s : Str) : Option (Str × Option StD) := match tokR true (befD s 59) with
  | none => none
  | some l => match labR l with
    | none => none
    | some (lb, r) => if r = [] then some (lb, none) else (bodR (dotR r).1 (dotR r).2).map fun st => (lb, some st)
def parV (s : Str) : V := match parR s with
  | none => .tup [.str [], zst, .bool false]
  | some (lb, none) => .tup [.str lb, zst, .bool true]
  | some (lb, some st) => .tup [.str lb, .st st.row, .bool true]
theorem tok_len : ∀ (n : Nat) (g : Bool) (s : Str) (l : List Tok), s.length ≤ n → tokR g s = some l → l.length ≤ s.length ∧ ∀ t ∈ l, t.2.1.length ≤ s.length
  | _, g, [], l, _, h => by rw [tok_nil] at h; simp only [Option.some.injEq] at h; subst h; simp
  | 0, _, _ :: _, _, hn, _ => by simp at hn
  | n + 1, g, c :: s, l, hn, h => by
    have hn' : s.length ≤ n := by simpa using hn
    have hd : (s.dropWhile wordC).length ≤ s.length := (List.dropWhile_suffix wordC).length_le
    have ht : (s.takeWhile wordC).length ≤ s.length := (List.takeWhile_prefix wordC).length_le
    rw [tok_cons] at h
    split at h
    · obtain ⟨h1, h2⟩ := tok_len n _ _ _ hn' h
      exact ⟨by simp; omega, fun t q => by have := h2 t q; simp; omega⟩
    · split at h
      · obtain ⟨l', e, rfl⟩ := Option.map_eq_some_iff.1 h
        obtain ⟨h1, h2⟩ := tok_len n _ _ _ (by omega) e
        refine ⟨by simp; omega, fun t q => ?_⟩
        rcases List.mem_cons.1 q with rfl | q
        · simp; omega
        · have := h2 t q; simp; omega
      · split at h
        · obtain ⟨l', e, rfl⟩ := Option.map_eq_some_iff.1 h
          obtain ⟨h1, h2⟩ := tok_len n _ _ _ (by omega) e
          refine ⟨by simp; omega, fun t q => ?_⟩
          rcases List.mem_cons.1 q with rfl | q
          · simp; omega
          · have := h2 t q; simp; omega
        · split at h
          · obtain ⟨l', e, rfl⟩ := Option.map_eq_some_iff.1 h
            obtain ⟨h1, h2⟩ := tok_len n _ _ _ hn' e
            refine ⟨by simp; omega, fun t q => ?_⟩
            rcases List.mem_cons.1 q with rfl | q
            · simp
            · have := h2 t q; simp; omega
          · simp at h
theorem bef_cut {x : Str} {i : Nat} (hi : i < x.length) (h : ∀ k, k < i → x.getD k 0 ≠ 59) (hc : x.getD i 0 = 59) : befD x 59 = x.take i := by
  unfold befD
  induction x generalizing i with
  | nil => simp at hi
  | cons b x ih =>
    cases i with
    | zero => simp at hc; simp [hc]
    | succ i =>
      have h0 := h 0 (by omega)
      simp at h0
      have := ih (i := i) (by simpa using hi) (fun k hk => by have := h (k + 1) (by omega); simpa using this) (by simpa using hc)
      simp [h0, this]
theorem bef_all {x : Str} (h : ∀ k, k < x.length → x.getD k 0 ≠ 59) : befD x 59 = x := by
  unfold befD
  induction x with
  | nil => rfl
  | cons b x ih =>
    have h0 := h 0 (by simp)
    simp at h0
    have := ih fun k hk => by have := h (k + 1) (by simpa using hk); simpa using this
    simp [h0, this]
set_option maxHeartbeats 32000000 in
theorem parsed_ok (s : Str) (hsl : s.length ≤ 1000000) : Meets Tryd.prog 83 [.str s] (parV s) := by
  refine Meets.of Tryd.func83 rfl (by kernel_rfl) rfl ?_
  simp only [Tryd.ntmps83, St.start, argT]
  refine au  ?_
  repeat intro K hK
  refine wr ?_
  obtain ⟨I, hI⟩ : ∃ I : Nat → St → Prop, I = (fun kk ss => ∃ (i : Nat) (x : Str), i ≤ s.length ∧ kk = s.length - i ∧ (befD x 59 = befD s 59 ∧ x.length ≤ s.length ∧ (∀ k, k < i → k < x.length → x.getD k 0 ≠ 59)) ∧ ss = ⟨154, [(5, .int .i64 i), (3, .ptr 0 6 0 0), (0, .str x)], 1, [(0, some ⟨123, 6, true, false, [[.str [], .int .i64 0, .sl 0 true [], .int .i64 0, .int .i64 0, .int .i64 0]]⟩)], 0⟩) := ⟨_, rfl⟩
  refine awp_loopA I (k0 := s.length) (st0 := (fun (i : Nat) (x : Str) => (⟨154, [(5, .int .i64 i), (3, .ptr 0 6 0 0), (0, .str x)], 1, [(0, some ⟨123, 6, true, false, [[.str [], .int .i64 0, .sl 0 true [], .int .i64 0, .int .i64 0, .int .i64 0]]⟩)], 0⟩ : St)) 0 s) (ρ0 := id) ⟨rfl, by simp [leT, ltV, lt1, ren, ren1], by simp [leO, lt1, ren1], by simp, by simp⟩ (by rw [hI]; exact ⟨0, s, by simp, by simp, ⟨rfl, Nat.le_refl _, fun k hk => by omega⟩, rfl⟩) ?_
  intro kk ss hIk _
  rw [hI] at hIk
  obtain ⟨i, x, hi, rfl, hx, rfl⟩ := hIk
  obtain ⟨hb, hxl, hno⟩ := hx
  have hw : IntKind.i64.wrap ((i : Int) + 1) = (i : Int) + 1 := wrap_i64_in (by omega) (by omega)
  by_cases hi' : i < x.length
  · obtain ⟨c, hc⟩ : ∃ c, c = x.getD i 0 := ⟨_, rfl⟩
    have hcc : x[i]?.getD 0 = c := by rw [hc, List.getD_eq_getElem?_getD]
    refine au  ?_
    repeat intro K hK
    refine wr ?_
    refine awp_cond rfl (fun _ => ?_) (fun h => by simp [hi'] at h)
    refine au1 @hcc ?_
    repeat intro K hK
    refine wr ?_
    by_cases h59 : c = 59
    · have h59' : (c.toNat : Int) = 59 := by rw [h59]; rfl
      have hbc : befD x 59 = x.take i := bef_cut hi' (fun k hk => hno k hk (by omega)) (by rw [← hc, h59])
      have hnt : ∀ k, k < (x.take i).length → (x.take i).getD k 0 ≠ 59 := fun k hk => by
        have hk' : k < i := by simp at hk; omega
        have := hno k hk' (by omega)
        rwa [List.getD_eq_getElem?_getD, List.getElem?_take_of_lt hk', ← List.getD_eq_getElem?_getD]
      refine awp_cond rfl (fun _ => ?_) (fun h => by simp [h59'] at h)
      refine au1 @hw ?_
      repeat intro K hK
      refine wr ?_
      refine again_of (s.length - (i + 1)) ((fun (i : Nat) (x : Str) => (⟨154, [(5, .int .i64 i), (3, .ptr 0 6 0 0), (0, .str x)], 1, [(0, some ⟨123, 6, true, false, [[.str [], .int .i64 0, .sl 0 true [], .int .i64 0, .int .i64 0, .int .i64 0]]⟩)], 0⟩ : St)) (i + 1) (x.take i)) (id) (by omega) (by rw [hI]; exact ⟨i + 1, (x.take i), by omega, rfl, ⟨by rw [bef_all hnt, ← hbc, hb], by simp; omega, fun k _ hk => hnt k hk⟩, rfl⟩) ⟨rfl, ?_, ?_, ?_, by simp⟩
      · simp [leT, ltV, lt1, ren, ren1, wrap_i64_in (n := (i : Int) + 1) (by omega) (by omega), hw]
      · simp [leO, lt1, ren1, hw]
      · (simp; try omega)
    · have h59' : ¬ (c.toNat : Int) = 59 := fun e => h59 (UInt8.toNat_inj.1 (by simp; omega))
      refine awp_cond rfl (fun h => by simp [h59'] at h) (fun _ => ?_)
      refine au1 @hw ?_
      repeat intro K hK
      refine wr ?_
      have hnn : ∀ k, k < i + 1 → k < x.length → x.getD k 0 ≠ 59 := fun k hk hk' => by
        by_cases e : k = i
        · subst e; rw [← hc]; exact h59
        · exact hno k (by omega) hk'
      refine again_of (s.length - (i + 1)) ((fun (i : Nat) (x : Str) => (⟨154, [(5, .int .i64 i), (3, .ptr 0 6 0 0), (0, .str x)], 1, [(0, some ⟨123, 6, true, false, [[.str [], .int .i64 0, .sl 0 true [], .int .i64 0, .int .i64 0, .int .i64 0]]⟩)], 0⟩ : St)) (i + 1) x) (id) (by omega) (by rw [hI]; exact ⟨i + 1, x, by omega, rfl, ⟨hb, hxl, hnn⟩, rfl⟩) ⟨rfl, ?_, ?_, ?_, by simp⟩
      · simp [leT, ltV, lt1, ren, ren1, wrap_i64_in (n := (i : Int) + 1) (by omega) (by omega), hw]
      · simp [leO, lt1, ren1, hw]
      · (simp; try omega)
  · have hbx : befD s 59 = x := by rw [← hb]; exact bef_all fun k hk => hno k (by omega) hk
    refine au  ?_
    repeat intro K hK
    refine wr ?_
    refine awp_cond rfl (fun h => by simp [hi'] at h) (fun _ => ?_)
    refine au  ?_
    repeat intro K hK
    refine wr ?_
    have htk := tokens_ok x (by omega)
    unfold tokensV at htk
    cases ht : tokR true x with
    | none =>
      rw [ht] at htk
      have hv : parV s = .tup [.str [], zst, .bool false] := by unfold parV parR; rw [hbx, ht]
      refine ca (htk)  ?_
      refine au  ?_
      repeat intro K hK
      refine wr ?_
      refine awp_cond rfl (fun _ => ?_) (fun h => by simp at h)
      refine au  ?_
      repeat intro K hK
      refine wr ?_
      refine awp_fzA ?_
      refine awp_ret ?_
      simp [hv]
    | some l =>
      rw [ht] at htk
      obtain ⟨hl1, hl2⟩ := tok_len _ _ _ _ (Nat.le_refl _) ht
      refine ca (htk)  ?_
      refine au  ?_
      repeat intro K hK
      refine wr ?_
      refine awp_cond rfl (fun h => by simp at h) (fun _ => ?_)
      have hp0 : parR s = match labR l with
          | none => none
          | some (lb, r) => if r = [] then some (lb, none) else (bodR (dotR r).1 (dotR r).2).map fun st => (lb, some st) := by unfold parR; rw [hbx, ht]
      iterate 6 (first | (with_reducible first | refine awp_seqK fun K hK => ?_ | refine awp_block ?_) | ((with_reducible first | refine awp_region (by kernel_rfl) ?_ | refine gcall_tt ?_ | refine gcall_ff ?_ | refine gcall_tf ?_ | refine gcall_ft ?_ | refine awp_skip ?_ | refine awp_exit ?_); simp) | ((repeat ((fail_if_success ((with_reducible refine hK _ ?_))); clear hK)); (with_reducible refine hK _ ?_); clear hK) | refine And.intro (by first | omega | assumption | grind) ?_)
      refine join_of (α := Str × List Tok) (fun ⟨lb, r⟩ => (⟨154, [(8, .str lb), (6, .sl 3 false (toksV r)), (3, .ptr 0 6 0 0)], 1, [(0, some ⟨123, 6, true, false, [[.str [], .int .i64 0, .sl 0 true [], .int .i64 0, .int .i64 0, .int .i64 0]]⟩)], 0⟩ : St)) (fun ⟨lb, r⟩ => labR l = some (lb, r)) hK (fun ⟨lb, r⟩ hxhA => ?_) (fun hA => ?_)
      all_goals clear hK
      · have hrl := labR_sub hxhA
        rw [hxhA] at hp0
        cases r with
        | nil =>
          have hv : parV s = .tup [.str lb, zst, .bool true] := by unfold parV; rw [hp0]; simp
          refine au  ?_
          repeat intro K hK
          refine wr ?_
          refine awp_cond rfl (fun _ => ?_) (fun h => by simp at h)
          refine au  ?_
          repeat intro K hK
          refine wr ?_
          refine awp_fzA ?_
          refine awp_ret ?_
          simp [hv]
        | cons t r =>
          have hp1 : parR s = (bodR (dotR (t :: r)).1 (dotR (t :: r)).2).map fun st => (lb, some st) := by rw [hp0]; simp
          have hne : ¬ ((toksV r).length : Int) + 1 = 0 := by omega
          refine au1 @toksV_cons ?_
          repeat intro K hK
          refine wr ?_
          refine awp_cond rfl (fun h => by simp [hne] at h) (fun _ => ?_)
          iterate 10 (first | (with_reducible first | refine awp_seqK fun K hK => ?_ | refine awp_block ?_) | ((with_reducible first | refine awp_region (by kernel_rfl) ?_ | refine gcall_tt ?_ | refine gcall_ff ?_ | refine gcall_tf ?_ | refine gcall_ft ?_ | refine awp_skip ?_ | refine awp_exit ?_); simp) | ((repeat ((fail_if_success ((with_reducible refine hK _ ?_))); clear hK)); (with_reducible refine hK _ ?_); clear hK) | refine And.intro (by first | omega | assumption | grind) ?_)
          refine join_of (α := Str × List Tok) (fun ⟨w, q⟩ => (⟨154, [(9, .str w), (10, .sl 3 false (toksV q)), (8, .str lb), (3, .ptr 0 6 0 0)], 1, [(0, some ⟨123, 6, true, false, [[.str [], .int .i64 0, .sl 0 true [], .int .i64 0, .int .i64 0, .int .i64 0]]⟩)], 0⟩ : St)) (fun ⟨w, q⟩ => dotR (t :: r) = (w, q)) hK (fun ⟨w, q⟩ hxhB => ?_) (fun hB => ?_)
          all_goals clear hK
          · have hsub := dotR_sub hxhB
            rw [hxhB] at hp1
            simp only at hp1
            refine au  ?_
            repeat intro K hK
            refine wr ?_
            refine ca (pattern_ok w)  ?_
            iterate 2 (first | (with_reducible first | refine awp_seqK fun K hK => ?_ | refine awp_block ?_) | ((with_reducible first | refine awp_region (by kernel_rfl) ?_ | refine gcall_tt ?_ | refine gcall_ff ?_ | refine gcall_tf ?_ | refine gcall_ft ?_ | refine awp_skip ?_ | refine awp_exit ?_); simp) | ((repeat ((fail_if_success ((with_reducible refine hK _ ?_))); clear hK)); (with_reducible refine hK _ ?_); clear hK) | refine And.intro (by first | omega | assumption | grind) ?_)
            refine join_of (α := Str) (fun p => (⟨154, [(11, .str p), (9, .str w), (10, .sl 3 false (toksV q)), (8, .str lb), (3, .ptr 0 6 0 0)], 1, [(0, some ⟨123, 6, true, false, [[.str [], .int .i64 0, .sl 0 true [], .int .i64 0, .int .i64 0, .int .i64 0]]⟩)], 0⟩ : St)) (fun p => patR w = some p ∧ gapR q = true) hK (fun p hxhC => ?_) (fun hC => ?_)
            all_goals clear hK
            · have hp2 : parR s = (match matF q p with
                  | none => none
                  | some a => finR w a).map fun st => (lb, some st) := by rw [hp1]; simp only [bodR, hxhC.1, hxhC.2, if_true]
              have hmt := matched_ok q p (by omega) fun t ht => Nat.le_trans (hl2 t (hrl.2 t (hsub.2 t ht))) (by omega)
              unfold matV at hmt
              refine au  ?_
              repeat intro K hK
              refine wr ?_
              cases hm : matF q p with
              | none =>
                rw [hm] at hmt hp2
                have hv : parV s = .tup [.str [], zst, .bool false] := by unfold parV; rw [hp2]; rfl
                refine ca (hmt)  ?_
                refine au  ?_
                repeat intro K hK
                refine wr ?_
                refine awp_cond rfl (fun _ => ?_) (fun h => by simp at h)
                refine au  ?_
                repeat intro K hK
                refine wr ?_
                refine awp_fzA ?_
                refine awp_ret ?_
                simp [hv]
              | some a =>
                rw [hm] at hmt hp2
                simp only at hp2
                refine ca (hmt)  ?_
                refine au  ?_
                repeat intro K hK
                refine wr ?_
                refine awp_cond rfl (fun h => by simp at h) (fun _ => ?_)
                refine au  ?_
                repeat intro K hK
                refine wr ?_
                refine ca (operation_ok w)  ?_
                refine au  ?_
                repeat intro K hK
                refine wr ?_
                by_cases h1 : w = [108, 105]
                · have hv : parV s = .tup [.str lb, .st (⟨w, opD w, a, 0, 0, 2⟩ : StD).row, .bool true] := by unfold parV; rw [hp2, finR, if_pos h1]; rfl
                  refine awp_cond rfl (fun _ => ?_) (fun h => by simp [h1] at h)
                  refine au  ?_
                  repeat intro K hK
                  refine wr ?_
                  refine awp_planI ([0, 1, 2, 3, 4] : List Nat) ([[], [], [0], [0, 1, 2], [0, 1, 2, 3]] : List (List Nat)) ([(3, ([[], [], [0]], [])), (1, ([], [])), (1, ([], []))] : List (Nat × List (List Nat) × List (Nat × Nat))) (by kernel_rfl) (by kernel_rfl) (by kernel_rfl) ?_
                  refine af  ?_
                  repeat intro K hK
                  refine wr ?_
                  refine awp_fzA ?_
                  refine awp_ret ?_
                  simp [hv]
                · have h1' : ¬ (w == [108, 105]) = true := by simpa using h1
                  refine awp_cond rfl (fun h => by simp [h1] at h) (fun _ => ?_)
                  refine af  ?_
                  repeat intro K hK
                  refine wr ?_
                  by_cases h2 : w = [46, 115, 112, 97, 99, 101]
                  · have hpn : p = [110] := by have e := hxhC.1; rw [h2, show patR [46, 115, 112, 97, 99, 101] = some [110] from rfl] at e; exact (Option.some.inj e).symm
                    rw [hpn] at hm
                    obtain ⟨⟨x1, x2, x3⟩, rfl⟩ := mat_n hm
                    have hg0 : ([(x1, x2, x3)] : List ArgD).getD 0 (0, 0, []) = (x1, x2, x3) := rfl
                    have hat : argsV [(x1, x2, x3)] = [[.int .i64 x1, .int .i64 x2, .str x3]] := rfl
                    refine awp_cond rfl (fun _ => ?_) (fun h => by simp [h2] at h)
                    refine af1 @hat ?_
                    repeat intro K hK
                    refine wr ?_
                    by_cases h3 : x2 < 0 ∨ 1024 < x2
                    · have hv : parV s = .tup [.str [], zst, .bool false] := by unfold parV; rw [hp2, finR, if_neg h1, if_pos h2, hg0]; simp only [if_pos h3]; rfl
                      refine awp_cond rfl (fun _ => ?_) (fun h => absurd h3 (by simpa using h))
                      refine af  ?_
                      repeat intro K hK
                      refine wr ?_
                      refine awp_fzA ?_
                      refine awp_ret ?_
                      simp [hv]
                    · have hv : parV s = .tup [.str lb, .st (⟨w, opD w, [(x1, x2, x3)], 0, 0, x2⟩ : StD).row, .bool true] := by unfold parV; rw [hp2, finR, if_neg h1, if_pos h2, hg0]; simp only [if_neg h3]; rfl
                      refine awp_cond rfl (fun h => absurd (by simpa using h) h3) (fun _ => ?_)
                      refine af1 @hat ?_
                      repeat intro K hK
                      refine wr ?_
                      refine awp_planI ([0, 1, 2, 3, 4] : List Nat) ([[], [], [0], [0, 1, 2], [0, 1, 2, 3]] : List (List Nat)) ([(3, ([[], [], [0]], [])), (1, ([], [])), (1, ([], []))] : List (Nat × List (List Nat) × List (Nat × Nat))) (by kernel_rfl) (by kernel_rfl) (by kernel_rfl) ?_
                      refine af  ?_
                      repeat intro K hK
                      refine wr ?_
                      refine awp_fzA ?_
                      refine awp_ret ?_
                      simp [hv, hat]
                  · have hv : parV s = .tup [.str lb, .st (⟨w, opD w, a, 0, 0, 1⟩ : StD).row, .bool true] := by unfold parV; rw [hp2, finR, if_neg h1, if_neg h2]; rfl
                    refine awp_cond rfl (fun h => by simp [h2] at h) (fun _ => ?_)
                    refine af  ?_
                    repeat intro K hK
                    refine wr ?_
                    refine awp_planI ([0, 1, 2, 3, 4] : List Nat) ([[], [], [0], [0, 1, 2], [0, 1, 2, 3]] : List (List Nat)) ([(3, ([[], [], [0]], [])), (1, ([], [])), (1, ([], []))] : List (Nat × List (List Nat) × List (Nat × Nat))) (by kernel_rfl) (by kernel_rfl) (by kernel_rfl) ?_
                    refine af  ?_
                    repeat intro K hK
                    refine wr ?_
                    refine awp_fzA ?_
                    refine awp_ret ?_
                    simp [hv]
            cases q with
            | nil =>
              refine af  ?_
              repeat intro K hK
              refine wr ?_
              cases hpt : patR w with
              | none =>
                have hv : parV s = .tup [.str [], zst, .bool false] := by unfold parV; rw [hp1]; simp only [bodR, hpt]; rfl
                refine awp_cond rfl (fun _ => ?_) (fun h => by simp [hpt] at h)
                refine af  ?_
                repeat intro K hK
                refine wr ?_
                refine awp_fzA ?_
                refine awp_ret ?_
                simp [hv]
              | some p =>
                refine awp_cond rfl (fun h => by simp [hpt] at h) (fun _ => ?_)
                refine af  ?_
                repeat intro K hK
                refine wr ?_
                refine hC p _ (id) (⟨hpt, rfl⟩) ⟨rfl, ?_, ?_, ?_, by simp⟩
                · simp [leT, ltV, lt1, ren, ren1, hpt]
                · simp [leO, lt1, ren1, hpt]
                · (simp; try omega)
            | cons u q =>
              have hlt1 : (0 : Int) < ((toksV q).length : Int) + 1 := by omega
              refine af2 @toksV_cons @hlt1 ?_
              repeat intro K hK
              refine wr ?_
              by_cases hpg : (patR w).isSome = true ∧ u.2.2 = true
              · obtain ⟨p, hpt⟩ := Option.isSome_iff_exists.1 hpg.1
                refine awp_cond rfl (fun h => by simp [hpt, hpg.2] at h) (fun _ => ?_)
                refine af  ?_
                repeat intro K hK
                refine wr ?_
                refine hC p _ (id) (⟨hpt, hpg.2⟩) ⟨rfl, ?_, ?_, ?_, by simp⟩
                · simp [leT, ltV, lt1, ren, ren1, hpt, toksV_cons]
                · simp [leO, lt1, ren1, hpt, toksV_cons]
                · (simp; try omega)
              · have hbn : bodR w (u :: q) = none := by
                  unfold bodR
                  cases hpt : patR w with
                  | none => rfl
                  | some p => exact if_neg (fun e => hpg ⟨by rw [hpt]; rfl, e⟩)
                have hv : parV s = .tup [.str [], zst, .bool false] := by unfold parV; rw [hp1, hbn]; rfl
                refine awp_cond rfl (fun _ => ?_) (fun h => absurd (by simpa using h) hpg)
                refine af  ?_
                repeat intro K hK
                refine wr ?_
                refine awp_fzA ?_
                refine awp_ret ?_
                simp [hv]
          cases r with
          | nil =>
            refine af1 @toksV_cons ?_
            repeat intro K hK
            refine wr ?_
            refine awp_cond rfl (fun h => by simp at h) (fun _ => ?_)
            refine af  ?_
            repeat intro K hK
            refine wr ?_
            refine hB ⟨t.2.1, []⟩ _ (id) (rfl) ⟨rfl, ?_, ?_, ?_, by simp⟩
            · simp [leT, ltV, lt1, ren, ren1, toksV_cons]
            · simp [leO, lt1, ren1, toksV_cons]
            · (simp; try omega)
          | cons u r =>
            have hle2 : (2 : Int) ≤ ((toksV r).length : Int) + 1 + 1 := by omega
            have htn : (((toksV r).length : Int) + 1 + 1).toNat = (toksV r).length + 1 + 1 := by omega
            refine af3 @toksV_cons @hle2 @htn ?_
            repeat intro K hK
            refine wr ?_
            by_cases h1 : t.2.1 = [46] ∧ u.2.2 = false
            · have hdr : dotR (t :: u :: r) = (46 :: u.2.1, r) := by simp only [dotR, if_pos h1]
              refine awp_cond rfl (fun _ => ?_) (fun h => by simp [h1] at h)
              refine af2 @toksV_cons @htn ?_
              repeat intro K hK
              refine wr ?_
              refine hB ⟨(46 :: u.2.1), r⟩ _ (id) (hdr) ⟨rfl, ?_, ?_, ?_, by simp⟩
              · simp [leT, ltV, lt1, ren, ren1, toksV_cons, htn]
              · simp [leO, lt1, ren1, toksV_cons, htn]
              · (simp; try omega)
            · have hdr : dotR (t :: u :: r) = (t.2.1, u :: r) := by simp only [dotR, if_neg h1]
              refine awp_cond rfl (fun h => absurd (by simpa using h) h1) (fun _ => ?_)
              refine af  ?_
              repeat intro K hK
              refine wr ?_
              refine hB ⟨t.2.1, (u :: r)⟩ _ (id) (hdr) ⟨rfl, ?_, ?_, ?_, by simp⟩
              · simp [leT, ltV, lt1, ren, ren1, toksV_cons, htn]
              · simp [leO, lt1, ren1, toksV_cons, htn]
              · (simp; try omega)
      cases l with
      | nil =>
        refine af  ?_
        repeat intro K hK
        refine wr ?_
        refine awp_cond rfl (fun h => by simp at h) (fun _ => ?_)
        refine af  ?_
        repeat intro K hK
        refine wr ?_
        refine hA ⟨[], []⟩ _ (id) (rfl) ⟨rfl, ?_, ?_, ?_, by simp⟩
        · simp [leT, ltV, lt1, ren, ren1]
        · simp [leO, lt1, ren1]
        · (simp; try omega)
      | cons t r =>
        cases r with
        | nil =>
          refine af1 @toksV_cons ?_
          repeat intro K hK
          refine wr ?_
          refine awp_cond rfl (fun h => by simp at h) (fun _ => ?_)
          refine af  ?_
          repeat intro K hK
          refine wr ?_
          refine hA ⟨[], [t]⟩ _ (id) (rfl) ⟨rfl, ?_, ?_, ?_, by simp⟩
          · simp [leT, ltV, lt1, ren, ren1, toksV_cons]
          · simp [leO, lt1, ren1, toksV_cons]
          · (simp; try omega)
        | cons u r =>
          have hle2 : (2 : Int) ≤ ((toksV r).length : Int) + 1 + 1 := by omega
          have htn : (((toksV r).length : Int) + 1 + 1).toNat = (toksV r).length + 1 + 1 := by omega
          refine af2 @toksV_cons @hle2 ?_
          repeat intro K hK
          refine wr ?_
          by_cases h1 : u.2.1 = [58]
          · refine awp_cond rfl (fun _ => ?_) (fun h => by simp [h1] at h)
            refine af1 @toksV_cons ?_
            repeat intro K hK
            refine wr ?_
            first | refine gcall_c (name_ok t.2.1) rfl (fun hgd => ?_) (by simp [obsL]) ?_ | refine gcallE_c (name_ok t.2.1) rfl (by simp) (fun hgd => ?_) (by simp [obsL]) ?_
            all_goals simp
            all_goals (try (first | exact hgd | (simp at hgd; first | done | assumption | grind)))
            refine af  ?_
            repeat intro K hK
            refine wr ?_
            by_cases h2 : t.1 = 1 ∧ nameD t.2.1 = true
            · have hlr : labR (t :: u :: r) = some (t.2.1, r) := by simp only [labR, if_pos h1, if_pos h2]
              refine awp_cond rfl (fun h => by simp [h2] at h) (fun _ => ?_)
              refine af1 @hle2 ?_
              repeat intro K hK
              refine wr ?_
              refine hA ⟨t.2.1, r⟩ _ (id) (hlr) ⟨rfl, ?_, ?_, ?_, by simp⟩
              · simp [leT, ltV, lt1, ren, ren1, toksV_cons, htn]
              · simp [leO, lt1, ren1, toksV_cons, htn]
              · (simp; try omega)
            · have hv : parV s = .tup [.str [], zst, .bool false] := by unfold parV; rw [hp0]; simp only [labR, if_pos h1, if_neg h2]
              refine awp_cond rfl (fun _ => ?_) (fun h => absurd (by simpa using h) h2)
              refine af  ?_
              repeat intro K hK
              refine wr ?_
              refine awp_fzA ?_
              refine awp_ret ?_
              simp [hv]
          · have hlr : labR (t :: u :: r) = some ([], t :: u :: r) := by simp only [labR, if_neg h1]
            refine awp_cond rfl (fun h => by simp [h1] at h) (fun _ => ?_)
            refine af  ?_
            repeat intro K hK
            refine wr ?_
            refine hA ⟨[], (t :: u :: r)⟩ _ (id) (hlr) ⟨rfl, ?_, ?_, ?_, by simp⟩
            · simp [leT, ltV, lt1, ren, ren1, toksV_cons]
            · simp [leO, lt1, ren1, toksV_cons]
            · (simp; try omega)
end Go.Proofs.YtjlbpkokdlggiaaDoor
