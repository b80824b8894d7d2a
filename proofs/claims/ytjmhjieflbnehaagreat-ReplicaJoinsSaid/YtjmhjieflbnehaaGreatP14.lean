/- A part of the proof of ReplicaJoins. -/
import Derived.Test.YtjmhjieflbnehaaGreatP13
set_option linter.unusedSimpArgs false
set_option linter.unusedVariables false
set_option maxHeartbeats 16000000
set_option maxRecDepth 100000
section
namespace Go.Proofs.YtjmhjieflbnehaaGreat.As
open Go.Ab Go.RowKit
structure StD where
 what : Str
 op : Int
 l : List ArgD
 line : Int
 at' : Int
 size : Int
abbrev StD.row (s : StD) : List V := [.str s.what, .int .i64 s.op, .sl 3 false (zC4 s.l), .int .i64 s.line, .int .i64 s.at', .int .i64 s.size]
abbrev zst : V := .st [.str [], .int .i64 0, .sl 0 true [], .int .i64 0, .int .i64 0, .int .i64 0]
theorem zAZ (t : Tok) (l : List Tok) : zBb (t :: l) = [.int .i64 t.1, .str t.2.1, .bool t.2.2] :: zBb l := rfl
def labR : List Tok → Option (Str × List Tok)
 | t :: u :: r => if u.2.1 = [58] then (if t.1 = 1 ∧ zMM t.2.1 = true then some (t.2.1, r) else none) else some ([], t :: u :: r)
 | l => some ([], l)
def dotR : List Tok → Str × List Tok
 | t :: u :: r => if t.2.1 = [46] ∧ u.2.2 = false then (46 :: u.2.1, r) else (t.2.1, u :: r)
 | [t] => (t.2.1, [])
 | [] => ([], [])
theorem mat_n {l : List Tok} {a : List ArgD} (h : matF l [110] = some a) : ∃ x, a = [x] := by
 match l, h with
 | [], h => simp [matF] at h
 | [t], h =>
  rw [matF, if_neg (by decide), if_pos (.inl rfl), if_neg (fun e => absurd e.1 (by decide))] at h
  split at h
  ·simp only [matF, Option.map_some, Option.some.injEq] at h; exact ⟨_, h.symm⟩
  ·simp at h
 | t :: u :: r, h => rw [zHD _ _ (by simp)] at h; simp at h
theorem zRL : ∀ {l : List Tok} {lb : Str} {r : List Tok}, labR l = some (lb, r) → r.length ≤ l.length ∧ ∀ t ∈ r, t ∈ l
 | [], lb, r, h => by simp only [labR, Option.some.injEq, Prod.mk.injEq] at h; obtain ⟨_, rfl⟩ := h; simp
 | [t], lb, r, h => by simp only [labR, Option.some.injEq, Prod.mk.injEq] at h; obtain ⟨_, rfl⟩ := h; simp
 | t :: u :: r', lb, r, h => by
  simp only [labR] at h
  split at h
  ·split at h
   ·simp only [Option.some.injEq, Prod.mk.injEq] at h; obtain ⟨_, rfl⟩ := h; exact ⟨by simp; omega, fun t q => by simp [q]⟩
   ·simp at h
  ·simp only [Option.some.injEq, Prod.mk.injEq] at h; obtain ⟨_, rfl⟩ := h; exact ⟨Nat.le_refl _, fun t q => q⟩
theorem zRE : ∀ {l : List Tok} {w : Str} {r : List Tok}, dotR l = (w, r) → r.length ≤ l.length ∧ ∀ t ∈ r, t ∈ l
 | [], w, r, h => by simp only [dotR, Prod.mk.injEq] at h; obtain ⟨_, rfl⟩ := h; simp
 | [t], w, r, h => by simp only [dotR, Prod.mk.injEq] at h; obtain ⟨_, rfl⟩ := h; simp
 | t :: u :: r', w, r, h => by
  simp only [dotR] at h
  split at h
  ·simp only [Prod.mk.injEq] at h; obtain ⟨_, rfl⟩ := h; exact ⟨by simp; omega, fun t q => by simp [q]⟩
  ·simp only [Prod.mk.injEq] at h; obtain ⟨_, rfl⟩ := h; exact ⟨by simp, fun t q => List.mem_cons_of_mem _ q⟩
def gapR : List Tok → Bool
 | [] => true
 | t :: _ => t.2.2
def finR (w : Str) (a : List ArgD) : Option StD :=
 if w = [108, 105] then some ⟨w, opD w, a, 0, 0, 2⟩
 else if w = [46, 115, 112, 97, 99, 101] then (if (a.getD 0 (0, 0, [])).2.1 < 0 ∨ 1024 < (a.getD 0 (0, 0, [])).2.1 then none else some ⟨w, opD w, a, 0, 0, (a.getD 0 (0, 0, [])).2.1⟩)
 else some ⟨w, opD w, a, 0, 0, 1⟩
def bodR (w : Str) (r : List Tok) : Option StD := match patR w with
 | none => none
 | some p => if gapR r = true then (match matF r p with
  | none => none
  | some a => finR w a) else none
def parR (s : Str) : Option (Str × Option StD) := match tokR true (befD s 59) with
 | none => none
 | some l => match labR l with
  | none => none
  | some (lb, r) => if r = [] then some (lb, none) else (bodR (dotR r).1 (dotR r).2).map fun st => (lb, some st)
def parV (s : Str) : V := match parR s with
 | none => .tup [.str [], zst, .bool false]
 | some (lb, none) => .tup [.str lb, zst, .bool true]
 | some (lb, some st) => .tup [.str lb, .st st.row, .bool true]
theorem zFk : ∀ (n : Nat) (g : Bool) (s : Str) (l : List Tok), s.length ≤ n → tokR g s = some l → l.length ≤ s.length ∧ ∀ t ∈ l, t.2.1.length ≤ s.length
 | _, g, [], l, _, h => by rw [zOY] at h; simp only [Option.some.injEq] at h; subst h; simp
 | 0, _, _ :: _, _, hn, _ => by simp at hn
 | n + 1, g, c :: s, l, hn, h => by
  have hn' : s.length ≤ n := by simpa using hn
  have hd : (s.dropWhile zBn).length ≤ s.length := (List.dropWhile_suffix zBn).length_le
  have ht : (s.takeWhile zBn).length ≤ s.length := (List.takeWhile_prefix zBn).length_le
  rw [zKg] at h
  split at h
  ·obtain ⟨h1, h2⟩ := zFk n _ _ _ hn' h
   exact ⟨by simp; omega, fun t q => by have := h2 t q; simp; omega⟩
  ·split at h
   ·obtain ⟨l', e, rfl⟩ := Option.map_eq_some_iff.1 h
    obtain ⟨h1, h2⟩ := zFk n _ _ _ (by omega) e
    refine ⟨by simp; omega, fun t q => ?_⟩
    rcases List.mem_cons.1 q with rfl | q
    ·simp; omega
    ·have := h2 t q; simp; omega
   ·split at h
    ·obtain ⟨l', e, rfl⟩ := Option.map_eq_some_iff.1 h
     obtain ⟨h1, h2⟩ := zFk n _ _ _ (by omega) e
     refine ⟨by simp; omega, fun t q => ?_⟩
     rcases List.mem_cons.1 q with rfl | q
     ·simp; omega
     ·have := h2 t q; simp; omega
    ·split at h
     ·obtain ⟨l', e, rfl⟩ := Option.map_eq_some_iff.1 h
      obtain ⟨h1, h2⟩ := zFk n _ _ _ hn' e
      refine ⟨by simp; omega, fun t q => ?_⟩
      rcases List.mem_cons.1 q with rfl | q
      ·simp
      ·have := h2 t q; simp; omega
     ·simp at h
theorem zSl {x : Str} {i : Nat} (hi : i < x.length) (h : ∀ k, k < i → x.getD k 0 ≠ 59) (hc : x.getD i 0 = 59) : befD x 59 = x.take i := by
 unfold befD
 induction x generalizing i with
 | nil => simp at hi
 | cons b x ih =>
  cases i with
  | zero => simp at hc; simp [hc]
  | succ i =>
   have h0 := h 0 (by omega)
   simp at h0
   have := ih (i := i) (by simpa using hi) (fun k hk => by have := h (k + 1) (by omega); simpa using this) (by simpa using hc)
   simp [h0, this]
theorem zOT {x : Str} (h : ∀ k, k < x.length → x.getD k 0 ≠ 59) : befD x 59 = x := by
 unfold befD
 induction x with
 | nil => rfl
 | cons b x ih =>
  have h0 := h 0 (by simp)
  simp at h0
  have := ih fun k hk => by have := h (k + 1) (by simpa using hk); simpa using this
  simp [h0, this]
set_option maxHeartbeats 32000000 in
theorem zMg (s : Str) (hsl : s.length ≤ 1000000) : zAD Tryz.prog 144 [.str s] (parV s) := by
 refine sX Tryz.func144 Tryz.ntmps144 ?_;(repeat intro K hK);refine wr ?_
 obtain ⟨I, hI⟩ : ∃ I : Nat → St → Prop, I = (fun kk ss => ∃ (i : Nat) (x : Str), i ≤ s.length ∧ kk = s.length - i ∧ (befD x 59 = befD s 59 ∧ x.length ≤ s.length ∧ (∀ k, k < i → k < x.length → x.getD k 0 ≠ 59)) ∧ ss = ⟨154, [(5, .int .i64 i), (3, .ptr 0 6 0 0), (0, .str x)], 1, [(0, some ⟨176, 6, true, false, [[.str [], .int .i64 0, .sl 0 true [], .int .i64 0, .int .i64 0, .int .i64 0]]⟩)], 0⟩) := ⟨_, rfl⟩
 refine lX I (id) (by rw [hI]; exact ⟨0, s, by simp, rfl, ⟨rfl, Nat.le_refl _, fun k hk => by omega⟩, rfl⟩) ?_
 intro kk ss hIk _
 rw [hI] at hIk
 obtain ⟨i, x, hi, rfl, hx, rfl⟩ := hIk
 obtain ⟨hb, hxl, hno⟩ := hx
 have hw : IntKind.i64.wrap ((i : Int) + 1) = (i : Int) + 1 := zAC (by omega) (by omega)
 by_cases hi' : i < x.length
 ·obtain ⟨c, hc⟩ : ∃ c, c = x.getD i 0 := ⟨_, rfl⟩
  have hcc : x[i]?.getD 0 = c := by rw [hc, List.getD_eq_getElem?_getD]
  refine au ?_;(repeat intro K hK);refine wr ?_
  refine gT11 @hi' rfl @hcc ?_;(repeat intro K hK);refine wr ?_
  by_cases h59 : c = 59
  ·have h59' : (c.toNat : Int) = 59 := by rw [h59]; rfl
   have hbc : befD x 59 = x.take i := zSl hi' (fun k hk => hno k hk (by omega)) (by rw [← hc, h59])
   have hnt : ∀ k, k < (x.take i).length → (x.take i).getD k 0 ≠ 59 := fun k hk => by
    have hk' : k < i := by simp at hk; omega
    have := hno k hk' (by omega)
    rwa [List.getD_eq_getElem?_getD, List.getElem?_take_of_lt hk', ← List.getD_eq_getElem?_getD]
   refine gT11 @h59' rfl @hw ?_;(repeat intro K hK);refine wr ?_
   exact aX (id) (by rw [hI]; exact ⟨i + 1, (x.take i), by omega, rfl, ⟨by rw [zOT hnt, ← hbc, hb], by simp; omega, fun k _ hk => hnt k hk⟩, rfl⟩) (kX2 (zAC (n := (i : Int) + 1) (by omega) (by omega)) @hw)
  ·have h59' : ¬ (c.toNat : Int) = 59 := fun e => h59 (UInt8.toNat_inj.1 (by simp; omega))
   refine gF11 @h59' rfl @hw ?_;(repeat intro K hK);refine wr ?_
   have hnn : ∀ k, k < i + 1 → k < x.length → x.getD k 0 ≠ 59 := fun k hk hk' => by
    by_cases e : k = i
    ·subst e; rw [← hc]; exact h59
    ·exact hno k (by omega) hk'
   exact aX (id) (by rw [hI]; exact ⟨i + 1, x, by omega, rfl, ⟨hb, hxl, hnn⟩, rfl⟩) (kX2 (zAC (n := (i : Int) + 1) (by omega) (by omega)) @hw)
 ·have hbx : befD s 59 = x := by rw [← hb]; exact zOT fun k hk => hno k (by omega) hk
  refine au ?_;(repeat intro K hK);refine wr ?_
  refine gF10 @hi' rfl ?_;(repeat intro K hK);refine wr ?_
  have htk := zOG x (by omega)
  unfold zEV at htk
  cases ht : tokR true x with
  | none =>
   rw [ht] at htk
   have hv : parV s = .tup [.str [], zst, .bool false] := by unfold parV parR; rw [hbx, ht]
   refine cX (htk) ?_;(repeat intro K hK);refine wr ?_
   refine gT00 rfl ?_;(repeat intro K hK);refine wr ?_
   refine zAI ?_
   refine zAB ?_
   simp [hv]
  | some l =>
   rw [ht] at htk
   obtain ⟨hl1, hl2⟩ := zFk _ _ _ _ (Nat.le_refl _) ht
   refine cX (htk) ?_;(repeat intro K hK);refine wr ?_
   refine cF0 rfl ?_
   have hp0 : parR s = match labR l with
     | none => none
     | some (lb, r) => if r = [] then some (lb, none) else (bodR (dotR r).1 (dotR r).2).map fun st => (lb, some st) := by unfold parR; rw [hbx, ht]
   iterate 6 (first | (with_reducible first | refine zAj fun K hK => ?_ | refine zAa ?_) | ((with_reducible first | refine zAV (by kernel_rfl) ?_ | refine zAm ?_ | refine zAi ?_ | refine zAn ?_ | refine zAl ?_ | refine zAk ?_ | refine zAh ?_); simp) | ((repeat ((fail_if_success ((with_reducible refine hK _ ?_))); clear hK)); (with_reducible refine hK _ ?_); clear hK) | refine And.intro (by first | omega | assumption | grind) ?_)
   refine zBs (α := Str × List Tok) (fun ⟨lb, r⟩ => (⟨154, [(8, .str lb), (6, .sl 3 false (zBb r)), (3, .ptr 0 6 0 0)], 1, [(0, some ⟨176, 6, true, false, [[.str [], .int .i64 0, .sl 0 true [], .int .i64 0, .int .i64 0, .int .i64 0]]⟩)], 0⟩ : St)) (fun ⟨lb, r⟩ => labR l = some (lb, r)) hK (fun ⟨lb, r⟩ hxhA => ?_) (fun hA => ?_)
   all_goals clear hK
   ·have hrl := zRL hxhA
    rw [hxhA] at hp0
    cases r with
    | nil =>
     have hv : parV s = .tup [.str lb, zst, .bool true] := by unfold parV; rw [hp0]; simp
     refine au ?_;(repeat intro K hK);refine wr ?_
     refine gT00 rfl ?_;(repeat intro K hK);refine wr ?_
     refine zAI ?_
     refine zAB ?_
     simp [hv]
    | cons t r =>
     have hp1 : parR s = (bodR (dotR (t :: r)).1 (dotR (t :: r)).2).map fun st => (lb, some st) := by rw [hp0]; simp
     have hne : ¬ ((zBb r).length : Int) + 1 = 0 := by omega
     refine au1 @zAZ ?_;(repeat intro K hK);refine wr ?_
     refine cF1 @hne rfl ?_
     iterate 10 (first | (with_reducible first | refine zAj fun K hK => ?_ | refine zAa ?_) | ((with_reducible first | refine zAV (by kernel_rfl) ?_ | refine zAm ?_ | refine zAi ?_ | refine zAn ?_ | refine zAl ?_ | refine zAk ?_ | refine zAh ?_); simp) | ((repeat ((fail_if_success ((with_reducible refine hK _ ?_))); clear hK)); (with_reducible refine hK _ ?_); clear hK) | refine And.intro (by first | omega | assumption | grind) ?_)
     refine zBs (α := Str × List Tok) (fun ⟨w, q⟩ => (⟨154, [(9, .str w), (10, .sl 3 false (zBb q)), (8, .str lb), (3, .ptr 0 6 0 0)], 1, [(0, some ⟨176, 6, true, false, [[.str [], .int .i64 0, .sl 0 true [], .int .i64 0, .int .i64 0, .int .i64 0]]⟩)], 0⟩ : St)) (fun ⟨w, q⟩ => dotR (t :: r) = (w, q)) hK (fun ⟨w, q⟩ hxhB => ?_) (fun hB => ?_)
     all_goals clear hK
     ·have hsub := zRE hxhB
      rw [hxhB] at hp1
      simp only at hp1
      refine au ?_;(repeat intro K hK);refine wr ?_
      refine cc (zMP w) ?_
      iterate 2 (first | (with_reducible first | refine zAj fun K hK => ?_ | refine zAa ?_) | ((with_reducible first | refine zAV (by kernel_rfl) ?_ | refine zAm ?_ | refine zAi ?_ | refine zAn ?_ | refine zAl ?_ | refine zAk ?_ | refine zAh ?_); simp) | ((repeat ((fail_if_success ((with_reducible refine hK _ ?_))); clear hK)); (with_reducible refine hK _ ?_); clear hK) | refine And.intro (by first | omega | assumption | grind) ?_)
      refine zBs (α := Str) (fun p => (⟨154, [(11, .str p), (9, .str w), (10, .sl 3 false (zBb q)), (8, .str lb), (3, .ptr 0 6 0 0)], 1, [(0, some ⟨176, 6, true, false, [[.str [], .int .i64 0, .sl 0 true [], .int .i64 0, .int .i64 0, .int .i64 0]]⟩)], 0⟩ : St)) (fun p => patR w = some p ∧ gapR q = true) hK (fun p hxhC => ?_) (fun hC => ?_)
      all_goals clear hK
      ·have hp2 : parR s = (match matF q p with
         | none => none
         | some a => finR w a).map fun st => (lb, some st) := by rw [hp1]; simp only [bodR, hxhC.1, hxhC.2, if_true]
       have hmt := zL3 q p (by omega) fun t ht => Nat.le_trans (hl2 t (hrl.2 t (hsub.2 t ht))) (by omega)
       unfold matV at hmt
       refine au ?_;(repeat intro K hK);refine wr ?_
       cases hm : matF q p with
       | none =>
        rw [hm] at hmt hp2
        have hv : parV s = .tup [.str [], zst, .bool false] := by unfold parV; rw [hp2]; rfl
        refine cX (hmt) ?_;(repeat intro K hK);refine wr ?_
        refine gT00 rfl ?_;(repeat intro K hK);refine wr ?_
        refine zAI ?_
        refine zAB ?_
        simp [hv]
       | some a =>
        rw [hm] at hmt hp2
        simp only at hp2
        refine cX (hmt) ?_;(repeat intro K hK);refine wr ?_
        refine gF00 rfl ?_;(repeat intro K hK);refine wr ?_
        refine cX (zEz w) ?_;(repeat intro K hK);refine wr ?_
        by_cases h1 : w = [108, 105]
        ·have hv : parV s = .tup [.str lb, .st (⟨w, opD w, a, 0, 0, 2⟩ : StD).row, .bool true] := by unfold parV; rw [hp2, finR, if_pos h1]; rfl
         refine gT10 @h1 rfl ?_;(repeat intro K hK);refine wr ?_
         refine zAE ([0, 1, 2, 3, 4] : List Nat) ([[], [], [0], [0, 1, 2], [0, 1, 2, 3]] : List (List Nat)) ([(3, ([[], [], [0]], [])), (1, ([], [])), (1, ([], []))] : List (Nat × List (List Nat) × List (Nat × Nat))) (by kernel_rfl) (by kernel_rfl) (by kernel_rfl) ?_
         refine af ?_;(repeat intro K hK);refine wr ?_
         refine zAI ?_
         refine zAB ?_
         simp [hv]
        ·have h1' : ¬ (w == [108, 105]) = true := by simpa using h1
         refine zBY @h1 rfl ?_;(repeat intro K hK);refine wr ?_
         by_cases h2 : w = [46, 115, 112, 97, 99, 101]
         ·have hpn : p = [110] := by have e := hxhC.1; rw [h2, show patR [46, 115, 112, 97, 99, 101] = some [110] from rfl] at e; exact (Option.some.inj e).symm
          rw [hpn] at hm
          obtain ⟨⟨x1, x2, x3⟩, rfl⟩ := mat_n hm
          have hg0 : ([(x1, x2, x3)] : List ArgD).getD 0 (0, 0, []) = (x1, x2, x3) := rfl
          have hat : zC4 [(x1, x2, x3)] = [[.int .i64 x1, .int .i64 x2, .str x3]] := rfl
          refine zCt @h2 rfl @hat ?_;(repeat intro K hK);refine wr ?_
          by_cases h3 : x2 < 0 ∨ 1024 < x2
          ·have hv : parV s = .tup [.str [], zst, .bool false] := by unfold parV; rw [hp2, finR, if_neg h1, if_pos h2, hg0]; simp only [if_pos h3]; rfl
           refine zAA rfl (fun _ => ?_) (fun h => absurd h3 (by simpa using h))
           refine af ?_;(repeat intro K hK);refine wr ?_
           refine zAI ?_
           refine zAB ?_
           simp [hv]
          ·have hv : parV s = .tup [.str lb, .st (⟨w, opD w, [(x1, x2, x3)], 0, 0, x2⟩ : StD).row, .bool true] := by unfold parV; rw [hp2, finR, if_neg h1, if_pos h2, hg0]; simp only [if_neg h3]; rfl
           refine zAA rfl (fun h => absurd (by simpa using h) h3) (fun _ => ?_)
           refine af1 @hat ?_;(repeat intro K hK);refine wr ?_
           refine zAE ([0, 1, 2, 3, 4] : List Nat) ([[], [], [0], [0, 1, 2], [0, 1, 2, 3]] : List (List Nat)) ([(3, ([[], [], [0]], [])), (1, ([], [])), (1, ([], []))] : List (Nat × List (List Nat) × List (Nat × Nat))) (by kernel_rfl) (by kernel_rfl) (by kernel_rfl) ?_
           refine af ?_;(repeat intro K hK);refine wr ?_
           refine zAI ?_
           refine zAB ?_
           simp [hv, hat]
         ·have hv : parV s = .tup [.str lb, .st (⟨w, opD w, a, 0, 0, 1⟩ : StD).row, .bool true] := by unfold parV; rw [hp2, finR, if_neg h1, if_neg h2]; rfl
          refine zBY @h2 rfl ?_;(repeat intro K hK);refine wr ?_
          refine zAE ([0, 1, 2, 3, 4] : List Nat) ([[], [], [0], [0, 1, 2], [0, 1, 2, 3]] : List (List Nat)) ([(3, ([[], [], [0]], [])), (1, ([], [])), (1, ([], []))] : List (Nat × List (List Nat) × List (Nat × Nat))) (by kernel_rfl) (by kernel_rfl) (by kernel_rfl) ?_
          refine af ?_;(repeat intro K hK);refine wr ?_
          refine zAI ?_
          refine zAB ?_
          simp [hv]
      cases q with
      | nil =>
       refine af ?_;(repeat intro K hK);refine wr ?_
       cases hpt : patR w with
       | none =>
        have hv : parV s = .tup [.str [], zst, .bool false] := by unfold parV; rw [hp1]; simp only [bodR, hpt]; rfl
        refine zEG @hpt rfl ?_;(repeat intro K hK);refine wr ?_
        refine zAI ?_
        refine zAB ?_
        simp [hv]
       | some p =>
        refine zBY @hpt rfl ?_;(repeat intro K hK);refine wr ?_
        refine hC p _ (id) (⟨hpt, rfl⟩) ⟨rfl, ?_, ?_, ?_, by simp⟩
        ·simp [leT, ltV, lt1, ren, ren1, hpt]
        ·simp [leO, lt1, ren1, hpt]
        ·(simp; try omega)
      | cons u q =>
       have hlt1 : (0 : Int) < ((zBb q).length : Int) + 1 := by omega
       refine af1 (kX2 @zAZ @hlt1) ?_;(repeat intro K hK);refine wr ?_
       by_cases hpg : (patR w).isSome = true ∧ u.2.2 = true
       ·obtain ⟨p, hpt⟩ := Option.isSome_iff_exists.1 hpg.1
        refine zBY (kX2 @hpt @hpg.2) rfl ?_;(repeat intro K hK);refine wr ?_
        refine hC p _ (id) (⟨hpt, hpg.2⟩) ⟨rfl, ?_, ?_, ?_, by simp⟩
        ·simp [leT, ltV, lt1, ren, ren1, hpt, zAZ]
        ·simp [leO, lt1, ren1, hpt, zAZ]
        ·(simp; try omega)
       ·have hbn : bodR w (u :: q) = none := by
         unfold bodR
         cases hpt : patR w with
         | none => rfl
         | some p => exact if_neg (fun e => hpg ⟨by rw [hpt]; rfl, e⟩)
        have hv : parV s = .tup [.str [], zst, .bool false] := by unfold parV; rw [hp1, hbn]; rfl
        refine zAA rfl (fun _ => ?_) (fun h => absurd (by simpa using h) hpg)
        refine af ?_;(repeat intro K hK);refine wr ?_
        refine zAI ?_
        refine zAB ?_
        simp [hv]
     cases r with
     | nil =>
      refine af1 @zAZ ?_;(repeat intro K hK);refine wr ?_
      refine zC9 rfl ?_;(repeat intro K hK);refine wr ?_
      refine hB ⟨t.2.1, []⟩ _ (id) (rfl) ⟨rfl, ?_, ?_, ?_, by simp⟩
      ·simp [leT, ltV, lt1, ren, ren1, zAZ]
      ·simp [leO, lt1, ren1, zAZ]
      ·(simp; try omega)
     | cons u r =>
      have hle2 : (2 : Int) ≤ ((zBb r).length : Int) + 1 + 1 := by omega
      have htn : (((zBb r).length : Int) + 1 + 1).toNat = (zBb r).length + 1 + 1 := by omega
      refine af1 (kX3 @zAZ @hle2 @htn) ?_;(repeat intro K hK);refine wr ?_
      by_cases h1 : t.2.1 = [46] ∧ u.2.2 = false
      ·have hdr : dotR (t :: u :: r) = (46 :: u.2.1, r) := by simp only [dotR, if_pos h1]
       refine zCt @h1 rfl (kX2 @zAZ @htn) ?_;(repeat intro K hK);refine wr ?_
       refine hB ⟨(46 :: u.2.1), r⟩ _ (id) (hdr) ⟨rfl, ?_, ?_, ?_, by simp⟩
       ·simp [leT, ltV, lt1, ren, ren1, zAZ, htn]
       ·simp [leO, lt1, ren1, zAZ, htn]
       ·(simp; try omega)
      ·have hdr : dotR (t :: u :: r) = (t.2.1, u :: r) := by simp only [dotR, if_neg h1]
       refine zAA rfl (fun h => absurd (by simpa using h) h1) (fun _ => ?_)
       refine af ?_;(repeat intro K hK);refine wr ?_
       refine hB ⟨t.2.1, (u :: r)⟩ _ (id) (hdr) ⟨rfl, ?_, ?_, ?_, by simp⟩
       ·simp [leT, ltV, lt1, ren, ren1, zAZ, htn]
       ·simp [leO, lt1, ren1, zAZ, htn]
       ·(simp; try omega)
   cases l with
   | nil =>
    refine af ?_;(repeat intro K hK);refine wr ?_
    refine zC9 rfl ?_;(repeat intro K hK);refine wr ?_
    refine hA ⟨[], []⟩ _ (id) (rfl) ⟨rfl, ?_, ?_, ?_, by simp⟩
    ·simp [leT, ltV, lt1, ren, ren1]
    ·simp [leO, lt1, ren1]
    ·(simp; try omega)
   | cons t r =>
    cases r with
    | nil =>
     refine af1 @zAZ ?_;(repeat intro K hK);refine wr ?_
     refine zC9 rfl ?_;(repeat intro K hK);refine wr ?_
     refine hA ⟨[], [t]⟩ _ (id) (rfl) ⟨rfl, ?_, ?_, ?_, by simp⟩
     ·simp [leT, ltV, lt1, ren, ren1, zAZ]
     ·simp [leO, lt1, ren1, zAZ]
     ·(simp; try omega)
    | cons u r =>
     have hle2 : (2 : Int) ≤ ((zBb r).length : Int) + 1 + 1 := by omega
     have htn : (((zBb r).length : Int) + 1 + 1).toNat = (zBb r).length + 1 + 1 := by omega
     refine af1 (kX2 @zAZ @hle2) ?_;(repeat intro K hK);refine wr ?_
     by_cases h1 : u.2.1 = [58]
     ·refine zCt @h1 rfl @zAZ ?_;(repeat intro K hK);refine wr ?_
      first | refine zA3 (zET t.2.1) rfl (fun hgd => ?_) (by simp [obsL]) ?_ | refine zAt (zET t.2.1) rfl (by simp) (fun hgd => ?_) (by simp [obsL]) ?_
      all_goals simp
      all_goals (try (first | exact hgd | (simp at hgd; first | done | assumption | grind)))
      refine af ?_;(repeat intro K hK);refine wr ?_
      by_cases h2 : t.1 = 1 ∧ zMM t.2.1 = true
      ·have hlr : labR (t :: u :: r) = some (t.2.1, r) := by simp only [labR, if_pos h1, if_pos h2]
       refine zEn @h2 rfl @hle2 ?_;(repeat intro K hK);refine wr ?_
       refine hA ⟨t.2.1, r⟩ _ (id) (hlr) ⟨rfl, ?_, ?_, ?_, by simp⟩
       ·simp [leT, ltV, lt1, ren, ren1, zAZ, htn]
       ·simp [leO, lt1, ren1, zAZ, htn]
       ·(simp; try omega)
      ·have hv : parV s = .tup [.str [], zst, .bool false] := by unfold parV; rw [hp0]; simp only [labR, if_pos h1, if_neg h2]
       refine zAA rfl (fun _ => ?_) (fun h => absurd (by simpa using h) h2)
       refine af ?_;(repeat intro K hK);refine wr ?_
       refine zAI ?_
       refine zAB ?_
       simp [hv]
     ·have hlr : labR (t :: u :: r) = some ([], t :: u :: r) := by simp only [labR, if_neg h1]
      refine zBY @h1 rfl ?_;(repeat intro K hK);refine wr ?_
      refine hA ⟨[], (t :: u :: r)⟩ _ (id) (hlr) ⟨rfl, ?_, ?_, ?_, by simp⟩
      ·simp [leT, ltV, lt1, ren, ren1, zAZ]
      ·simp [leO, lt1, ren1, zAZ]
      ·(simp; try omega)
@[simp] theorem symsV_nil : zCa [] = [] := rfl
structure PrR where
 syms : List (Str × Int)
 sts : List StD
 at' : Int
def stsV (l : List StD) : List (List V) := l.map StD.row
@[simp] theorem stsV_nil : stsV [] = [] := rfl
theorem zKf (l : List StD) : (stsV l).length = l.length := by simp [stsV]
theorem zPJ (l : List StD) (s : StD) (n a : Int) : stsV l ++ [[.str s.what, .int .i64 s.op, .sl 3 false (zC4 s.l), .int .i64 n, .int .i64 a, .int .i64 s.size]] = stsV (l ++ [{ s with line := n, at' := a }]) := by simp [stsV]
abbrev prR0 : PrR := ⟨[], [], 0⟩
def labS (lb : Str) (S : List (Str × Int)) (a : Int) : Option (List (Str × Int)) :=
 if lb = [] then some S else if (zDo lb S).isSome = true then none else some (S ++ [(lb, 4 * a)])
def addS (st : Option StD) (S : List (Str × Int)) (p : PrR) (n : Int) : PrR := match st with
 | none => ⟨S, p.sts, p.at'⟩
 | some s => ⟨S, p.sts ++ [{ s with line := n, at' := p.at' }], p.at' + s.size⟩
def redF : List Str → Int → PrR → Except (Int × Int) PrR
 | [], _, p => .ok p
 | t :: ts, n, p => match parR t with
  | none => .error (301, n)
  | some (lb, st) => match labS lb p.syms p.at' with
   | none => .error (303, n)
   | some S => if 1024 < (addS st S p n).at' then .error (305, n) else redF ts (n + 1) (addS st S p n)
def zGO (s : Str) : Except (Int × Int) PrR := if 8192 < s.length then .error (300, 0) else redF (zCi s) 1 ⟨[], [], 0⟩
def zEH (s : Str) : V := match zGO s with
 | .error (e, n) => .tup [.sl 2 true [], .sl 6 true [], .st [.int .i64 e, .int .i64 n]]
 | .ok p => .tup [.sl 2 false (zCa p.syms), .sl 6 false (stsV p.sts), .st [.int .i64 0, .int .i64 0]]
theorem pat_ne {w : Str} {p : Str} (h : patR w = some p) : w ≠ [] := by
 rintro rfl
 rw [show patR [] = none from by decide +kernel] at h
 simp at h
theorem zRt {w : Str} {a : List ArgD} {st : StD} (h : finR w a = some st) : st.what = w ∧ st.line = 0 ∧ st.at' = 0 ∧ 0 ≤ st.size ∧ st.size ≤ 1024 := by
 unfold finR at h
 split at h
 ·simp only [Option.some.injEq] at h; subst h; exact ⟨rfl, rfl, rfl, by simp only; omega, by simp only; omega⟩
 ·split at h
  ·split at h
   ·simp at h
   ·rename_i q
    simp only [Option.some.injEq] at h; subst h
    exact ⟨rfl, rfl, rfl, by simp only; omega, by simp only; omega⟩
  ·simp only [Option.some.injEq] at h; subst h; exact ⟨rfl, rfl, rfl, by simp only; omega, by simp only; omega⟩
theorem zRe {t lb : Str} {st : StD} (h : parR t = some (lb, some st)) : st.what ≠ [] ∧ 0 ≤ st.size ∧ st.size ≤ 1024 := by
 unfold parR at h
 split at h
 ·simp at h
 ·split at h
  ·simp at h
  ·rename_i r _
   split at h
   ·simp at h
   ·obtain ⟨st', e, h'⟩ := Option.map_eq_some_iff.1 h
    simp only [Prod.mk.injEq, Option.some.injEq] at h'
    obtain ⟨_, rfl⟩ := h'
    unfold bodR at e
    split at e
    ·simp at e
    ·rename_i p hp
     split at e
     ·split at e
      ·simp at e
      ·obtain ⟨f1, _, _, f4, f5⟩ := zRt e
       exact ⟨by rw [f1]; exact pat_ne hp, f4, f5⟩
     ·simp at e
theorem zF5 (s : Str) : (zCi s).length ≤ s.length + 1 ∧ ∀ t ∈ zCi s, t.length ≤ s.length := by
 have h1 := zNx s
 have h2 := zMm s
 obtain ⟨h, tl, e⟩ := zDS s
 have hne : zAo s ≠ [] := by rw [e]; simp
 have hg : (zAo s).getLast?.getD [] = (zAo s).getLast hne := by rw [List.getLast?_eq_some_getLast hne]; rfl
 have hsub : ∀ t ∈ zCi s, t ∈ zAo s := by
  intro t ht
  unfold zCi at ht
  rcases List.mem_append.1 ht with q | q
  ·exact (List.dropLast_sublist _).subset q
  ·rw [hg] at q
   split at q
   ·simp at q
   ·simp at q; rw [q]; exact List.getLast_mem hne
 refine ⟨?_, fun t ht => (h2 t (hsub t ht)).1⟩
 have hdl : (zAo s).dropLast.length + 1 = (zAo s).length := by rw [List.length_dropLast]; have := List.length_pos_iff.2 hne; omega
 unfold zCi
 split <;> simp <;> omega
set_option maxHeartbeats 32000000 in
theorem zSd (s : Str) (hsl : s.length ≤ 1000000) : zAD Tryz.prog 86 [.str s] (zEH s) := by
 refine sX Tryz.func86 Tryz.ntmps86 ?_;(repeat intro K hK);refine wr ?_
 refine zAA rfl (fun h => ?_) (fun h => ?_)
 ·simp at h
  have hv : zEH s = .tup [.sl 2 true [], .sl 6 true [], .st [.int .i64 300, .int .i64 0]] := by unfold zEH zGO; rw [if_pos (by omega)]
  refine au ?_;(repeat intro K hK);refine wr ?_
  refine zAI ?_
  refine zAB ?_
  simp [hv]
 ·simp at h
  have hr0 : zGO s = redF (zCi s) 1 ⟨[], [], 0⟩ := by unfold zGO; rw [if_neg (by omega)]
  refine au ?_;(repeat intro K hK);refine wr ?_
  refine cX (zHS s hsl) ?_;(repeat intro K hK);refine wr ?_
  have hL : (zCi s).length ≤ s.length + 1 ∧ ∀ t ∈ zCi s, t.length ≤ s.length := zF5 s
  generalize zCi s = L at hr0 hL ⊢
  refine zAc 5 253 2 (by decide) rfl ?_
  refine zAc 6 176 6 (by decide) rfl ?_
  simp
  obtain ⟨I, hI⟩ : ∃ I : Nat → St → Prop, I = (fun kk ss => ∃ (i : Nat) (p : PrR), i ≤ L.length ∧ kk = L.length - i ∧ (redF L 1 ⟨[], [], 0⟩ = redF (L.drop i) ((i : Int) + 1) p ∧ 0 ≤ p.at' ∧ p.at' ≤ 1024 ∧ p.sts.length ≤ i ∧ p.syms.length ≤ i) ∧ ss = ⟨85, [(9, .int .i64 i), (5, .own 2), (7, .int .i64 p.at'), (6, .own 3), (8, .own 1), (4, .ptr 0 2 0 0)], 4, [(0, some ⟨114, 2, true, false, [[.int .i64 0, .int .i64 0]]⟩), (1, some ⟨9, 1, false, false, strs L⟩), (2, some ⟨253, 2, false, false, zCa p.syms⟩), (3, some ⟨176, 6, false, false, stsV p.sts⟩)], 0⟩) := ⟨_, rfl⟩
  refine lX I (id) (by rw [hI]; exact ⟨0, prR0, by simp, rfl, by simp, rfl⟩) ?_
  intro kk ss hIk _
  rw [hI] at hIk
  obtain ⟨i, p, hi, rfl, hx, rfl⟩ := hIk
  obtain ⟨hx1, hx2, hx3, hx4, hx5⟩ := hx
  obtain ⟨S, T, w⟩ := p
  simp only at hx1 hx2 hx3 hx4 hx5 ⊢
  have hsl := zDR L
  have hSl := zI2 S
  have hTl := zKf T
  have hw : IntKind.i64.wrap ((i : Int) + 1) = (i : Int) + 1 := zAC (by omega) (by omega)
  refine au1 @hsl ?_;(repeat intro K hK);refine wr ?_
  by_cases hi' : i < L.length
  ·obtain ⟨t, ht⟩ : ∃ t, t = L[i] := ⟨_, rfl⟩
   have htm : t ∈ L := by rw [ht]; exact List.getElem_mem hi'
   have htl := hL.2 t htm
   have hgs : (strs L)[i]? = some [.str t] := by rw [ht]; exact zTG L i hi'
   have hdr : L.drop i = t :: L.drop (i + 1) := by rw [List.drop_eq_getElem_cons hi', ht]
   rw [hdr, redF] at hx1
   refine gT11 @hi' rfl (kX2 @hgs @hsl) ?_;(repeat intro K hK);refine wr ?_
   have hpt := zMg t (by omega)
   unfold parV at hpt
   cases hpr : parR t with
   | none =>
    rw [hpr] at hx1 hpt
    have hv : zEH s = .tup [.sl 2 true [], .sl 6 true [], .st [.int .i64 301, .int .i64 ((i : Int) + 1)]] := by unfold zEH; rw [hr0, hx1]
    refine cX (hpt) ?_;(repeat intro K hK);refine wr ?_
    refine gT01 rfl @hw ?_;(repeat intro K hK);refine wr ?_
    refine zAI ?_
    refine zAB ?_
    simp [hv]
   | some z =>
    obtain ⟨lb, st⟩ := z
    rw [hpr] at hx1
    simp only at hx1
    cases st with
    | none =>
     rw [hpr] at hpt
     simp only at hpt
     refine cX (hpt) ?_;(repeat intro K hK);refine wr ?_
     refine cF0 rfl ?_
     iterate 3 (first | (with_reducible first | refine zAj fun K hK => ?_ | refine zAa ?_) | ((with_reducible first | refine zAV (by kernel_rfl) ?_ | refine zAm ?_ | refine zAi ?_ | refine zAn ?_ | refine zAl ?_ | refine zAk ?_ | refine zAh ?_); simp) | ((repeat ((fail_if_success ((with_reducible refine hK _ ?_))); clear hK)); (with_reducible refine hK _ ?_); clear hK) | refine And.intro (by first | omega | assumption | grind) ?_)
     refine zBs (α := List (Str × Int)) (fun q => (⟨85, [(5, .own 2), (11, .ptr 4 6 0 0), (9, .int .i64 i), (7, .int .i64 w), (6, .own 3), (8, .own 1), (4, .ptr 0 2 0 0)], 5, [(0, some ⟨114, 2, true, false, [[.int .i64 0, .int .i64 0]]⟩), (1, some ⟨9, 1, false, false, strs L⟩), (2, some ⟨253, 2, false, false, zCa q⟩), (3, some ⟨176, 6, false, false, stsV T⟩), (4, some ⟨176, 6, true, false, [[.str [], .int .i64 0, .sl 0 true [], .int .i64 0, .int .i64 0, .int .i64 0]]⟩)], 0⟩ : St)) (fun q => labS lb S w = some q ∧ q.length ≤ i + 1) hK (fun q hxhA => ?_) (fun hA => ?_)
     all_goals clear hK
     ·have hx1' : redF L 1 prR0 = if 1024 < w then .error (305, (i : Int) + 1) else redF (L.drop (i + 1)) ((i : Int) + 1 + 1) ⟨q, T, w⟩ := by rw [hx1]; simp only [hxhA.1]; rfl
      rw [if_neg (by omega)] at hx1'
      have hgt : ¬ 1024 < w := by omega
      refine au ?_;(repeat intro K hK);refine wr ?_
      refine gF00 rfl ?_;(repeat intro K hK);refine wr ?_
      refine gF11 @hgt rfl @hw ?_;(repeat intro K hK);refine wr ?_
      exact aX (id) (by rw [hI]; exact ⟨i + 1, (PrR.mk q T w), by omega, rfl, ⟨by rw [hx1']; rfl, hx2, hx3, by simp only; omega, hxhA.2⟩, rfl⟩) (kX2 (zAC (n := (i : Int) + 1) (by omega) (by omega)) @hw)
     refine au ?_;(repeat intro K hK);refine wr ?_
     by_cases hlb : lb = []
     ·have hlS : labS lb S w = some S := by unfold labS; rw [if_pos hlb]
      refine gF10 @hlb rfl ?_;(repeat intro K hK);refine wr ?_
      refine hA S _ (fun x => if x = 4 then 12 else x) (⟨hlS, by omega⟩) ⟨rfl, ?_, ?_, ?_, by simp⟩
      ·simp [leT, ltV, lt1, ren, ren1]
      ·simp [leO, lt1, ren1]
      ·(simp; try omega)
     ·refine gT10 @hlb rfl ?_;(repeat intro K hK);refine wr ?_
      first | refine .inl ⟨1, _, zCh S lb (by omega), ?_⟩ | refine ⟨1, _, zCh S lb (by omega), ?_⟩
      simp [aftC, noX, noXc, noX1]
      first | refine And.intro zAL ?_ | skip
      refine au ?_;(repeat intro K hK);refine wr ?_
      by_cases hfd : (zDo lb S).isSome = true
      ·have hlS : labS lb S w = none := by unfold labS; rw [if_neg hlb, if_pos hfd]
       rw [hlS] at hx1
       have hv : zEH s = .tup [.sl 2 true [], .sl 6 true [], .st [.int .i64 303, .int .i64 ((i : Int) + 1)]] := by unfold zEH; rw [hr0, hx1]
       refine gT11 @hfd rfl @hw ?_;(repeat intro K hK);refine wr ?_
       refine zAI ?_
       refine zAB ?_
       simp [hv]
      ·have hlS : labS lb S w = some (S ++ [(lb, 4 * w)]) := by unfold labS; rw [if_neg hlb, if_neg hfd]
       have hone := zIL S lb (4 * w)
       have hmx : (zCa S).length + 1 ≤ maxLen := by rw [hSl]; simp [maxLen]; omega
       have hm2 : (S.length + 1) * 24 ≤ 140737488355328 := by omega
       have hw4 : IntKind.i64.wrap (4 * w) = 4 * w := zAC (by omega) (by omega)
       have hu4 : IntKind.u32.wrap (4 * w) = 4 * w := by rw [IntKind.wrap_u32]; omega
       refine gF11 @hfd rfl (kX6 @hw4 @hu4 @hone @hmx @hm2 @hSl) ?_;(repeat intro K hK);refine wr ?_
       refine hA (S ++ [(lb, 4 * w)]) _ (fun x => if x = 4 then 12 else if x = 2 then 16 else x) (⟨hlS, by simp; omega⟩) ⟨rfl, ?_, ?_, ?_, by simp⟩
       ·simp [leT, ltV, lt1, ren, ren1, hone, hw4, hu4]
       ·simp [leO, lt1, ren1, hone, hw4, hu4]
       ·(simp; try omega)
    | some st =>
     obtain ⟨hz1, hz2, hz3⟩ := zRe hpr
     rw [hpr] at hpt
     simp only at hpt
     refine cX (hpt) ?_;(repeat intro K hK);refine wr ?_
     refine cF0 rfl ?_
     iterate 3 (first | (with_reducible first | refine zAj fun K hK => ?_ | refine zAa ?_) | ((with_reducible first | refine zAV (by kernel_rfl) ?_ | refine zAm ?_ | refine zAi ?_ | refine zAn ?_ | refine zAl ?_ | refine zAk ?_ | refine zAh ?_); simp) | ((repeat ((fail_if_success ((with_reducible refine hK _ ?_))); clear hK)); (with_reducible refine hK _ ?_); clear hK) | refine And.intro (by first | omega | assumption | grind) ?_)
     refine zBs (α := List (Str × Int)) (fun q => (⟨85, [(5, .own 2), (11, .ptr 4 6 0 0), (9, .int .i64 i), (7, .int .i64 w), (6, .own 3), (8, .own 1), (4, .ptr 0 2 0 0)], 5, [(0, some ⟨114, 2, true, false, [[.int .i64 0, .int .i64 0]]⟩), (1, some ⟨9, 1, false, false, strs L⟩), (2, some ⟨253, 2, false, false, zCa q⟩), (3, some ⟨176, 6, false, false, stsV T⟩), (4, some ⟨176, 6, true, false, [[.str st.what, .int .i64 st.op, .sl 3 false (zC4 st.l), .int .i64 st.line, .int .i64 st.at', .int .i64 st.size]]⟩)], 0⟩ : St)) (fun q => labS lb S w = some q ∧ q.length ≤ i + 1) hK (fun q hxhA => ?_) (fun hA => ?_)
     all_goals clear hK
     ·have hx1' : redF L 1 prR0 = if 1024 < w + st.size then .error (305, (i : Int) + 1) else redF (L.drop (i + 1)) ((i : Int) + 1 + 1) ⟨q, T ++ [{ st with line := (i : Int) + 1, at' := w }], w + st.size⟩ := by rw [hx1]; simp only [hxhA.1]; rfl
      have hone2 := zPJ T st ((i : Int) + 1) w
      have hmx2 : (stsV T).length + 1 ≤ maxLen := by rw [hTl]; simp [maxLen]; omega
      have hm6 : (T.length + 1) * 80 ≤ 140737488355328 := by omega
      have hws : IntKind.i64.wrap (w + st.size) = w + st.size := zAC (by omega) (by omega)
      refine au ?_;(repeat intro K hK);refine wr ?_
      refine gT11 @hz1 rfl (kX6 @hw @hws @hone2 @hmx2 @hm6 @hTl) ?_;(repeat intro K hK);refine wr ?_
      by_cases hgt : 1024 < w + st.size
      ·rw [if_pos hgt] at hx1'
       have hv : zEH s = .tup [.sl 2 true [], .sl 6 true [], .st [.int .i64 305, .int .i64 ((i : Int) + 1)]] := by unfold zEH; rw [hr0, hx1']
       refine gT11 @hgt rfl @hw ?_;(repeat intro K hK);refine wr ?_
       refine zAI ?_
       refine zAB ?_
       simp [hv]
      ·rw [if_neg hgt] at hx1'
       refine gF11 @hgt rfl @hw ?_;(repeat intro K hK);refine wr ?_
       exact aX (fun x => if x = 3 then 6 else x) (by rw [hI]; exact ⟨i + 1, (PrR.mk q (T ++ [{ st with line := (i : Int) + 1, at' := w }]) (w + st.size)), by omega, rfl, ⟨by rw [hx1']; rfl, by simp only; omega, by simp only; omega, by simp; omega, hxhA.2⟩, rfl⟩) (kX4 (zAC (n := (i : Int) + 1) (by omega) (by omega)) @hw @hone2 @hws)
     refine au ?_;(repeat intro K hK);refine wr ?_
     by_cases hlb : lb = []
     ·have hlS : labS lb S w = some S := by unfold labS; rw [if_pos hlb]
      refine gF10 @hlb rfl ?_;(repeat intro K hK);refine wr ?_
      refine hA S _ (fun x => if x = 4 then 12 else x) (⟨hlS, by omega⟩) ⟨rfl, ?_, ?_, ?_, by simp⟩
      ·simp [leT, ltV, lt1, ren, ren1]
      ·simp [leO, lt1, ren1]
      ·(simp; try omega)
     ·refine gT10 @hlb rfl ?_;(repeat intro K hK);refine wr ?_
      first | refine .inl ⟨1, _, zCh S lb (by omega), ?_⟩ | refine ⟨1, _, zCh S lb (by omega), ?_⟩
      simp [aftC, noX, noXc, noX1]
      first | refine And.intro zAL ?_ | skip
      refine au ?_;(repeat intro K hK);refine wr ?_
      by_cases hfd : (zDo lb S).isSome = true
      ·have hlS : labS lb S w = none := by unfold labS; rw [if_neg hlb, if_pos hfd]
       rw [hlS] at hx1
       have hv : zEH s = .tup [.sl 2 true [], .sl 6 true [], .st [.int .i64 303, .int .i64 ((i : Int) + 1)]] := by unfold zEH; rw [hr0, hx1]
       refine gT11 @hfd rfl @hw ?_;(repeat intro K hK);refine wr ?_
       refine zAI ?_
       refine zAB ?_
       simp [hv]
      ·have hlS : labS lb S w = some (S ++ [(lb, 4 * w)]) := by unfold labS; rw [if_neg hlb, if_neg hfd]
       have hone := zIL S lb (4 * w)
       have hmx : (zCa S).length + 1 ≤ maxLen := by rw [hSl]; simp [maxLen]; omega
       have hm2 : (S.length + 1) * 24 ≤ 140737488355328 := by omega
       have hw4 : IntKind.i64.wrap (4 * w) = 4 * w := zAC (by omega) (by omega)
       have hu4 : IntKind.u32.wrap (4 * w) = 4 * w := by rw [IntKind.wrap_u32]; omega
       refine gF11 @hfd rfl (kX6 @hw4 @hu4 @hone @hmx @hm2 @hSl) ?_;(repeat intro K hK);refine wr ?_
       refine hA (S ++ [(lb, 4 * w)]) _ (fun x => if x = 4 then 12 else if x = 2 then 16 else x) (⟨hlS, by simp; omega⟩) ⟨rfl, ?_, ?_, ?_, by simp⟩
       ·simp [leT, ltV, lt1, ren, ren1, hone, hw4, hu4]
       ·simp [leO, lt1, ren1, hone, hw4, hu4]
       ·(simp; try omega)
  ·have : i = L.length := by omega
   subst this
   rw [List.drop_length, redF] at hx1
   have hv : zEH s = .tup [.sl 2 false (zCa S), .sl 6 false (stsV T), .st [.int .i64 0, .int .i64 0]] := by unfold zEH; rw [hr0, hx1]
   refine gF00 rfl ?_;(repeat intro K hK);refine wr ?_
   refine zAI ?_
   refine zAB ?_
   simp [hv]
abbrev arg0 : ArgD := (0, 0, [])
def zOj (op : Int) (a : List ArgD) : Prop := (zAJ op = 2 → 3 ≤ a.length) ∧ (32 ≤ op ∧ op ≤ 36 → 3 ≤ a.length) ∧ (6 ≤ zAJ op → 1 ≤ a.length) ∧ (zAJ op ≠ 1 → zAJ op < 6 → 2 ≤ a.length)
def zHz (op : Int) (a : List ArgD) (x : Int) : InstD :=
 if zAJ op = 2 then ⟨op, (a.getD 0 arg0).1, (a.getD 1 arg0).1, (a.getD 2 arg0).1, x⟩
 else if 32 ≤ op ∧ op ≤ 36 then ⟨op, (a.getD 0 arg0).1, (a.getD 2 arg0).1, 0, x⟩
 else if 6 ≤ zAJ op then ⟨op, (a.getD 0 arg0).1, 0, 0, x⟩
 else if zAJ op ≠ 1 then ⟨op, (a.getD 0 arg0).1, (a.getD 1 arg0).1, 0, x⟩
 else ⟨op, 0, 0, 0, x⟩
def zGR (op : Int) (a : List ArgD) (v : Int) : Int :=
 if zAJ op = 2 ∨ zAJ op = 1 then 0 else if 32 ≤ op ∧ op ≤ 36 then (a.getD 1 arg0).2.1 else v
def zHU (op : Int) (a : List ArgD) (v : Int) : Option Int :=
 if zGR op a v < lowD (zAJ op) ∨ zAb (zAJ op) < zGR op a v then none
 else if validD (zHz op a (zGR op a v)) = true then some (encW (zHz op a (zGR op a v))) else none
def zGZ (op : Int) (a : List ArgD) (v : Int) : V := .tup [.int .u32 ((zHU op a v).getD 0), .bool (zHU op a v).isSome]
theorem zBO (l : List ArgD) (i : Nat) (h : i < l.length) : (zC4 l)[i]? = some [.int .i64 (l.getD i arg0).1, .int .i64 (l.getD i arg0).2.1, .str (l.getD i arg0).2.2] := by
 simp [zC4, h, List.getD_eq_getElem?_getD]
theorem low_ge (f : Int) : -2147483648 ≤ lowD f := by unfold lowD; split <;> decide
theorem zR1 (f : Int) : zAb f ≤ 2147483647 := by unfold zAb; (repeat' split) <;> decide
set_option maxHeartbeats 32000000 in
theorem zJ7 (st : StD) (v : Int) (ho : zOj st.op st.l) : zAD Tryz.prog 89 [.st st.row, .int .i64 v] (zGZ st.op st.l v) := by
 obtain ⟨o1, o2, o3, o4⟩ := ho
 obtain ⟨w, op, a, ln, at', sz⟩ := st
 simp only at o1 o2 o3 o4 ⊢
 refine sX Tryz.func89 Tryz.ntmps89 ?_;(repeat intro K hK);refine wr ?_
 refine cX (zFi op) ?_;(repeat intro K hK);refine wr ?_
 refine cc (zIJ (zAJ op)) ?_
 iterate 5 (first | (with_reducible first | refine zAj fun K hK => ?_ | refine zAa ?_) | ((with_reducible first | refine zAV (by kernel_rfl) ?_ | refine zAm ?_ | refine zAi ?_ | refine zAn ?_ | refine zAl ?_ | refine zAk ?_ | refine zAh ?_); simp) | ((repeat ((fail_if_success ((with_reducible refine hK _ ?_))); clear hK)); (with_reducible refine hK _ ?_); clear hK) | refine And.intro (by first | omega | assumption | grind) ?_)
 have hf := zCx op
 refine zBs (α := Int × Int × Int × Int) (fun ⟨x, A, B, C⟩ => (⟨107, [(9, .int .i64 (zAb (zAJ op))), (8, .int .i64 (lowD (zAJ op))), (7, .int .i64 (zAJ op)), (6, .ptr 1 5 0 0), (1, .int .i64 x)], 2, [(1, some ⟨183, 5, true, false, [[.int .i64 op, .int .i64 A, .int .i64 B, .int .i64 C, .int .i32 0]]⟩)], 0⟩ : St)) (fun ⟨x, A, B, C⟩ => (∀ y, zHz op a y = ⟨op, A, B, C, y⟩) ∧ zGR op a v = (if zAJ op = 2 ∨ zAJ op = 1 then 0 else x)) hK (fun ⟨x, A, B, C⟩ hxhJ => ?_) (fun hJ => ?_)
 all_goals clear hK
 ·obtain ⟨hj1, hj2⟩ := hxhJ
  have hlo := low_ge (zAJ op)
  have hhi := zR1 (zAJ op)
  refine au ?_;(repeat intro K hK);refine wr ?_
  by_cases c0 : zAJ op = 2 ∨ zAJ op = 1
  ·rw [if_pos c0] at hj2
   refine zAA rfl (fun _ => ?_) (fun h => absurd c0 (by simpa using h))
   refine au ?_;(repeat intro K hK);refine wr ?_
   by_cases c9 : 0 < lowD (zAJ op) ∨ zAb (zAJ op) < 0
   ·have hv : zGZ op a v = .tup [.int .u32 0, .bool false] := by unfold zGZ zHU; rw [hj2, if_pos c9]; rfl
    refine zAA rfl (fun _ => ?_) (fun h => absurd c9 (by simpa using h))
    refine au ?_;(repeat intro K hK);refine wr ?_
    refine zAB ?_
    simp [hv]
   ·have hv : zGZ op a v = .tup [.int .u32 (if validD ⟨op, A, B, C, 0⟩ then encW ⟨op, A, B, C, 0⟩ else 0), .bool (validD ⟨op, A, B, C, 0⟩)] := by
     unfold zGZ zHU; rw [hj2, if_neg c9, hj1]; split <;> simp [*]
    have hw : IntKind.i32.wrap (0) = 0 := by rw [IntKind.wrap_i32]; omega
    refine zAA rfl (fun h => absurd (by simpa using h) c9) (fun _ => ?_)
    refine au1 @hw ?_;(repeat intro K hK);refine wr ?_
    refine cX (zDW ⟨op, A, B, C, 0⟩ ⟨by simp only; omega, by simp only; omega⟩) ?_;(repeat intro K hK);refine wr ?_
    refine zAB ?_
    simp [hv]
  ·rw [if_neg c0] at hj2
   refine zAA rfl (fun h => absurd (by simpa using h) c0) (fun _ => ?_)
   refine au ?_;(repeat intro K hK);refine wr ?_
   by_cases c9 : x < lowD (zAJ op) ∨ zAb (zAJ op) < x
   ·have hv : zGZ op a v = .tup [.int .u32 0, .bool false] := by unfold zGZ zHU; rw [hj2, if_pos c9]; rfl
    refine zAA rfl (fun _ => ?_) (fun h => absurd c9 (by simpa using h))
    refine au ?_;(repeat intro K hK);refine wr ?_
    refine zAB ?_
    simp [hv]
   ·have hv : zGZ op a v = .tup [.int .u32 (if validD ⟨op, A, B, C, x⟩ then encW ⟨op, A, B, C, x⟩ else 0), .bool (validD ⟨op, A, B, C, x⟩)] := by
     unfold zGZ zHU; rw [hj2, if_neg c9, hj1]; split <;> simp [*]
    have hw : IntKind.i32.wrap (x) = x := by rw [IntKind.wrap_i32]; omega
    refine zAA rfl (fun h => absurd (by simpa using h) c9) (fun _ => ?_)
    refine au1 @hw ?_;(repeat intro K hK);refine wr ?_
    refine cX (zDW ⟨op, A, B, C, x⟩ ⟨by simp only; omega, by simp only; omega⟩) ?_;(repeat intro K hK);refine wr ?_
    refine zAB ?_
    simp [hv]
 by_cases c1 : zAJ op = 2
 ·have g0 := zBO a 0 (by have := o1 c1; omega)
  have g1 := zBO a 1 (by have := o1 c1; omega)
  have g2 := zBO a 2 (by have := o1 c1; omega)
  refine au ?_;(repeat intro K hK);refine wr ?_
  refine gT10 @c1 rfl ?_;(repeat intro K hK);refine wr ?_
  refine zAE ([0, 1, 2, 3, 4, 5, 6, 7, 8, 9, 10, 11, 12, 13, 14, 15, 16, 17] : List Nat) ([[], [0], [0, 1], [0, 1, 2], [], [4], [4, 5], [4, 5, 6], [], [8], [8, 9], [8, 9, 10], [0, 1, 2, 3], [0, 1, 2, 3, 12], [0, 1, 2, 3, 4, 5, 6, 7, 12, 13], [0, 1, 2, 3, 4, 5, 6, 7, 12, 13, 14], [0, 1, 2, 3, 4, 5, 6, 7, 8, 9, 10, 11, 12, 13, 14, 15], [0, 1, 2, 3, 4, 5, 6, 7, 8, 9, 10, 11, 12, 13, 14, 15, 16]] : List (List Nat)) ([(16, ([[], [0], [0, 1], [0, 1, 2], [], [4], [4, 5], [4, 5, 6], [], [8], [8, 9], [8, 9, 10], [0, 1, 2, 3], [0, 1, 2, 3, 12], [0, 1, 2, 3, 4, 5, 6, 7, 12, 13], [0, 1, 2, 3, 4, 5, 6, 7, 12, 13, 14]], [(5, 13), (7, 13), (9, 13), (9, 15), (11, 13), (11, 15)])), (1, ([], [])), (1, ([], []))] : List (Nat × List (List Nat) × List (Nat × Nat))) (by kernel_rfl) (by kernel_rfl) (by kernel_rfl) ?_
  refine af1 (kX3 @g0 @g1 @g2) ?_;(repeat intro K hK);refine wr ?_
  refine af ?_;(repeat intro K hK);refine wr ?_
  refine hJ ⟨v, (a.getD 0 arg0).1, (a.getD 1 arg0).1, (a.getD 2 arg0).1⟩ _ (id) (⟨fun y => by simp only [zHz, if_pos c1], by simp [zGR, c1]⟩) ⟨rfl, ?_, ?_, ?_, by simp⟩
  ·simp [leT, ltV, lt1, ren, ren1]
  ·simp [leO, lt1, ren1]
  ·(simp; try omega)
 ·refine af ?_;(repeat intro K hK);refine wr ?_
  refine zBY @c1 rfl ?_;(repeat intro K hK);refine wr ?_
  by_cases c2 : 32 ≤ op ∧ op ≤ 36
  ·have g0 := zBO a 0 (by have := o2 c2; omega)
   have g1 := zBO a 1 (by have := o2 c2; omega)
   have g2 := zBO a 2 (by have := o2 c2; omega)
   have hf3 : zAJ op = 3 := by unfold zAJ; rw [if_neg (by omega), if_pos (by omega)]
   refine zEG @c2 rfl ?_;(repeat intro K hK);refine wr ?_
   refine zAE ([0, 1, 2, 3, 4, 5, 6, 7, 8, 9, 10, 11] : List Nat) ([[], [0], [0, 1], [0, 1, 2], [], [4], [4, 5], [4, 5, 6], [0, 1, 2, 3], [0, 1, 2, 3, 8], [0, 1, 2, 3, 4, 5, 6, 7, 8, 9], [0, 1, 2, 3, 4, 5, 6, 7, 8, 9, 10]] : List (List Nat)) ([(10, ([[], [0], [0, 1], [0, 1, 2], [], [4], [4, 5], [4, 5, 6], [0, 1, 2, 3], [0, 1, 2, 3, 8]], [(5, 9), (7, 9)])), (1, ([], [])), (1, ([], []))] : List (Nat × List (List Nat) × List (Nat × Nat))) (by kernel_rfl) (by kernel_rfl) (by kernel_rfl) ?_
   refine af1 (kX3 @g0 @g1 @g2) ?_;(repeat intro K hK);refine wr ?_
   refine af1 (kX3 @g0 @g1 @g2) ?_;(repeat intro K hK);refine wr ?_
   refine hJ ⟨(a.getD 1 arg0).2.1, (a.getD 0 arg0).1, (a.getD 2 arg0).1, 0⟩ _ (id) (⟨fun y => by simp only [zHz, if_neg c1, if_pos c2], by simp [zGR, hf3, c2]⟩) ⟨rfl, ?_, ?_, ?_, by simp⟩
   ·simp [leT, ltV, lt1, ren, ren1]
   ·simp [leO, lt1, ren1]
   ·(simp; try omega)
  ·refine zAA rfl (fun h => absurd (by simpa using h) c2) (fun _ => ?_)
   refine af ?_;(repeat intro K hK);refine wr ?_
   by_cases c3 : 6 ≤ zAJ op
   ·have g0 := zBO a 0 (by have := o3 c3; omega)
    refine zCt @c3 rfl @g0 ?_;(repeat intro K hK);refine wr ?_
    refine hJ ⟨v, (a.getD 0 arg0).1, 0, 0⟩ _ (id) (⟨fun y => by simp only [zHz, if_neg c1, if_neg c2, if_pos c3], by simp only [zGR, if_neg c2]⟩) ⟨rfl, ?_, ?_, ?_, by simp⟩
    ·simp [leT, ltV, lt1, ren, ren1]
    ·simp [leO, lt1, ren1]
    ·(simp; try omega)
   ·refine zBY @c3 rfl ?_;(repeat intro K hK);refine wr ?_
    by_cases c4 : zAJ op = 1
    ·refine zBY @c4 rfl ?_;(repeat intro K hK);refine wr ?_
     refine hJ ⟨v, 0, 0, 0⟩ _ (id) (⟨fun y => by simp only [zHz, if_neg c1, if_neg c2, if_neg c3, c4]; rfl, by simp only [zGR, if_neg c2]⟩) ⟨rfl, ?_, ?_, ?_, by simp⟩
     ·simp [leT, ltV, lt1, ren, ren1]
     ·simp [leO, lt1, ren1]
     ·(simp; try omega)
    ·have g0 := zBO a 0 (by have := o4 c4 (by omega); omega)
     have g1 := zBO a 1 (by have := o4 c4 (by omega); omega)
     refine zEG @c4 rfl ?_;(repeat intro K hK);refine wr ?_
     refine zAE ([0, 1, 2, 3, 4, 5, 6, 7, 8, 9, 10, 11] : List Nat) ([[], [0], [0, 1], [0, 1, 2], [], [4], [4, 5], [4, 5, 6], [0, 1, 2, 3], [0, 1, 2, 3, 8], [0, 1, 2, 3, 4, 5, 6, 7, 8, 9], [0, 1, 2, 3, 4, 5, 6, 7, 8, 9, 10]] : List (List Nat)) ([(10, ([[], [0], [0, 1], [0, 1, 2], [], [4], [4, 5], [4, 5, 6], [0, 1, 2, 3], [0, 1, 2, 3, 8]], [(5, 9), (7, 9)])), (1, ([], [])), (1, ([], []))] : List (Nat × List (List Nat) × List (Nat × Nat))) (by kernel_rfl) (by kernel_rfl) (by kernel_rfl) ?_
     refine af1 (kX2 @g0 @g1) ?_;(repeat intro K hK);refine wr ?_
     refine af ?_;(repeat intro K hK);refine wr ?_
     refine hJ ⟨v, (a.getD 0 arg0).1, (a.getD 1 arg0).1, 0⟩ _ (id) (⟨fun y => by simp only [zHz, if_neg c1, if_neg c2, if_neg c3, if_pos c4], by simp only [zGR, if_neg c2]⟩) ⟨rfl, ?_, ?_, ?_, by simp⟩
     ·simp [leT, ltV, lt1, ren, ren1]
     ·simp [leO, lt1, ren1]
     ·(simp; try omega)
def opC (c : UInt8) : Bool := decide (c = 114) || decide (c = 110) || decide (c = 120)
theorem zMG (s : Str) : (-2147483648 ≤ (numX s).1 ∧ (numX s).1 ≤ 4294967295) ∨ (numX s).2 = false := by
 unfold numX
 split
 ·split
  ·exact .inl ⟨by simp only; omega, by simp only; omega⟩
  ·rename_i h1 h2
   split
   ·rename_i n hn
    have h3 : n < 16 ^ ((s.drop 2).length) := by have := zNE (.inr rfl) _ _ _ hn; simpa using this
    have h4 : 16 ^ (s.drop 2).length ≤ 16 ^ 8 := Nat.pow_le_pow_right (by decide) (by simp; omega)
    have h5 : (16 : Nat) ^ 8 = 4294967296 := by decide
    exact .inl ⟨by simp only; omega, by simp only; omega⟩
   ·exact .inl ⟨by simp only; omega, by simp only; omega⟩
 ·by_cases hm : s.getD 0 0 = 45
  ·simp only [if_pos hm]
   split
   ·exact .inl ⟨by simp only; omega, by simp only; omega⟩
   ·split
    ·exact .inl ⟨by simp only; omega, by simp only; omega⟩
    ·rename_i n hn
     by_cases h : -2147483648 ≤ -(n : Int)
     ·exact .inl ⟨h, by simp only; omega⟩
     ·exact .inr (by simp [h])
  ·simp only [if_neg hm]
   split
   ·exact .inl ⟨by simp only; omega, by simp only; omega⟩
   ·split
    ·exact .inl ⟨by simp only; omega, by simp only; omega⟩
    ·rename_i n hn
     by_cases h : (n : Int) ≤ 4294967295
     ·exact .inl ⟨by simp only; omega, h⟩
     ·exact .inr (by simp [h])
def okArg (a : ArgD) : Prop := (0 ≤ a.1 ∧ a.1 ≤ 15) ∧ -2147483648 ≤ a.2.1 ∧ a.2.1 ≤ 4294967295
theorem zDL : ∀ {l : List Tok} {p : Str} {a : List ArgD}, matF l p = some a → a.length = (p.filter opC).length ∧ ∀ x ∈ a, okArg x
 | [], [], a, h => by simp only [matF, Option.some.injEq] at h; subst h; simp
 | [], _ :: _, a, h => by simp [matF] at h
 | _ :: _, [], a, h => by simp [matF] at h
 | t :: l, c :: p, a, h => by
  simp only [matF] at h
  split at h
  ·rename_i hc
   have hop : opC c = true := by simp [opC, hc]
   split at h
   ·split at h
    ·rename_i q hq
     obtain ⟨a', e, rfl⟩ := Option.map_eq_some_iff.1 h
     obtain ⟨h1, h2⟩ := zDL e
     refine ⟨by simp [hop, h1], fun x hx => ?_⟩
     rcases List.mem_cons.1 hx with rfl | hx
     ·have := zSs hq
      exact ⟨⟨by simp only; omega, by simp only; omega⟩, by simp only; omega, by simp only; omega⟩
     ·exact h2 x hx
    ·simp at h
   ·simp at h
  ·split at h
   ·rename_i hc
    have hop : opC c = true := by rcases hc with rfl | rfl <;> decide
    split at h
    ·obtain ⟨a', e, rfl⟩ := Option.map_eq_some_iff.1 h
     obtain ⟨h1, h2⟩ := zDL e
     refine ⟨by simp [hop, h1], fun x hx => ?_⟩
     rcases List.mem_cons.1 hx with rfl | hx
     ·exact ⟨⟨by simp only; omega, by simp only; omega⟩, by simp only; omega, by simp only; omega⟩
     ·exact h2 x hx
    ·split at h
     ·rename_i hn
      obtain ⟨a', e, rfl⟩ := Option.map_eq_some_iff.1 h
      obtain ⟨h1, h2⟩ := zDL e
      refine ⟨by simp [hop, h1], fun x hx => ?_⟩
      rcases List.mem_cons.1 hx with rfl | hx
      ·refine ⟨⟨by simp only; omega, by simp only; omega⟩, ?_⟩
       rcases zMG t.2.1 with q | q
       ·exact q
       ·rw [hn.2] at q; simp at q
      ·exact h2 x hx
     ·simp at h
   ·rename_i hc1 hc2
    have hop : opC c = false := by
     simp only [not_or] at hc2
     simp [opC, hc1, hc2.1, hc2.2]
    split at h
    ·obtain ⟨h1, h2⟩ := zDL h
     exact ⟨by simp [hop, h1], h2⟩
    ·simp at h
abbrev zQ6 : Str := [46, 119, 111, 114, 100]
abbrev zKj : Str := [46, 115, 112, 97, 99, 101]
abbrev liWd : Str := [108, 105]
abbrev mvW : Str := [109, 118]
abbrev nopW : Str := [110, 111, 112]
def zMh (st : StD) : Prop := st.l.length ≤ 6 ∧ (0 ≤ st.size ∧ st.size ≤ 1024) ∧ (∀ x ∈ st.l, okArg x) ∧ (st.what = liWd → 1 ≤ st.l.length) ∧ (st.what = mvW → 2 ≤ st.l.length) ∧
 (st.what ≠ zQ6 → st.what ≠ zKj → st.what ≠ liWd → st.what ≠ mvW → st.what ≠ nopW → zOj st.op st.l)
theorem zTJ {w p : Str} (h : patR w = some p) : p.length ≤ 6 := by
 unfold patR at h
 by_cases e0 : w = zQ6
 ·rw [if_pos e0] at h; have e := Option.some.inj h; subst e; decide
 rw [if_neg e0] at h
 by_cases e1 : w = zKj
 ·rw [if_pos e1] at h; have e := Option.some.inj h; subst e; decide
 rw [if_neg e1] at h
 by_cases e2 : w = liWd
 ·rw [if_pos e2] at h; have e := Option.some.inj h; subst e; decide
 rw [if_neg e2] at h
 by_cases e3 : w = mvW
 ·rw [if_pos e3] at h; have e := Option.some.inj h; subst e; decide
 rw [if_neg e3] at h
 by_cases e4 : w = nopW
 ·rw [if_pos e4] at h; have e := Option.some.inj h; subst e; decide
 rw [if_neg e4] at h
 (repeat' split at h) <;> simp only [Option.some.injEq, reduceCtorEq] at h
 all_goals (subst h; decide)
theorem zNH {w p : Str} {q : List Tok} {a : List ArgD} {st : StD} (hp : patR w = some p) (hm : matF q p = some a) (h : finR w a = some st) : zMh st := by
 obtain ⟨f1, _, _, f4, f5⟩ := zRt h
 obtain ⟨m1, m2⟩ := zDL hm
 have hl : st.l = a ∧ st.op = opD w := by
  unfold finR at h
  split at h
  ·simp only [Option.some.injEq] at h; subst h; exact ⟨rfl, rfl⟩
  ·split at h
   ·split at h
    ·simp at h
    ·simp only [Option.some.injEq] at h; subst h; exact ⟨rfl, rfl⟩
   ·simp only [Option.some.injEq] at h; subst h; exact ⟨rfl, rfl⟩
 obtain ⟨l1, l2⟩ := hl
 refine ⟨by rw [l1, m1]; exact Nat.le_trans (List.length_filter_le ..) (zTJ hp), ⟨f4, f5⟩, by rw [l1]; exact m2, fun e => ?_, fun e => ?_, fun e1 e2 e3 e4 e5 => ?_⟩
 ·rw [f1] at e
  rw [e, show patR liWd = some [114, 44, 120] from by decide +kernel] at hp
  simp only [Option.some.injEq] at hp
  rw [l1, m1, ← hp]; decide
 ·rw [f1] at e
  rw [e, show patR mvW = some [114, 44, 114] from by decide +kernel] at hp
  simp only [Option.some.injEq] at hp
  rw [l1, m1, ← hp]; decide
 ·rw [f1] at e1 e2 e3 e4 e5
  unfold patR at hp
  rw [if_neg e1, if_neg e2, if_neg e3, if_neg e4, if_neg e5] at hp
  rw [l1, l2]
  have hk : ∀ (x : Str) (k : Nat), p = x → (x.filter opC).length = k → a.length = k := fun x k e e' => by rw [m1, e, e']
  have h48 : zAJ 48 = 7 := by decide
  have h48' : opD w = 48 → zAJ (opD w : Nat) = 7 := fun e => by rw [e]; exact h48
  unfold zOj
  (repeat' split at hp) <;> simp only [Option.some.injEq, reduceCtorEq] at hp
  all_goals (first | (have h3 := hk _ 3 hp.symm (by decide); omega) | (have h3 := hk _ 2 hp.symm (by decide); omega) | (have h3 := hk _ 0 hp.symm (by decide); omega))
theorem zQo {t lb : Str} {st : StD} (h : parR t = some (lb, some st)) : zMh st := by
 unfold parR at h
 split at h
 ·simp at h
 ·split at h
  ·simp at h
  ·split at h
   ·simp at h
   ·obtain ⟨st', e, h'⟩ := Option.map_eq_some_iff.1 h
    simp only [Prod.mk.injEq, Option.some.injEq] at h'
    obtain ⟨_, rfl⟩ := h'
    unfold bodR at e
    split at e
    ·simp at e
    ·rename_i p hp
     split at e
     ·split at e
      ·simp at e
      ·rename_i a hm
       exact zNH hp hm e
     ·simp at e
def zSL (p : PrR) : Prop := (∀ st ∈ p.sts, zMh st ∧ 0 ≤ st.at' ∧ st.at' ≤ 1024) ∧ (∀ x ∈ p.syms, 0 ≤ x.2 ∧ x.2 ≤ 4096) ∧ 0 ≤ p.at' ∧ p.at' ≤ 1024
theorem zNr {st : StD} (h : zMh st) (n a : Int) : zMh { st with line := n, at' := a } := h
theorem zFv : ∀ {L : List Str} {n : Int} {p q : PrR}, redF L n p = .ok q → zSL p → zSL q ∧ q.sts.length ≤ p.sts.length + L.length ∧ q.syms.length ≤ p.syms.length + L.length
 | [], n, p, q, h, g => by simp only [redF, Except.ok.injEq] at h; subst h; exact ⟨g, by simp, by simp⟩
 | t :: ts, n, p, q, h, g => by
  obtain ⟨g1, g2, g3, g4⟩ := g
  simp only [redF] at h
  split at h
  ·simp at h
  ·rename_i lb st hpr
   split at h
   ·simp at h
   ·rename_i S hS
    have hSg : (∀ x ∈ S, 0 ≤ x.2 ∧ x.2 ≤ 4096) ∧ S.length ≤ p.syms.length + 1 := by
     unfold labS at hS
     split at hS
     ·simp only [Option.some.injEq] at hS; subst hS; exact ⟨g2, by omega⟩
     ·split at hS
      ·simp at hS
      ·simp only [Option.some.injEq] at hS; subst hS
       refine ⟨fun x hx => ?_, by simp⟩
       rcases List.mem_append.1 hx with hx | hx
       ·exact g2 x hx
       ·simp only [List.mem_singleton] at hx; subst hx; exact ⟨by simp only; omega, by simp only; omega⟩
    split at h
    ·simp at h
    ·rename_i hw
     cases st with
     | none =>
      simp only [addS] at h hw
      obtain ⟨r1, r2, r3⟩ := zFv h ⟨g1, hSg.1, g3, g4⟩
      exact ⟨r1, by simp only [List.length_cons] at r2 ⊢; omega, by have := hSg.2; simp only [List.length_cons] at r3 ⊢; omega⟩
     | some st =>
      simp only [addS] at h hw
      obtain ⟨z1, z2, z3⟩ := zRe hpr
      obtain ⟨r1, r2, r3⟩ := zFv h ⟨fun x hx => by
       rcases List.mem_append.1 hx with hx | hx
       ·exact g1 x hx
       ·simp only [List.mem_singleton] at hx; subst hx; exact ⟨zNr (zQo hpr) _ _, g3, g4⟩, hSg.1, by simp only; omega, by simp only; omega⟩
      exact ⟨r1, by simp only [List.length_cons, List.length_append, List.length_nil] at r2 ⊢; omega, by have := hSg.2; simp only [List.length_cons] at r3 ⊢; omega⟩
theorem zMF {s : Str} {q : PrR} (h : zGO s = .ok q) : zSL q ∧ q.sts.length ≤ s.length + 1 ∧ q.syms.length ≤ s.length + 1 := by
 unfold zGO at h
 split at h
 ·simp at h
 ·obtain ⟨h1, h2, h3⟩ := zFv h ⟨by simp, by simp, by simp, by simp⟩
  have := (zF5 s).1
  simp only [List.length_nil, Nat.zero_add] at h2 h3
  exact ⟨h1, by omega, by omega⟩
end Go.Proofs.YtjmhjieflbnehaaGreat.As
end
